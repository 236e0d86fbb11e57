/- Maps of a call's own: lookup, mapUpdate. -/
import Derived.Test.YtbpedjefoajegaaDoorCoreR
import Derived.MapKept
namespace Go.Proofs.YtbpedjefoajegaaDoor.K
open Go Go.RowKit

/-- A key whose look-up asks nothing beside it. -/
def chkB (P : Program) (t : TypeId) (v : Value) : Bool := match P.underlying t, v with
  | some (.int _), _ | some .string, _ | some .bool, _ => true
  | some (.struct fs), .agg cs => fs.toList.all fun f => (match P.underlying f.type with | some (.int _) | some .string | some .bool => true | _ => false) && (partV P f.type cs f.offset).isSome
  | _, _ => false
theorem run_checkKey_flat {P : Program} {w : World} {t : TypeId} {v : Value} {em : Bool} (n : Nat) (h : (match P.underlying t with | some (.int _) | some .string | some .bool => true | _ => false) = true) : (Instr.checkKey em (n + 1) t v).run P w = .ok () w := by
  cases hu : P.underlying t with
  | none => simp [hu] at h
  | some d => cases d <;> simp [hu] at h <;> simp [Instr.checkKey, run_underlying hu]
theorem run_chk {P : Program} {w : World} {t : TypeId} {v : Value} {em : Bool} (h : chkB P t v = true) : (Instr.checkKey em 10000 t v).run P w = .ok () w := by
  unfold chkB at h
  cases hu : P.underlying t with
  | none => simp [hu] at h
  | some d =>
    cases d
    case int k => exact run_checkKey_flat 9999 (by simp [hu])
    case string => exact run_checkKey_flat 9999 (by simp [hu])
    case bool => exact run_checkKey_flat 9999 (by simp [hu])
    case struct fs =>
      obtain ⟨cs, rfl⟩ : ∃ cs, v = .agg cs := by
        cases v <;> simp only [hu] at h <;> first | exact ⟨_, rfl⟩ | cases h
      simp only [hu] at h
      rw [show (10000 : Nat) = 9999 + 1 from rfl, Instr.checkKey]
      simp only [Sem.run_bind, run_underlying hu, Result.andThen_ok]
      rw [← Array.forIn_toList]
      generalize fs.toList = l at h
      induction l with
      | nil => simp
      | cons f l ih =>
        simp only [List.all_cons, Bool.and_eq_true] at h
        obtain ⟨⟨h1, h2⟩, h3⟩ := h
        obtain ⟨u, hu2⟩ := Option.isSome_iff_exists.1 h2
        have hc := run_checkKey_flat (P := P) (w := w) (t := f.type) (v := u) (em := em) 9998 h1
        have ih' := ih h3
        by_cases hn : f.name ≠ "_"
        · simp only [List.forIn_cons, Sem.run_bind, if_pos hn, run_part hu2, Result.andThen_ok, hc, Sem.run_pure] at ih' ⊢
          exact ih'
        · simp only [List.forIn_cons, Sem.run_bind, if_neg hn, Result.andThen_ok, Sem.run_pure] at ih' ⊢
          exact ih'
    all_goals (simp [hu] at h; done)

/-- Keys of a kind: told apart as their letters are. -/
structure KeyOk {κ : Type} (P : Program) (t : TypeId) (kf : κ → Value) : Prop where
  wide : (match P.underlying t with | some (.struct _) => true | _ => false) = true
  eq : ∀ a b, ∃ e, eqV P 4 t (kf a) (kf b) = some e ∧ (e = true ↔ a = b)
  chk : ∀ a, chkB P t (kf a) = true
  bits : ∀ a, Instr.sameBits 10000 (kf a) (kf a) = true

section
variable {κ ν : Type} {P : Program} {t : TypeId} {kf : κ → Value} {vf : ν → Value} [DecidableEq κ] {w : World}

theorem KeyOk.equal (K : KeyOk P t kf) (a b : κ) : (Op.equal t (kf a) (kf b)).run P w = .ok (decide (a = b)) w := by
  obtain ⟨e, he, hb⟩ := K.eq a b
  have := run_eqV (P := P) (w := w) (m := 9996) he
  rw [show decide (a = b) = e from by rw [Bool.eq_iff_iff, hb]; simp]
  exact this
omit [DecidableEq κ] in
theorem findKey_wide (K : KeyOk P t kf) (x : Value) (es : List MapEntry) : (Instr.findKey t x es).run P w = (Instr.findAsking t x es).run P w := by
  have h := K.wide
  cases hu : P.underlying t with
  | none => simp [hu] at h
  | some kd =>
    cases es with
    | nil => simp [Instr.findKey, run_underlying hu, Instr.findNow, Instr.findAsking]
    | cons e es => cases kd <;> simp [hu] at h <;> simp [Instr.findKey, run_underlying hu, Instr.findNow, Instr.sameNow]

/-- The entries say these pairs. -/
def Ents (kf : κ → Value) (vf : ν → Value) (es : Array MapEntry) (l : List (κ × ν)) : Prop := es.toList.map (fun e => (e.key, e.val)) = l.map fun p => (kf p.1, vf p.2)

theorem find_ents (K : KeyOk P t kf) (k : κ) : ∀ (es : List MapEntry) (l : List (κ × ν)) (i : Nat), es.map (fun e => (e.key, e.val)) = l.map (fun p => (kf p.1, vf p.2)) →
    (Instr.findAsking t (kf k) es i).run P w = .ok ((l.findIdx? (fun p => decide (k = p.1))).bind fun j => (l[j]?).map fun p => (i + j, vf p.2)) w
  | [], [], i, _ => by simp [Instr.findAsking]
  | [], _ :: _, _, h => by simp at h
  | _ :: _, [], _, h => by simp at h
  | e :: es, p :: l, i, h => by
    simp only [List.map_cons, List.cons.injEq, Prod.mk.injEq] at h
    obtain ⟨⟨h1, h2⟩, h3⟩ := h
    have ih := find_ents K k es l (i + 1) h3
    simp only [Instr.findAsking, Sem.run_bind, h1, K.equal, Result.andThen_ok]
    by_cases hk : k = p.1
    · simp [hk, h2, List.findIdx?_cons]
    · simp only [hk, decide_false, Bool.false_eq_true, if_false, ih, List.findIdx?_cons]
      cases hf : l.findIdx? (fun p => decide (k = p.1)) with
      | none => simp
      | some j => simp [Nat.add_comm, Nat.add_left_comm]

/-- Entries that came later have later stamps. -/
def Born (es : Array MapEntry) (c : Nat) : Prop := es.toList.Pairwise (fun a b => a.born < b.born) ∧ ∀ e ∈ es.toList, e.born < c
/-- A map in memory that is its owner's alone. -/
def Res.mp (b : Nat) (kf : κ → Value) (vf : ν → Value) (l : List (κ × ν)) : Res :=
  ⟨fun k => k = b, fun w => ∃ es c, w.heap[b]? = some (.map es c) ∧ Ents kf vf es l ∧ Born es c, fun h ⟨es, c, h1, h2⟩ => ⟨es, c, (h _ rfl).trans h1, h2⟩⟩
omit [DecidableEq κ] in
theorem Born.push {es : Array MapEntry} {c : Nat} {x y : Value} (h : Born es c) : Born (es.push { key := x, val := y, born := c }) (c + 1) := by
  unfold Born at *
  rw [Array.toList_push, List.pairwise_append]
  refine ⟨⟨h.1, List.pairwise_singleton _ _, fun a ha b hb => ?_⟩, fun e he => ?_⟩
  · rw [List.mem_singleton.1 hb]; exact h.2 a ha
  · rcases List.mem_append.1 he with he | he
    · exact Nat.lt_succ_of_lt (h.2 e he)
    · rw [List.mem_singleton.1 he]; exact Nat.lt_succ_self c
omit [DecidableEq κ] in
theorem Born.modify {es : Array MapEntry} {c j : Nat} {x y : Value} (h : Born es c) : Born (es.modify j fun e => { e with key := x, val := y }) c := by
  unfold Born at *
  have hm : (es.modify j fun e => { e with key := x, val := y }).toList.map (·.born) = es.toList.map (·.born) := by
    apply List.ext_getElem?
    intro i
    simp only [List.getElem?_map, Array.getElem?_toList, Array.getElem?_modify]
    split
    · cases es[i]? <;> rfl
    · rfl
  constructor
  · have := List.pairwise_map.2 h.1
    rw [← hm] at this
    exact List.pairwise_map.1 this
  · intro e he
    have : e.born ∈ es.toList.map (·.born) := by rw [← hm]; exact List.mem_map_of_mem he
    obtain ⟨e', he', hb⟩ := List.mem_map.1 this
    rw [← hb]; exact h.2 e' he'

def mapV (l : List (κ × ν)) (k : κ) : Option ν := (l.findIdx? (fun p => decide (k = p.1))).bind fun j => (l[j]?).map (·.2)
theorem mapV_cons (p : κ × ν) (l : List (κ × ν)) (k : κ) : mapV (p :: l) k = if k = p.1 then some p.2 else mapV l k := by
  unfold mapV
  rw [List.findIdx?_cons]
  by_cases h : k = p.1
  · simp [h]
  · simp only [h, decide_false, Bool.false_eq_true, if_false]
    cases l.findIdx? (fun p => decide (k = p.1)) <;> simp
theorem mapV_mem {l : List (κ × ν)} {k : κ} {v : ν} (h : mapV l k = some v) : (k, v) ∈ l := by
  induction l with
  | nil => simp [mapV] at h
  | cons p l ih =>
    rw [mapV_cons] at h
    split at h
    · rename_i hk; cases h; subst hk; simp
    · exact List.mem_cons_of_mem _ (ih h)

/-- Looking a key up, with the answer whether it is there. -/
theorem Lk.ok {mt et : TypeId} {b : Nat} {l : List (κ × ν)} (K : KeyOk P t kf) (hm : P.underlying mt = some (.map t et)) (h : (Res.mp b kf vf l).holds w) (k : κ) {z : Value} (hz : (zeroValue et).run P w = .ok z w) :
    Lk P w mt (.map (some b)) (kf k) true (.tuple #[(match mapV l k with | some v => vf v | none => z), .bool (mapV l k).isSome]) := by
  obtain ⟨es, c, hb, he, hbn⟩ := h
  have hf := find_ents (P := P) (w := w) K k es.toList l 0 he
  have hg : (getObj b).run P w = .ok (.map es c) w := MapKept.run_getObj_map hb
  unfold Lk Instr.lookup
  simp only [Sem.run_bind, run_underlying hm, Result.andThen_ok, hg, Sem.run_pure, run_chk (K.chk k), findKey_wide K, hf]
  unfold mapV
  cases l.findIdx? (fun p => decide (k = p.1)) with
  | none => simp [hz]
  | some j =>
    cases hj : l[j]? with
    | none => simp [hj, hz]
    | some p => simp [hj]

theorem Lk.okI {kd : IntKind} {mt et : TypeId} {b : Nat} {l : List (κ × Int)} (K : KeyOk P t kf) (hm : P.underlying mt = some (.map t et)) (h : (Res.mp b kf (fun y : Int => .int kd y) l).holds w) (k : κ) (hz : (P.info? et).bind (·.zero) = some (.int kd 0)) :
    Lk P w mt (.map (some b)) (kf k) true (.tuple #[.int kd ((mapV l k).getD 0), .bool (mapV l k).isSome]) := by
  have hz' : (zeroValue et).run P w = .ok (.int kd 0) w := by
    cases hi : P.info? et with
    | none => simp [hi] at hz
    | some i => simp [hi] at hz; simp [zeroValue, typeInfo, hi, hz]
  have := Lk.ok K hm h k hz'
  cases hv : mapV l k <;> simpa [hv] using this

def mapPut (l : List (κ × ν)) (k : κ) (v : ν) : List (κ × ν) := match l.findIdx? (fun p => decide (k = p.1)) with
  | some j => l.modify j fun _ => (k, v)
  | none => l ++ [(k, v)]
theorem mapPut_sub {l : List (κ × ν)} {k : κ} {v : ν} : ∀ p ∈ mapPut l k v, p = (k, v) ∨ p ∈ l := by
  intro p hp
  unfold mapPut at hp
  split at hp
  · rename_i j hj
    rw [List.mem_iff_getElem?] at hp
    obtain ⟨i, hi⟩ := hp
    rw [List.getElem?_modify] at hi
    split at hi
    · cases h : l[i]? with
      | none => simp [h] at hi
      | some q => simp [h] at hi; exact .inl hi.symm
    · simp at hi; exact .inr (List.mem_of_getElem? hi)
  · simp at hp; rcases hp with hp | hp
    · exact .inr hp
    · exact .inl hp
end

section
variable {κ ν : Type} {P : Program} {t : TypeId} {kf : κ → Value} {vf : ν → Value} [DecidableEq κ] {N : Nat} {ops : Array Oper} {Q : Post} {next : Env → World → Prop} {e : Env} {w w0 : World} {M : Nat → Prop} {A B : List Res} {ty : TypeId} {pos : String} {af : Array Edge}

theorem run_mapUpdate {mt et : TypeId} {b : Nat} {l : List (κ × ν)} (K : KeyOk P t kf) (hm : P.underlying mt = some (.map t et)) (h : (Res.mp b kf vf l).holds w) (k : κ) (v : ν) :
    ∃ w', (Instr.mapUpdate mt (.map (some b)) (kf k) (vf v)).run P w = .ok () w' ∧ (Res.mp b kf vf (mapPut l k v)).holds w' ∧ Fram (fun x => x = b) w w' := by
  obtain ⟨es, c, hb, he, hbn⟩ := h
  have hf := find_ents (P := P) (w := w) K k es.toList l 0 he
  have hg : (getObj b).run P w = .ok (.map es c) w := MapKept.run_getObj_map hb
  have fr : ∀ o, Fram (fun x => x = b) w { w with heap := w.heap.setIfInBounds b o } := fun o => ⟨rfl, rfl, rfl, by simp, fun i _ hn => (MapKept.heap_set hb).2 i hn⟩
  cases hx : l.findIdx? (fun p => decide (k = p.1)) with
  | none =>
    refine ⟨_, ?_, ⟨es.push { key := kf k, val := vf v, born := c }, c + 1, (MapKept.heap_set (o' := .map (es.push { key := kf k, val := vf v, born := c }) (c + 1)) hb).1, ?_, hbn.push⟩, fr _⟩
    · simp only [Instr.mapUpdate, Sem.run_bind, run_underlying hm, Result.andThen_ok, hg, run_chk (K.chk k), findKey_wide K, hf, hx, Option.bind_none]
      exact MapKept.run_setObj_map _ hb
    · unfold Ents at *
      simp [mapPut, hx, he]
  | some j =>
    obtain ⟨hj, hp, _⟩ := List.findIdx?_eq_some_iff_getElem.1 hx
    have hlen : es.size = l.length := by have := congrArg List.length he; simpa using this
    have hkey : (es[j]'(by omega)).key = kf k := by
      have := congrArg (fun q => q[j]?) he
      simp [hlen, hj] at this
      rw [this.1, show l[j].1 = k from (of_decide_eq_true hp).symm]
    refine ⟨_, ?_, ⟨es.modify j fun e => { e with key := kf k, val := vf v }, c, (MapKept.heap_set (o' := .map (es.modify j fun e => { e with key := kf k, val := vf v }) c) hb).1, ?_, hbn.modify⟩, fr _⟩
    · simp only [Instr.mapUpdate, Sem.run_bind, run_underlying hm, Result.andThen_ok, hg, run_chk (K.chk k), findKey_wide K, hf, hx, Option.bind_some, List.getElem?_eq_getElem hj, Option.map_some, Nat.zero_add]
      simp only [Instr.keyThatStays, show es[j]? = some (es[j]'(by omega)) from by simp [hlen, hj], Option.map_some, Option.getD_some, hkey, K.bits k, if_true, Sem.run_pure, Result.andThen_ok]
      exact MapKept.run_setObj_map _ hb
    · unfold Ents at *
      simp only [mapPut, hx]
      apply List.ext_getElem?
      intro i
      have hi := congrArg (fun q => q[i]?) he
      simp only [List.getElem?_map, Array.getElem?_toList] at hi
      simp only [List.getElem?_map, Array.getElem?_toList, Array.getElem?_modify, List.getElem?_modify]
      by_cases hij : j = i
      · subst hij; simp [hlen, hj]
      · simp [hij, hi]

theorem opStep.mapUpdate {mt et : TypeId} {x y z : Operand} {b : Nat} {l : List (κ × ν)} (K : KeyOk P t kf) (hm : P.underlying mt = some (.map t et)) (hp : Hp w0 M (A ++ Res.mp b kf vf l :: B) w) (k : κ) (v : ν)
    (hx : (ev e x, ev e y, ev e z) = (.map (some b), kf k, vf v))
    (h : ∀ w', Hp w0 M (A ++ Res.mp b kf vf (mapPut l k v) :: B) w' → next e w') :
    opStep P N ops Q ⟨none, .mapUpdate mt x y z, ty, pos, af, none⟩ next e w := by
  simp only [Prod.mk.injEq] at hx
  obtain ⟨hx, hy, hz⟩ := hx
  obtain ⟨w', hrun, hh, hf⟩ := run_mapUpdate (P := P) (w := w) K hm hp.get k v
  refine opStep.skip (w' := w') rfl ?_ (h w' ?_)
  · simp [execOp, hx, hy, hz, hrun]
  · exact hp.mod hf _ hh fun i hi => ⟨Nat.lt_of_lt_of_le (hp.lt i hi) hf.size, .inl hi⟩
omit [DecidableEq κ] in
theorem opStep.makeMapK {T : TypeId} {d : Tmp} {L : List Res} (kf : κ → Value) (vf : ν → Value) (hp : Hp w0 M L w)
    (h : ∀ b w', Hp w0 M (Res.mp b kf vf [] :: L) w' → next (upd e d (.map (some b))) w') :
    opStep P N ops Q ⟨some d, .makeMap T none, ty, pos, af, none⟩ next e w :=
  opStep.makeMap hp fun b w' hp' => h b w' (Hp.turn (A := []) hp' (Res.mp b kf vf []) (fun hh => ⟨#[], 0, hh, rfl, ⟨List.Pairwise.nil, fun _ h => by cases h⟩⟩) fun _ hb => hb)
end

section
variable {w w0 : World} {M : Nat → Prop} {A B L : List Res}
theorem Hp.perm {L' : List Res} (h : Hp w0 M L w) (hp : L.Perm L') : Hp w0 M L' w :=
  ⟨h.fr, fun r hr => h.holds r (hp.mem_iff.2 hr), fun r hr => h.range r (hp.mem_iff.2 hr), (hp.pairwise_iff (fun hrs b hb hr => hrs b hr hb)).1 h.apart⟩
theorem Hp.pull {s : Res} (h : Hp w0 M (A ++ s :: B) w) : Hp w0 M (s :: A ++ B) w := h.perm List.perm_middle
/-- A slice that is nil is its owner's. -/
theorem Hp.nilOwn (h : Hp w0 M L w) (E : TypeId) (sz : Nat) : Hp w0 M (Res.own E sz (.slice none 0 0) 0 [] :: L) w :=
  h.new (Fram.refl _ _) _ ⟨by simp, .inl ⟨rfl, rfl⟩⟩ fun b hb => by simp [Res.own, Value.ownBlock] at hb
theorem own_cut {E : TypeId} {sz n k c : Nat} {a : Option Addr} {xs : List Value} (hk : k ≤ n) (h : (Res.own E sz (.slice a n c) n xs).holds w) : (Res.own E sz (.slice a k c) k (xs.take (k * sz))).holds w := by
  obtain ⟨hl, h | ⟨g, cap, cur, hv, hg, hh, hn, hcap, hsz, hx⟩⟩ := h
  · obtain ⟨h1, rfl⟩ := h
    obtain rfl : k = 0 := by omega
    simp at h1
    obtain ⟨rfl, rfl⟩ := h1
    exact ⟨by simp, .inl ⟨rfl, rfl⟩⟩
  · simp only [Value.slice.injEq] at hv
    obtain ⟨rfl, _, rfl⟩ := hv
    refine ⟨?_, .inr ⟨g, c, cur, rfl, hg, hh, by omega, hcap, hsz, ?_⟩⟩
    · rw [List.length_take, hl]; exact Nat.min_eq_left (Nat.mul_le_mul_right _ hk)
    · rw [← hx, List.take_take]; congr 1; exact (Nat.min_eq_left (Nat.mul_le_mul_right _ hk)).symm
theorem get_bang {α : Type} [Inhabited α] {l : List α} {i : Nat} (h : i < l.length) : l[i]? = some l[i]! := by rw [List.getElem!_eq_getElem?_getD, List.getElem?_eq_getElem h]; rfl
theorem own_cap {E : TypeId} {sz n c : Nat} {a : Option Addr} {xs : List Value} (h : (Res.own E sz (.slice a n c) n xs).holds w) : n ≤ c := by
  obtain ⟨_, h | ⟨g, cap, cur, hv, hg, hh, hn, _⟩⟩ := h
  · simp at h; omega
  · simp only [Value.slice.injEq] at hv
    obtain ⟨_, _, rfl⟩ := hv
    exact hn
theorem own_foot {E : TypeId} {sz n k c : Nat} {a : Option Addr} {xs ys : List Value} (b : Nat) (h : (Res.own E sz (.slice a k c) k ys).foot b) : (Res.own E sz (.slice a n c) n xs).foot b := by
  cases a with
  | none => exact h
  | some a => exact h
theorem own_len {E : TypeId} {sz n : Nat} {v : Value} {xs : List Value} (h : (Res.own E sz v n xs).holds w) : xs.length = n * sz := h.1
theorem flat_snoc {α : Type} (f : α → List Value) (l : List α) (x : α) : l.flatMap f ++ f x = (l ++ [x]).flatMap f := by simp
theorem flat_len {α : Type} {f : α → List Value} {sz : Nat} (hf : ∀ x, (f x).length = sz) : ∀ (l : List α), (l.flatMap f).length = l.length * sz
  | [] => by simp
  | x :: l => by simp [flat_len hf l, hf x, Nat.add_mul, Nat.add_comm]
theorem own_flat {α : Type} {f : α → List Value} {E : TypeId} {sz n : Nat} {v : Value} {l : List α} (hf : ∀ x, (f x).length = sz) (hs : 0 < sz) (h : (Res.own E sz v n (l.flatMap f)).holds w) : l.length = n := by
  have := own_len h
  rw [flat_len hf] at this
  exact Nat.eq_of_mul_eq_mul_right hs this
theorem flat_take {α : Type} {f : α → List Value} {sz : Nat} (hf : ∀ x, (f x).length = sz) : ∀ (l : List α) (k : Nat), (l.flatMap f).take (k * sz) = (l.take k).flatMap f
  | [], k => by simp
  | x :: l, 0 => by simp
  | x :: l, k + 1 => by
    have : (k + 1) * sz = (f x).length + k * sz := by rw [hf x, Nat.add_mul]; omega
    rw [List.flatMap_cons, this, List.take_length_add_append, flat_take hf l k, List.take_succ_cons, List.flatMap_cons]
end
end Go.Proofs.YtbpedjefoajegaaDoor.K
