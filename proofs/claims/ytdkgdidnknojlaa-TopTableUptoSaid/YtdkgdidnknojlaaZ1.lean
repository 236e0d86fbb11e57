/- Texts of this claim, merged: what the program's functions compute, and the rules that the walks use. -/
import Derived.MapKept
import Derived.Laws.OwnMore
import Derived.OrdersHeld
import Derived.Deep.Quiet
import Derived.WalkKit
import Derived.ProofKit
import Derived.OpenShut
import Derived.ShutString
import Derived.ChangeOld
import Derived.Below
import Derived.SizedLaws
import Derived.Test.YtdkgdidnknojlaaRows
import Derived.JoinedCond
import Derived.Test.YtdkgdidnknojlaaZ0
namespace Go.Proofs.Ytdkgdidnknojlaa.K
open Go Go.RowKit

/-- A key whose look-up asks nothing beside it. -/
def chkB (P : Program) (t : TypeId) (v : Value) : Bool := match P.underlying t, v with
  | some (.int _), _ | some .string, _ | some .bool, _ => true
  | some (.struct fs), .agg cs => fs.toList.all fun f => (match P.underlying f.type with | some (.int _) | some .string | some .bool => true | _ => false) && (partV P f.type cs f.offset).isSome
  | _, _ => false
theorem run_checkKey_flat {P : Program} {w : World} {t : TypeId} {v : Value} {em : Bool} (n : Nat) (h : (match P.underlying t with | some (.int _) | some .string | some .bool => true | _ => false) = true) : (Instr.checkKey em (n + 1) t v).run P w = .ok () w := by
  cases hu : P.underlying t with
  | none => simp [hu] at h
  | some d => cases d <;> simp [hu] at h <;> simp [Instr.checkKey, run_underlying hu]
theorem run_chk {P : Program} {w : World} {t : TypeId} {v : Value} {em : Bool} (h : chkB P t v = true) : (Instr.checkKey em 10000 t v).run P w = .ok () w := by
  unfold chkB at h
  cases hu : P.underlying t with
  | none => simp [hu] at h
  | some d =>
    cases d
    case int k => exact run_checkKey_flat 9999 (by simp [hu])
    case string => exact run_checkKey_flat 9999 (by simp [hu])
    case bool => exact run_checkKey_flat 9999 (by simp [hu])
    case struct fs =>
      obtain ⟨cs, rfl⟩ : ∃ cs, v = .agg cs := by
        cases v <;> simp only [hu] at h <;> first | exact ⟨_, rfl⟩ | cases h
      simp only [hu] at h
      rw [show (10000 : Nat) = 9999 + 1 from rfl, Instr.checkKey]
      simp only [Sem.run_bind, run_underlying hu, Result.andThen_ok]
      rw [← Array.forIn_toList]
      generalize fs.toList = l at h
      induction l with
      | nil => simp
      | cons f l ih =>
        simp only [List.all_cons, Bool.and_eq_true] at h
        obtain ⟨⟨h1, h2⟩, h3⟩ := h
        obtain ⟨u, hu2⟩ := Option.isSome_iff_exists.1 h2
        have hc := run_checkKey_flat (P := P) (w := w) (t := f.type) (v := u) (em := em) 9998 h1
        have ih' := ih h3
        by_cases hn : f.name ≠ "_"
        · simp only [List.forIn_cons, Sem.run_bind, if_pos hn, run_part hu2, Result.andThen_ok, hc, Sem.run_pure] at ih' ⊢
          exact ih'
        · simp only [List.forIn_cons, Sem.run_bind, if_neg hn, Result.andThen_ok, Sem.run_pure] at ih' ⊢
          exact ih'
    all_goals (simp [hu] at h; done)

/-- Keys of a kind: told apart as their letters are. -/
structure KeyOk {κ : Type} (P : Program) (t : TypeId) (kf : κ → Value) : Prop where
  wide : (match P.underlying t with | some (.struct _) => true | _ => false) = true
  eq : ∀ a b, ∃ e, eqV P 4 t (kf a) (kf b) = some e ∧ (e = true ↔ a = b)
  chk : ∀ a, chkB P t (kf a) = true
  bits : ∀ a, Instr.sameBits 10000 (kf a) (kf a) = true

section
variable {κ ν : Type} {P : Program} {t : TypeId} {kf : κ → Value} {vf : ν → Value} [DecidableEq κ] {w : World}

theorem KeyOk.equal (K : KeyOk P t kf) (a b : κ) : (Op.equal t (kf a) (kf b)).run P w = .ok (decide (a = b)) w := by
  obtain ⟨e, he, hb⟩ := K.eq a b
  have := run_eqV (P := P) (w := w) (m := 9996) he
  rw [show decide (a = b) = e from by rw [Bool.eq_iff_iff, hb]; simp]
  exact this
omit [DecidableEq κ] in
theorem findKey_wide (K : KeyOk P t kf) (x : Value) (es : List MapEntry) : (Instr.findKey t x es).run P w = (Instr.findAsking t x es).run P w := by
  have h := K.wide
  cases hu : P.underlying t with
  | none => simp [hu] at h
  | some kd =>
    cases es with
    | nil => simp [Instr.findKey, run_underlying hu, Instr.findNow, Instr.findAsking]
    | cons e es => cases kd <;> simp [hu] at h <;> simp [Instr.findKey, run_underlying hu, Instr.findNow, Instr.sameNow]

/-- The entries say these pairs. -/
def Ents (kf : κ → Value) (vf : ν → Value) (es : Array MapEntry) (l : List (κ × ν)) : Prop := es.toList.map (fun e => (e.key, e.val)) = l.map fun p => (kf p.1, vf p.2)

theorem find_ents (K : KeyOk P t kf) (k : κ) : ∀ (es : List MapEntry) (l : List (κ × ν)) (i : Nat), es.map (fun e => (e.key, e.val)) = l.map (fun p => (kf p.1, vf p.2)) →
    (Instr.findAsking t (kf k) es i).run P w = .ok ((l.findIdx? (fun p => decide (k = p.1))).bind fun j => (l[j]?).map fun p => (i + j, vf p.2)) w
  | [], [], i, _ => by simp [Instr.findAsking]
  | [], _ :: _, _, h => by simp at h
  | _ :: _, [], _, h => by simp at h
  | e :: es, p :: l, i, h => by
    simp only [List.map_cons, List.cons.injEq, Prod.mk.injEq] at h
    obtain ⟨⟨h1, h2⟩, h3⟩ := h
    have ih := find_ents K k es l (i + 1) h3
    simp only [Instr.findAsking, Sem.run_bind, h1, K.equal, Result.andThen_ok]
    by_cases hk : k = p.1
    · simp [hk, h2, List.findIdx?_cons]
    · simp only [hk, decide_false, Bool.false_eq_true, if_false, ih, List.findIdx?_cons]
      cases hf : l.findIdx? (fun p => decide (k = p.1)) with
      | none => simp
      | some j => simp [Nat.add_comm, Nat.add_left_comm]

/-- Entries that came later have later stamps. -/
def Born (es : Array MapEntry) (c : Nat) : Prop := es.toList.Pairwise (fun a b => a.born < b.born) ∧ ∀ e ∈ es.toList, e.born < c
/-- A map in memory that is its owner's alone. -/
def Res.mp (b : Nat) (kf : κ → Value) (vf : ν → Value) (l : List (κ × ν)) : Res :=
  ⟨fun k => k = b, fun w => ∃ es c, w.heap[b]? = some (.map es c) ∧ Ents kf vf es l ∧ Born es c, fun h ⟨es, c, h1, h2⟩ => ⟨es, c, (h _ rfl).trans h1, h2⟩⟩
omit [DecidableEq κ] in
theorem Born.push {es : Array MapEntry} {c : Nat} {x y : Value} (h : Born es c) : Born (es.push { key := x, val := y, born := c }) (c + 1) := by
  unfold Born at *
  rw [Array.toList_push, List.pairwise_append]
  refine ⟨⟨h.1, List.pairwise_singleton _ _, fun a ha b hb => ?_⟩, fun e he => ?_⟩
  · rw [List.mem_singleton.1 hb]; exact h.2 a ha
  · rcases List.mem_append.1 he with he | he
    · exact Nat.lt_succ_of_lt (h.2 e he)
    · rw [List.mem_singleton.1 he]; exact Nat.lt_succ_self c
omit [DecidableEq κ] in
theorem Born.modify {es : Array MapEntry} {c j : Nat} {x y : Value} (h : Born es c) : Born (es.modify j fun e => { e with key := x, val := y }) c := by
  unfold Born at *
  have hm : (es.modify j fun e => { e with key := x, val := y }).toList.map (·.born) = es.toList.map (·.born) := by
    apply List.ext_getElem?
    intro i
    simp only [List.getElem?_map, Array.getElem?_toList, Array.getElem?_modify]
    split
    · cases es[i]? <;> rfl
    · rfl
  constructor
  · have := List.pairwise_map.2 h.1
    rw [← hm] at this
    exact List.pairwise_map.1 this
  · intro e he
    have : e.born ∈ es.toList.map (·.born) := by rw [← hm]; exact List.mem_map_of_mem he
    obtain ⟨e', he', hb⟩ := List.mem_map.1 this
    rw [← hb]; exact h.2 e' he'

def mapV (l : List (κ × ν)) (k : κ) : Option ν := (l.findIdx? (fun p => decide (k = p.1))).bind fun j => (l[j]?).map (·.2)
theorem mapV_cons (p : κ × ν) (l : List (κ × ν)) (k : κ) : mapV (p :: l) k = if k = p.1 then some p.2 else mapV l k := by
  unfold mapV
  rw [List.findIdx?_cons]
  by_cases h : k = p.1
  · simp [h]
  · simp only [h, decide_false, Bool.false_eq_true, if_false]
    cases l.findIdx? (fun p => decide (k = p.1)) <;> simp
theorem mapV_mem {l : List (κ × ν)} {k : κ} {v : ν} (h : mapV l k = some v) : (k, v) ∈ l := by
  induction l with
  | nil => simp [mapV] at h
  | cons p l ih =>
    rw [mapV_cons] at h
    split at h
    · rename_i hk; cases h; subst hk; simp
    · exact List.mem_cons_of_mem _ (ih h)

/-- Looking a key up, with the answer whether it is there. -/
theorem Lk.ok {mt et : TypeId} {b : Nat} {l : List (κ × ν)} (K : KeyOk P t kf) (hm : P.underlying mt = some (.map t et)) (h : (Res.mp b kf vf l).holds w) (k : κ) {z : Value} (hz : (zeroValue et).run P w = .ok z w) :
    Lk P w mt (.map (some b)) (kf k) true (.tuple #[(match mapV l k with | some v => vf v | none => z), .bool (mapV l k).isSome]) := by
  obtain ⟨es, c, hb, he, hbn⟩ := h
  have hf := find_ents (P := P) (w := w) K k es.toList l 0 he
  have hg : (getObj b).run P w = .ok (.map es c) w := MapKept.run_getObj_map hb
  unfold Lk Instr.lookup
  simp only [Sem.run_bind, run_underlying hm, Result.andThen_ok, hg, Sem.run_pure, run_chk (K.chk k), findKey_wide K, hf]
  unfold mapV
  cases l.findIdx? (fun p => decide (k = p.1)) with
  | none => simp [hz]
  | some j =>
    cases hj : l[j]? with
    | none => simp [hj, hz]
    | some p => simp [hj]

def mapPut (l : List (κ × ν)) (k : κ) (v : ν) : List (κ × ν) := match l.findIdx? (fun p => decide (k = p.1)) with
  | some j => l.modify j fun _ => (k, v)
  | none => l ++ [(k, v)]
theorem mapPut_sub {l : List (κ × ν)} {k : κ} {v : ν} : ∀ p ∈ mapPut l k v, p = (k, v) ∨ p ∈ l := by
  intro p hp
  unfold mapPut at hp
  split at hp
  · rename_i j hj
    rw [List.mem_iff_getElem?] at hp
    obtain ⟨i, hi⟩ := hp
    rw [List.getElem?_modify] at hi
    split at hi
    · cases h : l[i]? with
      | none => simp [h] at hi
      | some q => simp [h] at hi; exact .inl hi.symm
    · simp at hi; exact .inr (List.mem_of_getElem? hi)
  · simp at hp; rcases hp with hp | hp
    · exact .inr hp
    · exact .inl hp
end

section
variable {κ ν : Type} {P : Program} {t : TypeId} {kf : κ → Value} {vf : ν → Value} [DecidableEq κ] {N : Nat} {ops : Array Oper} {Q : Post} {next : Env → World → Prop} {e : Env} {w w0 : World} {M : Nat → Prop} {A B : List Res} {ty : TypeId} {pos : String} {af : Array Edge}

theorem run_mapUpdate {mt et : TypeId} {b : Nat} {l : List (κ × ν)} (K : KeyOk P t kf) (hm : P.underlying mt = some (.map t et)) (h : (Res.mp b kf vf l).holds w) (k : κ) (v : ν) :
    ∃ w', (Instr.mapUpdate mt (.map (some b)) (kf k) (vf v)).run P w = .ok () w' ∧ (Res.mp b kf vf (mapPut l k v)).holds w' ∧ Fram (fun x => x = b) w w' := by
  obtain ⟨es, c, hb, he, hbn⟩ := h
  have hf := find_ents (P := P) (w := w) K k es.toList l 0 he
  have hg : (getObj b).run P w = .ok (.map es c) w := MapKept.run_getObj_map hb
  have fr : ∀ o, Fram (fun x => x = b) w { w with heap := w.heap.setIfInBounds b o } := fun o => ⟨rfl, rfl, rfl, by simp, fun i _ hn => (MapKept.heap_set hb).2 i hn⟩
  cases hx : l.findIdx? (fun p => decide (k = p.1)) with
  | none =>
    refine ⟨_, ?_, ⟨es.push { key := kf k, val := vf v, born := c }, c + 1, (MapKept.heap_set (o' := .map (es.push { key := kf k, val := vf v, born := c }) (c + 1)) hb).1, ?_, hbn.push⟩, fr _⟩
    · simp only [Instr.mapUpdate, Sem.run_bind, run_underlying hm, Result.andThen_ok, hg, run_chk (K.chk k), findKey_wide K, hf, hx, Option.bind_none]
      exact MapKept.run_setObj_map _ hb
    · unfold Ents at *
      simp [mapPut, hx, he]
  | some j =>
    obtain ⟨hj, hp, _⟩ := List.findIdx?_eq_some_iff_getElem.1 hx
    have hlen : es.size = l.length := by have := congrArg List.length he; simpa using this
    have hkey : (es[j]'(by omega)).key = kf k := by
      have := congrArg (fun q => q[j]?) he
      simp [hlen, hj] at this
      rw [this.1, show l[j].1 = k from (of_decide_eq_true hp).symm]
    refine ⟨_, ?_, ⟨es.modify j fun e => { e with key := kf k, val := vf v }, c, (MapKept.heap_set (o' := .map (es.modify j fun e => { e with key := kf k, val := vf v }) c) hb).1, ?_, hbn.modify⟩, fr _⟩
    · simp only [Instr.mapUpdate, Sem.run_bind, run_underlying hm, Result.andThen_ok, hg, run_chk (K.chk k), findKey_wide K, hf, hx, Option.bind_some, List.getElem?_eq_getElem hj, Option.map_some, Nat.zero_add]
      simp only [Instr.keyThatStays, show es[j]? = some (es[j]'(by omega)) from by simp [hlen, hj], Option.map_some, Option.getD_some, hkey, K.bits k, if_true, Sem.run_pure, Result.andThen_ok]
      exact MapKept.run_setObj_map _ hb
    · unfold Ents at *
      simp only [mapPut, hx]
      apply List.ext_getElem?
      intro i
      have hi := congrArg (fun q => q[i]?) he
      simp only [List.getElem?_map, Array.getElem?_toList] at hi
      simp only [List.getElem?_map, Array.getElem?_toList, Array.getElem?_modify, List.getElem?_modify]
      by_cases hij : j = i
      · subst hij; simp [hlen, hj]
      · simp [hij, hi]

theorem opStep.mapUpdate {mt et : TypeId} {x y z : Operand} {b : Nat} {l : List (κ × ν)} (K : KeyOk P t kf) (hm : P.underlying mt = some (.map t et)) (hp : Hp w0 M (A ++ Res.mp b kf vf l :: B) w) (k : κ) (v : ν)
    (hx : (ev e x, ev e y, ev e z) = (.map (some b), kf k, vf v))
    (h : ∀ w', Hp w0 M (A ++ Res.mp b kf vf (mapPut l k v) :: B) w' → next e w') :
    opStep P N ops Q ⟨none, .mapUpdate mt x y z, ty, pos, af, none⟩ next e w := by
  simp only [Prod.mk.injEq] at hx
  obtain ⟨hx, hy, hz⟩ := hx
  obtain ⟨w', hrun, hh, hf⟩ := run_mapUpdate (P := P) (w := w) K hm hp.get k v
  refine opStep.skip (w' := w') rfl ?_ (h w' ?_)
  · simp [execOp, hx, hy, hz, hrun]
  · exact hp.mod hf _ hh fun i hi => ⟨Nat.lt_of_lt_of_le (hp.lt i hi) hf.size, .inl hi⟩
omit [DecidableEq κ] in
theorem opStep.makeMapK {T : TypeId} {d : Tmp} {L : List Res} (kf : κ → Value) (vf : ν → Value) (hp : Hp w0 M L w)
    (h : ∀ b w', Hp w0 M (Res.mp b kf vf [] :: L) w' → next (upd e d (.map (some b))) w') :
    opStep P N ops Q ⟨some d, .makeMap T none, ty, pos, af, none⟩ next e w :=
  opStep.makeMap hp fun b w' hp' => h b w' (Hp.turn (A := []) hp' (Res.mp b kf vf []) (fun hh => ⟨#[], 0, hh, rfl, ⟨List.Pairwise.nil, fun _ h => by cases h⟩⟩) fun _ hb => hb)
end

section
variable {w w0 : World} {M : Nat → Prop} {A B L : List Res}
theorem Hp.perm {L' : List Res} (h : Hp w0 M L w) (hp : L.Perm L') : Hp w0 M L' w :=
  ⟨h.fr, fun r hr => h.holds r (hp.mem_iff.2 hr), fun r hr => h.range r (hp.mem_iff.2 hr), (hp.pairwise_iff (fun hrs b hb hr => hrs b hr hb)).1 h.apart⟩
theorem Hp.pull {s : Res} (h : Hp w0 M (A ++ s :: B) w) : Hp w0 M (s :: A ++ B) w := h.perm List.perm_middle
/-- A slice that is nil is its owner's. -/
theorem Hp.nilOwn (h : Hp w0 M L w) (E : TypeId) (sz : Nat) : Hp w0 M (Res.own E sz (.slice none 0 0) 0 [] :: L) w :=
  h.new (Fram.refl _ _) _ ⟨by simp, .inl ⟨rfl, rfl⟩⟩ fun b hb => by simp [Res.own, Value.ownBlock] at hb
theorem get_bang {α : Type} [Inhabited α] {l : List α} {i : Nat} (h : i < l.length) : l[i]? = some l[i]! := by rw [List.getElem!_eq_getElem?_getD, List.getElem?_eq_getElem h]; rfl
theorem own_len {E : TypeId} {sz n : Nat} {v : Value} {xs : List Value} (h : (Res.own E sz v n xs).holds w) : xs.length = n * sz := h.1
theorem flat_len {α : Type} {f : α → List Value} {sz : Nat} (hf : ∀ x, (f x).length = sz) : ∀ (l : List α), (l.flatMap f).length = l.length * sz
  | [] => by simp
  | x :: l => by simp [flat_len hf l, hf x, Nat.add_mul, Nat.add_comm]
theorem own_flat {α : Type} {f : α → List Value} {E : TypeId} {sz n : Nat} {v : Value} {l : List α} (hf : ∀ x, (f x).length = sz) (hs : 0 < sz) (h : (Res.own E sz v n (l.flatMap f)).holds w) : l.length = n := by
  have := own_len h
  rw [flat_len hf] at this
  exact Nat.eq_of_mul_eq_mul_right hs this
end
end Go.Proofs.Ytdkgdidnknojlaa.K
namespace Go.Proofs.Ytdkgdidnknojlaa.K
open Go Go.RowKit

section
variable {P : Program} {N : Nat} {ops : Array Oper} {Q : Post} {next : Env → World → Prop} {e : Env} {w w0 : World} {M : Nat → Prop} {A B L : List Res} {ty : TypeId} {pos : String} {af : Array Edge} {d : Nat}

theorem ow_get {c vs : List Value} {o : Nat} (h : o + vs.length ≤ c.length) (i : Nat) : (ow c o vs)[i]? = if i < o then c[i]? else if i < o + vs.length then vs[i - o]? else c[i]? := by
  unfold ow
  rw [List.append_assoc, List.getElem?_append, List.length_take, Nat.min_eq_left (by omega)]
  split
  · rename_i hi
    rw [List.getElem?_take, if_pos hi]
  · rw [List.getElem?_append]
    split
    · rw [if_pos (by omega)]
    · rw [if_neg (by omega), List.getElem?_drop]
      congr 1
      omega
theorem ow_len {c vs : List Value} {o : Nat} (h : o + vs.length ≤ c.length) : (ow c o vs).length = c.length := by
  unfold ow
  simp only [List.length_append, List.length_take, List.length_drop]
  omega
theorem ow_take {cur vs : List Value} {p m : Nat} (h : p + vs.length ≤ m) (hm : m ≤ cur.length) : (ow cur p vs).take m = ow (cur.take m) p vs := by
  apply List.ext_getElem?
  intro i
  rw [List.getElem?_take, ow_get (by omega), ow_get (by rw [List.length_take]; omega)]
  simp only [List.getElem?_take]
  by_cases h1 : i < m
  · simp only [if_pos h1]
  · rw [if_neg h1, if_neg (by omega), if_neg (by omega)]
    simp [h1]
/-- One thing of a list, written. -/
theorem ow_flat {α : Type} {f : α → List Value} {sz : Nat} (hf : ∀ x, (f x).length = sz) {l : List α} {i : Nat} (hi : i < l.length) (x : α) : ow (l.flatMap f) (i * sz) (f x) = (l.set i x).flatMap f := by
  induction l generalizing i with
  | nil => simp at hi
  | cons y l ih =>
    cases i with
    | zero =>
      simp only [ow, Nat.zero_mul, List.take_zero, List.nil_append, Nat.zero_add, List.flatMap_cons, List.set_cons_zero]
      rw [hf x, ← hf y, List.drop_left]
    | succ i =>
      have hi' : i < l.length := by simpa using hi
      rw [List.set_cons_succ, List.flatMap_cons, List.flatMap_cons, ← ih hi']
      have e : (i + 1) * sz = (f y).length + i * sz := by rw [hf y, Nat.add_mul]; omega
      simp only [ow]
      rw [e, List.take_length_add_append, Nat.add_assoc, List.drop_length_add_append]
      simp only [List.append_assoc]

theorem opStep.storeOwn {T E : TypeId} {x y : Operand} {sz n c : Nat} {a : Option Addr} {xs : List Value} (p : Nat) (hp : Hp w0 M (A ++ Res.own E sz (.slice a n c) n xs :: B) w) (hx : ev e x = .pointer (some ((adr a).add p))) (vs : List Value)
    (hc : ((ev e y).cells.toList, (P.info? T).map (·.size), vs.all (·.oneCell')) = (vs, some vs.length, true)) (h0 : 0 < vs.length) (hb : p + vs.length ≤ n * sz)
    (h : ∀ w', Hp w0 M (A ++ Res.own E sz (.slice a n c) n (ow xs p vs) :: B) w' → next e w') :
    opStep P N ops Q ⟨none, .store T x y, ty, pos, af, none⟩ next e w := by
  simp only [Prod.mk.injEq] at hc
  obtain ⟨hv, hsz, h1⟩ := hc
  have hown : (Res.own E sz (.slice a n c) n xs).holds w := hp.get
  obtain ⟨hl, hh | ⟨g, cap, cur, hs, hg, hh, hn, hcap, hcs, hxs⟩⟩ := hown
  · simp at hh
    obtain ⟨_, rfl⟩ := hh
    omega
  · simp only [Value.slice.injEq] at hs
    obtain ⟨rfl, _, rfl⟩ := hs
    have had : (adr (some (⟨g, 0, none⟩ : Addr))).add p = ⟨g, p, none⟩ := by rw [show adr (some (⟨g, 0, none⟩ : Addr)) = ⟨g, 0, none⟩ from rfl, add_mk, Nat.zero_add]
    rw [had] at hx
    cases hi : P.info? T with
    | none => simp [hi] at hsz
    | some i =>
      simp [hi] at hsz
      have hlt : g < w.heap.size := (Array.getElem?_eq_some_iff.1 hh).1
      have hle : n * sz ≤ c * sz := Nat.mul_le_mul_right _ hn
      have hcl : cur.toList.length = c * sz := by simpa using hcs
      have hrun := run_storeCells_at (P := P) g E p vs 0 cur.toList w (by simpa using hh) (by omega) (fun v hv => List.all_eq_true.1 h1 v hv)
      rw [Nat.add_zero] at hrun
      refine opStep.skip (w' := w.setRow g (ow cur.toList p vs).toArray) rfl ?_ (h _ ?_)
      · have hs2 : (ev e y).cells.size = i.size := by rw [hsz, ← hv]; simp
        simp [execOp, Instr.storeAt, Instr.sureAddr, hx, storeVar, sizeOf, typeInfo, hi, hs2, hv, hrun]
      · refine hp.mod ((setRow_fram w g _).mono fun k _ hk => by subst hk; rfl) (Res.own E sz (.slice (some ⟨g, 0, none⟩) n c) n (ow xs p vs)) ⟨?_, .inr ⟨g, c, (ow cur.toList p vs).toArray, rfl, hg, setRow_heap w g _ _ E _ hh, hn, hcap, ?_, ?_⟩⟩ fun k hk => ⟨?_, .inl hk⟩
        · rw [ow_len (by omega)]; exact hl
        · simp only [List.size_toArray]; rw [ow_len (by omega)]; exact hcl
        · simp only; rw [ow_take hb (by omega), hxs]
        · have : k = g := by have hk' : some g = some k := hk; simpa using hk'.symm
          subst this; simpa using hlt
end
end Go.Proofs.Ytdkgdidnknojlaa.K
namespace Go.Proofs.Ytdkgdidnknojlaa.K
open Go Go.RowKit
section
variable {P : Program} {N : Nat} {ops : Array Oper} {Q : Post} {next : Env → World → Prop} {e : Env} {w w0 : World} {M : Nat → Prop} {ty : TypeId} {pos : String} {af : Array Edge} {d : Nat}
theorem Hp.get0 {s : Res} {B : List Res} (h : Hp w0 M (s :: B) w) : s.holds w := Hp.get (A := []) h
theorem Hp.lt0 {s : Res} {B : List Res} (h : Hp w0 M (s :: B) w) (b : Nat) (hb : s.foot b) : b < w.heap.size := Hp.lt (A := []) h b hb
theorem Hp.turn0 {s : Res} {B : List Res} (h : Hp w0 M (s :: B) w) (r' : Res) (hr : s.holds w → r'.holds w) (hn : ∀ b, r'.foot b → s.foot b) : Hp w0 M (r' :: B) w := Hp.turn (A := []) h r' hr hn
theorem opStep.store0 {T t : TypeId} {x y : Operand} {b o : Nat} {c : List Value} {B : List Res} (hp : Hp w0 M (Res.row b c t :: B) w) (hx : ev e x = .pointer (some ⟨b, o, none⟩)) (vs c' : List Value)
    (hc : ((ev e y).cells.toList, (P.info? T).map (·.size), decide (o + vs.length ≤ c.length), ow c o vs, vs.all (·.oneCell')) = (vs, some vs.length, true, c', true))
    (h : ∀ w', Hp w0 M (Res.row b c' t :: B) w' → next e w') :
    opStep P N ops Q ⟨none, .store T x y, ty, pos, af, none⟩ next e w := opStep.store (A := []) hp hx vs c' hc h
theorem Hp.pull0 {s : Res} {B : List Res} (h : Hp w0 M (s :: B) w) : Hp w0 M (s :: B) w := Hp.pull (A := []) h
theorem opStep.storeOwn0 {T E : TypeId} {x y : Operand} {sz n c : Nat} {a : Option Addr} {xs : List Value} {B : List Res} (p : Nat) (hp : Hp w0 M (Res.own E sz (.slice a n c) n xs :: B) w) (hx : ev e x = .pointer (some ((adr a).add p))) (vs : List Value)
    (hc : ((ev e y).cells.toList, (P.info? T).map (·.size), vs.all (·.oneCell')) = (vs, some vs.length, true)) (h0 : 0 < vs.length) (hb : p + vs.length ≤ n * sz)
    (h : ∀ w', Hp w0 M (Res.own E sz (.slice a n c) n (ow xs p vs) :: B) w' → next e w') :
    opStep P N ops Q ⟨none, .store T x y, ty, pos, af, none⟩ next e w := opStep.storeOwn (A := []) p hp hx vs hc h0 hb h
theorem Hp.get1 {a0 : Res} {s : Res} {B : List Res} (h : Hp w0 M (a0 :: s :: B) w) : s.holds w := Hp.get (A := [a0]) h
theorem Hp.lt1 {a0 : Res} {s : Res} {B : List Res} (h : Hp w0 M (a0 :: s :: B) w) (b : Nat) (hb : s.foot b) : b < w.heap.size := Hp.lt (A := [a0]) h b hb
theorem opStep.store1 {T t : TypeId} {x y : Operand} {b o : Nat} {c : List Value} {a0 : Res} {B : List Res} (hp : Hp w0 M (a0 :: Res.row b c t :: B) w) (hx : ev e x = .pointer (some ⟨b, o, none⟩)) (vs c' : List Value)
    (hc : ((ev e y).cells.toList, (P.info? T).map (·.size), decide (o + vs.length ≤ c.length), ow c o vs, vs.all (·.oneCell')) = (vs, some vs.length, true, c', true))
    (h : ∀ w', Hp w0 M (a0 :: Res.row b c' t :: B) w' → next e w') :
    opStep P N ops Q ⟨none, .store T x y, ty, pos, af, none⟩ next e w := opStep.store (A := [a0]) hp hx vs c' hc h
theorem Hp.pull1 {a0 : Res} {s : Res} {B : List Res} (h : Hp w0 M (a0 :: s :: B) w) : Hp w0 M (s :: a0 :: B) w := Hp.pull (A := [a0]) h
theorem opStep.mapUpdate1 {κ ν : Type} {t : TypeId} {kf : κ → Value} {vf : ν → Value} [DecidableEq κ] {mt et : TypeId} {x y z : Operand} {b : Nat} {l : List (κ × ν)} {a0 : Res} {B : List Res} (K : KeyOk P t kf) (hm : P.underlying mt = some (.map t et)) (hp : Hp w0 M (a0 :: Res.mp b kf vf l :: B) w) (k : κ) (v : ν)
    (hx : (ev e x, ev e y, ev e z) = (.map (some b), kf k, vf v)) (h : ∀ w', Hp w0 M (a0 :: Res.mp b kf vf (mapPut l k v) :: B) w' → next e w') :
    opStep P N ops Q ⟨none, .mapUpdate mt x y z, ty, pos, af, none⟩ next e w := opStep.mapUpdate (A := [a0]) K hm hp k v hx h
theorem opStep.storeOwn1 {T E : TypeId} {x y : Operand} {sz n c : Nat} {a : Option Addr} {xs : List Value} {a0 : Res} {B : List Res} (p : Nat) (hp : Hp w0 M (a0 :: Res.own E sz (.slice a n c) n xs :: B) w) (hx : ev e x = .pointer (some ((adr a).add p))) (vs : List Value)
    (hc : ((ev e y).cells.toList, (P.info? T).map (·.size), vs.all (·.oneCell')) = (vs, some vs.length, true)) (h0 : 0 < vs.length) (hb : p + vs.length ≤ n * sz)
    (h : ∀ w', Hp w0 M (a0 :: Res.own E sz (.slice a n c) n (ow xs p vs) :: B) w' → next e w') :
    opStep P N ops Q ⟨none, .store T x y, ty, pos, af, none⟩ next e w := opStep.storeOwn (A := [a0]) p hp hx vs hc h0 hb h
theorem Hp.get2 {a0 a1 : Res} {s : Res} {B : List Res} (h : Hp w0 M (a0 :: a1 :: s :: B) w) : s.holds w := Hp.get (A := [a0, a1]) h
theorem opStep.store2 {T t : TypeId} {x y : Operand} {b o : Nat} {c : List Value} {a0 a1 : Res} {B : List Res} (hp : Hp w0 M (a0 :: a1 :: Res.row b c t :: B) w) (hx : ev e x = .pointer (some ⟨b, o, none⟩)) (vs c' : List Value)
    (hc : ((ev e y).cells.toList, (P.info? T).map (·.size), decide (o + vs.length ≤ c.length), ow c o vs, vs.all (·.oneCell')) = (vs, some vs.length, true, c', true))
    (h : ∀ w', Hp w0 M (a0 :: a1 :: Res.row b c' t :: B) w' → next e w') :
    opStep P N ops Q ⟨none, .store T x y, ty, pos, af, none⟩ next e w := opStep.store (A := [a0, a1]) hp hx vs c' hc h
theorem opStep.append2 {T E ty2 : TypeId} {s x : Operand} {a0 a1 : Res} {B : List Res} {sz n m c : Nat} {v : Value} {xs : List Value} {ad : Addr} (news : List Value) (hp : Hp w0 M (a0 :: a1 :: Res.own E sz v n xs :: B) w)
    (bytes : Nat) (hT : appInfo P T = some (E, sz, bytes))
    (hs : ev e s = v) (hx : ev e x = .slice (some ad) m c) (hl : news.length = m * sz) (hnews : ∀ j u, news[j]? = some u → w.cell? (ad.add j) = some u) (h1 : ∀ u ∈ news, u.oneCell' = true) (hsz : 0 < sz)
    (hb : (n + m) * bytes ≤ 140737488355328) (h63 : n + m ≤ 9223372036854775807)
    (h : ∀ a c' w', Hp w0 M (a0 :: a1 :: Res.own E sz (.slice a (n + m) c') (n + m) (xs ++ news) :: B) w' → (a = none ↔ v = .slice none 0 0 ∧ m = 0) → next (upd e d (.slice a (n + m) c')) w') :
    opStep P N ops Q ⟨some d, .call ⟨.builtin .append, #[s, x], #[T, T]⟩, ty2, pos, af, none⟩ next e w := by
  refine opStep.append (A := [a0, a1]) hp bytes hT hs hx hl hnews h1 hsz hb h63 ?_
  intro v' w' hp' hnil
  obtain ⟨a, c', rfl⟩ := own_slice (Hp.get (A := [a0, a1]) hp')
  refine h a c' w' hp' ?_
  constructor
  · rintro rfl
    exact hnil.1 (own_nil (Hp.get (A := [a0, a1]) hp'))
  · intro hh
    have := hnil.2 hh
    simp at this
    exact this.1
theorem Hp.pull2 {a0 a1 : Res} {s : Res} {B : List Res} (h : Hp w0 M (a0 :: a1 :: s :: B) w) : Hp w0 M (s :: a0 :: a1 :: B) w := Hp.pull (A := [a0, a1]) h
theorem opStep.mapUpdate2 {κ ν : Type} {t : TypeId} {kf : κ → Value} {vf : ν → Value} [DecidableEq κ] {mt et : TypeId} {x y z : Operand} {b : Nat} {l : List (κ × ν)} {a0 a1 : Res} {B : List Res} (K : KeyOk P t kf) (hm : P.underlying mt = some (.map t et)) (hp : Hp w0 M (a0 :: a1 :: Res.mp b kf vf l :: B) w) (k : κ) (v : ν)
    (hx : (ev e x, ev e y, ev e z) = (.map (some b), kf k, vf v)) (h : ∀ w', Hp w0 M (a0 :: a1 :: Res.mp b kf vf (mapPut l k v) :: B) w' → next e w') :
    opStep P N ops Q ⟨none, .mapUpdate mt x y z, ty, pos, af, none⟩ next e w := opStep.mapUpdate (A := [a0, a1]) K hm hp k v hx h
theorem opStep.storeOwn2 {T E : TypeId} {x y : Operand} {sz n c : Nat} {a : Option Addr} {xs : List Value} {a0 a1 : Res} {B : List Res} (p : Nat) (hp : Hp w0 M (a0 :: a1 :: Res.own E sz (.slice a n c) n xs :: B) w) (hx : ev e x = .pointer (some ((adr a).add p))) (vs : List Value)
    (hc : ((ev e y).cells.toList, (P.info? T).map (·.size), vs.all (·.oneCell')) = (vs, some vs.length, true)) (h0 : 0 < vs.length) (hb : p + vs.length ≤ n * sz)
    (h : ∀ w', Hp w0 M (a0 :: a1 :: Res.own E sz (.slice a n c) n (ow xs p vs) :: B) w' → next e w') :
    opStep P N ops Q ⟨none, .store T x y, ty, pos, af, none⟩ next e w := opStep.storeOwn (A := [a0, a1]) p hp hx vs hc h0 hb h
theorem Hp.get3 {a0 a1 a2 : Res} {s : Res} {B : List Res} (h : Hp w0 M (a0 :: a1 :: a2 :: s :: B) w) : s.holds w := Hp.get (A := [a0, a1, a2]) h
theorem opStep.append3 {T E ty2 : TypeId} {s x : Operand} {a0 a1 a2 : Res} {B : List Res} {sz n m c : Nat} {v : Value} {xs : List Value} {ad : Addr} (news : List Value) (hp : Hp w0 M (a0 :: a1 :: a2 :: Res.own E sz v n xs :: B) w)
    (bytes : Nat) (hT : appInfo P T = some (E, sz, bytes))
    (hs : ev e s = v) (hx : ev e x = .slice (some ad) m c) (hl : news.length = m * sz) (hnews : ∀ j u, news[j]? = some u → w.cell? (ad.add j) = some u) (h1 : ∀ u ∈ news, u.oneCell' = true) (hsz : 0 < sz)
    (hb : (n + m) * bytes ≤ 140737488355328) (h63 : n + m ≤ 9223372036854775807)
    (h : ∀ a c' w', Hp w0 M (a0 :: a1 :: a2 :: Res.own E sz (.slice a (n + m) c') (n + m) (xs ++ news) :: B) w' → (a = none ↔ v = .slice none 0 0 ∧ m = 0) → next (upd e d (.slice a (n + m) c')) w') :
    opStep P N ops Q ⟨some d, .call ⟨.builtin .append, #[s, x], #[T, T]⟩, ty2, pos, af, none⟩ next e w := by
  refine opStep.append (A := [a0, a1, a2]) hp bytes hT hs hx hl hnews h1 hsz hb h63 ?_
  intro v' w' hp' hnil
  obtain ⟨a, c', rfl⟩ := own_slice (Hp.get (A := [a0, a1, a2]) hp')
  refine h a c' w' hp' ?_
  constructor
  · rintro rfl
    exact hnil.1 (own_nil (Hp.get (A := [a0, a1, a2]) hp'))
  · intro hh
    have := hnil.2 hh
    simp at this
    exact this.1
theorem Hp.pull3 {a0 a1 a2 : Res} {s : Res} {B : List Res} (h : Hp w0 M (a0 :: a1 :: a2 :: s :: B) w) : Hp w0 M (s :: a0 :: a1 :: a2 :: B) w := Hp.pull (A := [a0, a1, a2]) h
theorem opStep.mapUpdate3 {κ ν : Type} {t : TypeId} {kf : κ → Value} {vf : ν → Value} [DecidableEq κ] {mt et : TypeId} {x y z : Operand} {b : Nat} {l : List (κ × ν)} {a0 a1 a2 : Res} {B : List Res} (K : KeyOk P t kf) (hm : P.underlying mt = some (.map t et)) (hp : Hp w0 M (a0 :: a1 :: a2 :: Res.mp b kf vf l :: B) w) (k : κ) (v : ν)
    (hx : (ev e x, ev e y, ev e z) = (.map (some b), kf k, vf v)) (h : ∀ w', Hp w0 M (a0 :: a1 :: a2 :: Res.mp b kf vf (mapPut l k v) :: B) w' → next e w') :
    opStep P N ops Q ⟨none, .mapUpdate mt x y z, ty, pos, af, none⟩ next e w := opStep.mapUpdate (A := [a0, a1, a2]) K hm hp k v hx h
theorem Hp.get4 {a0 a1 a2 a3 : Res} {s : Res} {B : List Res} (h : Hp w0 M (a0 :: a1 :: a2 :: a3 :: s :: B) w) : s.holds w := Hp.get (A := [a0, a1, a2, a3]) h
theorem opStep.append4 {T E ty2 : TypeId} {s x : Operand} {a0 a1 a2 a3 : Res} {B : List Res} {sz n m c : Nat} {v : Value} {xs : List Value} {ad : Addr} (news : List Value) (hp : Hp w0 M (a0 :: a1 :: a2 :: a3 :: Res.own E sz v n xs :: B) w)
    (bytes : Nat) (hT : appInfo P T = some (E, sz, bytes))
    (hs : ev e s = v) (hx : ev e x = .slice (some ad) m c) (hl : news.length = m * sz) (hnews : ∀ j u, news[j]? = some u → w.cell? (ad.add j) = some u) (h1 : ∀ u ∈ news, u.oneCell' = true) (hsz : 0 < sz)
    (hb : (n + m) * bytes ≤ 140737488355328) (h63 : n + m ≤ 9223372036854775807)
    (h : ∀ a c' w', Hp w0 M (a0 :: a1 :: a2 :: a3 :: Res.own E sz (.slice a (n + m) c') (n + m) (xs ++ news) :: B) w' → (a = none ↔ v = .slice none 0 0 ∧ m = 0) → next (upd e d (.slice a (n + m) c')) w') :
    opStep P N ops Q ⟨some d, .call ⟨.builtin .append, #[s, x], #[T, T]⟩, ty2, pos, af, none⟩ next e w := by
  refine opStep.append (A := [a0, a1, a2, a3]) hp bytes hT hs hx hl hnews h1 hsz hb h63 ?_
  intro v' w' hp' hnil
  obtain ⟨a, c', rfl⟩ := own_slice (Hp.get (A := [a0, a1, a2, a3]) hp')
  refine h a c' w' hp' ?_
  constructor
  · rintro rfl
    exact hnil.1 (own_nil (Hp.get (A := [a0, a1, a2, a3]) hp'))
  · intro hh
    have := hnil.2 hh
    simp at this
    exact this.1
theorem Hp.pull4 {a0 a1 a2 a3 : Res} {s : Res} {B : List Res} (h : Hp w0 M (a0 :: a1 :: a2 :: a3 :: s :: B) w) : Hp w0 M (s :: a0 :: a1 :: a2 :: a3 :: B) w := Hp.pull (A := [a0, a1, a2, a3]) h
theorem Hp.get5 {a0 a1 a2 a3 a4 : Res} {s : Res} {B : List Res} (h : Hp w0 M (a0 :: a1 :: a2 :: a3 :: a4 :: s :: B) w) : s.holds w := Hp.get (A := [a0, a1, a2, a3, a4]) h
theorem Hp.pull5 {a0 a1 a2 a3 a4 : Res} {s : Res} {B : List Res} (h : Hp w0 M (a0 :: a1 :: a2 :: a3 :: a4 :: s :: B) w) : Hp w0 M (s :: a0 :: a1 :: a2 :: a3 :: a4 :: B) w := Hp.pull (A := [a0, a1, a2, a3, a4]) h
theorem Hp.get6 {a0 a1 a2 a3 a4 a5 : Res} {s : Res} {B : List Res} (h : Hp w0 M (a0 :: a1 :: a2 :: a3 :: a4 :: a5 :: s :: B) w) : s.holds w := Hp.get (A := [a0, a1, a2, a3, a4, a5]) h
theorem Hp.pull6 {a0 a1 a2 a3 a4 a5 : Res} {s : Res} {B : List Res} (h : Hp w0 M (a0 :: a1 :: a2 :: a3 :: a4 :: a5 :: s :: B) w) : Hp w0 M (s :: a0 :: a1 :: a2 :: a3 :: a4 :: a5 :: B) w := Hp.pull (A := [a0, a1, a2, a3, a4, a5]) h
theorem Hp.get7 {a0 a1 a2 a3 a4 a5 a6 : Res} {s : Res} {B : List Res} (h : Hp w0 M (a0 :: a1 :: a2 :: a3 :: a4 :: a5 :: a6 :: s :: B) w) : s.holds w := Hp.get (A := [a0, a1, a2, a3, a4, a5, a6]) h
theorem Hp.pull7 {a0 a1 a2 a3 a4 a5 a6 : Res} {s : Res} {B : List Res} (h : Hp w0 M (a0 :: a1 :: a2 :: a3 :: a4 :: a5 :: a6 :: s :: B) w) : Hp w0 M (s :: a0 :: a1 :: a2 :: a3 :: a4 :: a5 :: a6 :: B) w := Hp.pull (A := [a0, a1, a2, a3, a4, a5, a6]) h
theorem Hp.get8 {a0 a1 a2 a3 a4 a5 a6 a7 : Res} {s : Res} {B : List Res} (h : Hp w0 M (a0 :: a1 :: a2 :: a3 :: a4 :: a5 :: a6 :: a7 :: s :: B) w) : s.holds w := Hp.get (A := [a0, a1, a2, a3, a4, a5, a6, a7]) h
theorem Hp.pull8 {a0 a1 a2 a3 a4 a5 a6 a7 : Res} {s : Res} {B : List Res} (h : Hp w0 M (a0 :: a1 :: a2 :: a3 :: a4 :: a5 :: a6 :: a7 :: s :: B) w) : Hp w0 M (s :: a0 :: a1 :: a2 :: a3 :: a4 :: a5 :: a6 :: a7 :: B) w := Hp.pull (A := [a0, a1, a2, a3, a4, a5, a6, a7]) h
theorem Hp.get9 {a0 a1 a2 a3 a4 a5 a6 a7 a8 : Res} {s : Res} {B : List Res} (h : Hp w0 M (a0 :: a1 :: a2 :: a3 :: a4 :: a5 :: a6 :: a7 :: a8 :: s :: B) w) : s.holds w := Hp.get (A := [a0, a1, a2, a3, a4, a5, a6, a7, a8]) h
theorem Hp.pull9 {a0 a1 a2 a3 a4 a5 a6 a7 a8 : Res} {s : Res} {B : List Res} (h : Hp w0 M (a0 :: a1 :: a2 :: a3 :: a4 :: a5 :: a6 :: a7 :: a8 :: s :: B) w) : Hp w0 M (s :: a0 :: a1 :: a2 :: a3 :: a4 :: a5 :: a6 :: a7 :: a8 :: B) w := Hp.pull (A := [a0, a1, a2, a3, a4, a5, a6, a7, a8]) h
theorem Hp.get10 {a0 a1 a2 a3 a4 a5 a6 a7 a8 a9 : Res} {s : Res} {B : List Res} (h : Hp w0 M (a0 :: a1 :: a2 :: a3 :: a4 :: a5 :: a6 :: a7 :: a8 :: a9 :: s :: B) w) : s.holds w := Hp.get (A := [a0, a1, a2, a3, a4, a5, a6, a7, a8, a9]) h
theorem Hp.pull10 {a0 a1 a2 a3 a4 a5 a6 a7 a8 a9 : Res} {s : Res} {B : List Res} (h : Hp w0 M (a0 :: a1 :: a2 :: a3 :: a4 :: a5 :: a6 :: a7 :: a8 :: a9 :: s :: B) w) : Hp w0 M (s :: a0 :: a1 :: a2 :: a3 :: a4 :: a5 :: a6 :: a7 :: a8 :: a9 :: B) w := Hp.pull (A := [a0, a1, a2, a3, a4, a5, a6, a7, a8, a9]) h
theorem Hp.get11 {a0 a1 a2 a3 a4 a5 a6 a7 a8 a9 a10 : Res} {s : Res} {B : List Res} (h : Hp w0 M (a0 :: a1 :: a2 :: a3 :: a4 :: a5 :: a6 :: a7 :: a8 :: a9 :: a10 :: s :: B) w) : s.holds w := Hp.get (A := [a0, a1, a2, a3, a4, a5, a6, a7, a8, a9, a10]) h
theorem Hp.pull11 {a0 a1 a2 a3 a4 a5 a6 a7 a8 a9 a10 : Res} {s : Res} {B : List Res} (h : Hp w0 M (a0 :: a1 :: a2 :: a3 :: a4 :: a5 :: a6 :: a7 :: a8 :: a9 :: a10 :: s :: B) w) : Hp w0 M (s :: a0 :: a1 :: a2 :: a3 :: a4 :: a5 :: a6 :: a7 :: a8 :: a9 :: a10 :: B) w := Hp.pull (A := [a0, a1, a2, a3, a4, a5, a6, a7, a8, a9, a10]) h
end
end Go.Proofs.Ytdkgdidnknojlaa.K
namespace Go.Proofs.Ytdkgdidnknojlaa.K
open Go Go.RowKit

def NoPanic (Q : Post) : Prop := ∀ c e w, ¬ Q (.panic c) e w
theorem np_body {P : Program} {fn : Func} {R : Ending → World → Prop} : NoPanic (bodyQ P fn R) := fun _ _ _ h => h
theorem np_thn {K : Env → World → Prop} {Q : Post} (h : NoPanic Q) : NoPanic (thn K Q) := fun c e w hq => h c e w hq
theorem np_blk {i : Nat} {Q : Post} (h : NoPanic Q) : NoPanic (inBlock i Q) := fun c e w hq => h c e w hq

theorem pureOp0_w (P : Program) (w w' : World) (H : Hints) (e : Env) (ls : List Value) (o : Oper) :
    (pureOp0 P w H e ls o).map (fun x => (x.1, x.2.2)) = (pureOp0 P w' H e ls o).map (fun x => (x.1, x.2.2)) := by
  obtain ⟨dst, op, type, pos, after, guard⟩ := o
  cases op <;> simp only [pureOp0, builtinV] <;> (try rfl) <;> (repeat' split) <;> (first | rfl | simp_all)
theorem pureOp_w (P : Program) (w w' : World) (H : Hints) (e : Env) (ls : List Value) (o : Oper) :
    (pureOp P w H e ls o).map (fun x => (x.1, x.2.2)) = (pureOp P w' H e ls o).map (fun x => (x.1, x.2.2)) := by
  have h := pureOp0_w P w w' H e ls o
  unfold pureOp
  cases h1 : pureOp0 P w H e ls o with
  | none =>
    cases h2 : pureOp0 P w' H e ls o with
    | none => rfl
    | some y => simp [h1, h2] at h
  | some x =>
    cases h2 : pureOp0 P w' H e ls o with
    | none => simp [h1, h2] at h
    | some y =>
      obtain ⟨v, vc, l⟩ := x
      obtain ⟨v', vc', l'⟩ := y
      simp [h1, h2] at h
      obtain ⟨rfl, rfl⟩ := h
      dsimp only
      split
      · split <;> rfl
      · rfl
theorem pureOp_same {P : Program} {w w' : World} {H : Hints} {e : Env} {ls l1 l2 : List Value} {o : Oper} {v v' : Value} {vc vc' : List Prop}
    (h : pureOp P w H e ls o = some (v, vc, l1)) (h' : pureOp P w' H e ls o = some (v', vc', l2)) : v = v' ∧ l1 = l2 := by
  have := pureOp_w P w w' H e ls o
  rw [h, h'] at this
  simpa using this
theorem runB_same {P : Program} {w w' : World} {H : Hints} {ops : Array Oper} {N : Nat} : ∀ {l : List Oper} {e e1 e2 : Env} {ls : List Value} {vc vc' : List Prop},
    runB P w H ops N l e ls = some (e1, vc) → runB P w' H ops N l e ls = some (e2, vc') → e1 = e2
  | [], _, _, _, _, _, _, h, h' => by simp [runB] at h h'; rw [← h.1, ← h'.1]
  | o :: l, e, e1, e2, ls, vc, vc', h, h' => by
    unfold runB at h h'
    split at h
    · rename_i hg
      rw [hg] at h'
      simp only at h'
      split at h
      · rename_i v vc1 ls1 hp
        split at h'
        · rename_i v2 vc2 ls2 hp2
          obtain ⟨rfl, rfl⟩ := pureOp_same hp hp2
          split at h
          · rename_i ea va hr
            split at h'
            · rename_i eb vb hr2
              simp at h h'
              rw [← h.1, ← h'.1]
              exact runB_same hr hr2
            · simp at h'
          · simp at h
        · simp at h'
      · simp at h
    · rename_i hg
      rw [hg] at h'
      exact runB_same h h'
    · simp at h

/-! ### (1) -/
def QOPS (P : Program) (N : Nat) (ops : Array Oper) (C : World → Prop) (Q : Post) : List Oper → Env → Prop
  | [], e => ∀ w, C w → Q .normal e w
  | o :: r, e => ∀ a, Is N a e → dstOk N o.dst = true →
    if Region.wanted o (yielded ops a.tmps) then ∃ v, (∀ w, C w → o.quietAt P a C w v) ∧ QOPS P N ops C Q r (put e o.dst v) else QOPS P N ops C Q r (put e o.dst undef)

theorem QOPS.sound {P : Program} {N : Nat} {ops : Array Oper} {C : World → Prop} {Q : Post} : ∀ (l : List Oper) (e : Env) (a : Act), (l.all fun o => dstOk N o.dst) = true → Is N a e → QOPS P N ops C Q l e →
    wpQuiet P ops C (fun a' => ∀ w, C w → lift N Q .normal a' w) l a
  | [], e, a, _, ha, h => fun w hw => ⟨e, ha, h w hw⟩
  | o :: r, e, a, hl, ha, h => by
    simp only [List.all_cons, Bool.and_eq_true] at hl
    have h' := h a ha hl.1
    unfold wpQuiet
    split
    · rename_i hw
      rw [if_pos hw] at h'
      obtain ⟨v, hv, hn⟩ := h'
      exact ⟨v, hv, QOPS.sound r _ _ hl.2 (ha.put _ _ hl.1) hn⟩
    · rename_i hw
      rw [if_neg hw] at h'
      exact QOPS.sound r _ _ hl.2 (ha.put _ _ hl.1) h'

theorem WP.quiet {P : Program} {N : Nat} {Q : Post} {e : Env} {w : World} {id : Nat} {ops : Array Oper} (C : World → Prop)
    (hB : (P.follows .mixedOrders, Region.lexB .any ops, ops.toList.all fun o => dstOk N o.dst) = (true, true, true)) (hC : C w.drew) (h : QOPS P N ops C Q ops.toList e) : WP P N (.region id ops true) Q e w := by
  simp only [Prod.mk.injEq] at hB
  intro a ha
  exact wp_region_quiet hB.1 hB.2.1 hC (QOPS.sound _ _ _ hB.2.2 ha h)

section
variable {P : Program} {N : Nat} {ops : Array Oper} {C : World → Prop} {Q : Post} {e : Env} {r : List Oper}

def QB (P : Program) (w : World) (H : Hints) (ops : Array Oper) (N : Nat) (l : List Oper) (e : Env) (ls : List Value) (live : List Nat) (vs : List Value) : Prop :=
  ∃ vc, All vc ∧ batch P w H ops N l e ls live = some (vs, vc)
theorem QB.mk {w : World} {H : Hints} {l : List Oper} {ls : List Value} {live : List Nat} {vs : List Value} {vc : List Prop} (pf : Prf vc) (h : batch P w H ops N l e ls live = some (vs, vc)) : QB P w H ops N l e ls live vs := ⟨vc, pf.all, h⟩

theorem QOPS.val1 {o : Oper} {v : Value} (hg : guardB ops N e o = some true) (hr : ∀ w, C w → (execOp (ev e) { o with guard := none }).run P w = .ok (.value v) w) (h : QOPS P N ops C Q r (put e o.dst v)) : QOPS P N ops C Q (o :: r) e := by
  intro a ha hd
  have hx : execOp a.eval o = execOp (ev e) { o with guard := none } := by rw [ha.eval]; rfl
  have hw : Region.wanted o (yielded ops a.tmps) = true := wanted_of ha hg
  rw [if_pos hw]
  exact ⟨v, fun w hC => by unfold Oper.quietAt; rw [hx, hr w hC]; exact ⟨rfl, rfl⟩, h⟩
where
  wanted_of {N : Nat} {ops : Array Oper} {e : Env} {o : Oper} {a : Act} {b : Bool} (ha : Is N a e) (hg : guardB ops N e o = some b) : Region.wanted o (yielded ops a.tmps) = b := by
    unfold guardB at hg
    unfold Region.wanted
    split at hg
    · rename_i hn; rw [hn]; simpa using hg
    · rename_i j c hgd
      rw [hgd]
      split at hg
      · rename_i t ht
        split at hg
        · rename_i hN
          have hlt : t < a.tmps.size := by rw [ha.size]; simpa [Nat.blt_eq] using hN
          have hy : a.tmps[t]? = some (e t) := by
            have := ha.get t
            rw [Array.getD_eq_getD_getElem?, Array.getElem?_eq_getElem hlt] at this
            rw [Array.getElem?_eq_getElem hlt, ← this]; rfl
          split at hg
          · rename_i hb; simp at hg; subst hg; cases c <;> simp [yielded, ht, hy, hb]
          · rename_i hb; simp at hg; subst hg; rename_i b'; cases b <;> simp [yielded, ht, hy, hb]
          · rename_i hb; simp at hg; subst hg; simp [yielded, ht, hy, hb]
          · simp at hg
        · simp at hg
      · simp at hg
theorem QOPS.skip1 {o : Oper} (hg : guardB ops N e o = some false) (h : QOPS P N ops C Q r (put e o.dst undef)) : QOPS P N ops C Q (o :: r) e := by
  intro a ha hd
  have hw : Region.wanted o (yielded ops a.tmps) = false := QOPS.val1.wanted_of ha hg
  rw [if_neg (by rw [hw]; exact Bool.false_ne_true)]
  exact h

theorem QOPS.nil (h : ∀ w, C w → Q .normal e w) : QOPS P N ops C Q [] e := h
theorem QOPS.call {f : FuncId} {args : Array Operand} {ts : Array TypeId} {v : Value} {ty : TypeId} {pos : String} {af : Array Edge} {gd : Option (Nat × Bool)} (dst : Option Tmp) (vs : List Value) (hok : (guardB ops N e ⟨dst, .call ⟨.value (.func f), args, ts⟩, ty, pos, af, gd⟩, callOk P f, args.toList.map (ev e)) = (some true, true, vs))
    (hc : ∀ w, C w → Calls P f vs.toArray w (fun x w' => x = .returned v ∧ C w')) (h : QOPS P N ops C Q r (put e dst v)) :
    QOPS P N ops C Q (⟨dst, .call ⟨.value (.func f), args, ts⟩, ty, pos, af, gd⟩ :: r) e := by
  simp only [Prod.mk.injEq] at hok
  obtain ⟨hg, hok, hvs⟩ := hok
  unfold callOk at hok
  split at hok
  · rename_i fn hf
    simp at hok
    intro a ha hd
    have hw := QOPS.val1.wanted_of ha hg
    rw [if_pos hw]
    refine ⟨v, fun w hC => ?_, h⟩
    unfold Oper.quietAt
    have hm : args.map (ev e) = vs.toArray := by rw [← hvs]; apply Array.ext'; simp
    have hce := callFunc_enter (P := P) (w := w) (args := vs.toArray) hf (by simpa using hok.1) (by simpa using hok.2)
    have : (execOp a.eval ⟨dst, .call ⟨.value (.func f), args, ts⟩, ty, pos, af, gd⟩).run P w = .ok (.enter f vs.toArray) w := by
      rw [ha.eval]; simp [execOp, resolve, ev, Deferred.ofValue, hm, invoke, hce]
    rw [this]
    exact ⟨rfl, hc w hC⟩
  · simp at hok
theorem QOPS.callV {f : FuncId} {x : Operand} {cap : Array Value} {args : Array Operand} {ts : Array TypeId} {v : Value} {ty : TypeId} {pos : String} {af : Array Edge} {gd : Option (Nat × Bool)} (dst : Option Tmp) (vs : List Value) (hx : ev e x = .func (.func f) #[] cap)
    (hok : (guardB ops N e ⟨dst, .call ⟨.value x, args, ts⟩, ty, pos, af, gd⟩, callOk P f, args.toList.map (ev e) ++ cap.toList) = (some true, true, vs))
    (hc : ∀ w, C w → Calls P f vs.toArray w (fun x w' => x = .returned v ∧ C w')) (h : QOPS P N ops C Q r (put e dst v)) :
    QOPS P N ops C Q (⟨dst, .call ⟨.value x, args, ts⟩, ty, pos, af, gd⟩ :: r) e := by
  simp only [Prod.mk.injEq] at hok
  obtain ⟨hg, hok, hvs⟩ := hok
  unfold callOk at hok
  split at hok
  · rename_i fn hf
    simp at hok
    intro a ha hd
    have hw := QOPS.val1.wanted_of ha hg
    rw [if_pos hw]
    refine ⟨v, fun w hC => ?_, h⟩
    unfold Oper.quietAt
    have hm : args.map (ev e) ++ cap = vs.toArray := by rw [← hvs]; apply Array.ext'; simp
    have hce := callFunc_enter (P := P) (w := w) (args := vs.toArray) hf (by simpa using hok.1) (by simpa using hok.2)
    have : (execOp a.eval ⟨dst, .call ⟨.value x, args, ts⟩, ty, pos, af, gd⟩).run P w = .ok (.enter f vs.toArray) w := by
      rw [ha.eval]; simp only [execOp, resolve, hx, Deferred.ofValue]; simp [invoke, hm, hce]
    rw [this]
    exact ⟨rfl, hc w hC⟩
  · simp at hok

/-- The first operations in a batch, in every world of the class. -/
theorem QOPS.batch {l : List Oper} (k : Nat) (H : Hints) (ls : List Value) (live : List Nat) (vs : List Value) (hne : ∃ w, C w)
    (h : ∀ w, C w → QB P w H ops N (l.take k) e ls live vs) (next : ∀ base, QOPS P N ops C Q (l.drop k) (K.mk base live vs)) : QOPS P N ops C Q l e := by
  have key : ∀ (r l1 : List Oper) (e e' : Env) (ls : List Value), (∀ w, C w → ∃ vc, All vc ∧ runB P w H ops N l1 e ls = some (e', vc)) → QOPS P N ops C Q r e' → QOPS P N ops C Q (l1 ++ r) e := by
    intro r l1
    induction l1 with
    | nil =>
      intro e e' ls hh hr
      obtain ⟨w, hw⟩ := hne
      obtain ⟨vc, _, h2⟩ := hh w hw
      simp [runB] at h2
      rw [← h2.1] at hr
      exact hr
    | cons o l1 ih =>
      intro e e' ls hh hr
      obtain ⟨w0, hw0⟩ := hne
      obtain ⟨vc0, hv0, h0⟩ := hh w0 hw0
      unfold runB at h0
      split at h0
      · rename_i hg
        split at h0
        · rename_i v vc1 ls' hp
          have hall : ∀ w, C w → ∃ vc1 vc2, pureOp P w H e ls { o with guard := none } = some (v, vc1, ls') ∧ All vc1 ∧ All vc2 ∧ runB P w H ops N l1 (put e o.dst v) ls' = some (e', vc2) := by
            intro w hw
            obtain ⟨vc, hv, h1⟩ := hh w hw
            unfold runB at h1
            rw [hg] at h1
            simp only at h1
            split at h1
            · rename_i v' vc1' ls'' hp'
              have hsame := pureOp_same hp hp'
              obtain ⟨rfl, rfl⟩ := hsame
              split at h1
              · rename_i e'' vc2 hrun
                simp at h1; obtain ⟨rfl, rfl⟩ := h1
                have := All.append hv
                exact ⟨vc1', vc2, hp', this.1, this.2, hrun⟩
              · simp at h1
            · simp at h1
          refine QOPS.val1 (v := v) hg (fun w hw => ?_) (ih (put e o.dst v) e' ls' (fun w hw => ?_) hr)
          · obtain ⟨vc1, vc2, a1, a2, _, _⟩ := hall w hw
            exact run_pureOp a1 a2
          · obtain ⟨vc1, vc2, _, _, a3, a4⟩ := hall w hw
            exact ⟨vc2, a3, a4⟩
        · simp at h0
      · rename_i hg
        refine QOPS.skip1 hg (ih (put e o.dst undef) e' ls (fun w hw => ?_) hr)
        obtain ⟨vc, hv, h1⟩ := hh w hw
        unfold runB at h1
        rw [hg] at h1
        exact ⟨vc, hv, h1⟩
      · simp at h0
  obtain ⟨w0, hw0⟩ := hne
  obtain ⟨vc0, hv0, h0⟩ := h w0 hw0
  unfold K.batch at h0
  split at h0
  · rename_i e' vc' hr0
    simp at h0
    obtain ⟨hvs, rfl⟩ := h0
    have := key (l.drop k) (l.take k) e e' ls (fun w hw => ?_) (by have := next e'; rwa [mk_self hvs] at this)
    · rwa [List.take_append_drop] at this
    · obtain ⟨vc, hv, h1⟩ := h w hw
      unfold K.batch at h1
      split at h1
      · rename_i e2 vc2 hr2
        simp at h1
        obtain ⟨_, rfl⟩ := h1
        exact ⟨vc2, hv, by rw [hr2, runB_same hr0 hr2]⟩
      · simp at h1
  · simp at h0
end


/-! ### (2) -/
/-- Whatever comes up: and behind each operation that waits not for all that is quiet, S. -/
def wpAnyK (P : Program) (ops : Array Oper) (Q : Exit → Act → World → Prop) (S : World → Prop) (K : Nat → Bool) : Nat → Array Bool → Act → World → Prop
  | 0, listed, a, w => Region.ready .any ops listed = [] ∧ Q .normal a w
  | fuel + 1, listed, a, w =>
    (Region.ready .any ops listed = [] → Q .normal a w) ∧
    ∀ i ∈ Region.ready .any ops listed, wpOp P ops Q i (fun a' w' => (K i = true ∨ S w') ∧ wpAnyK P ops Q S K fuel (listed.setIfInBounds i true) a' w') a w
section
variable {P : Program} {ops : Array Oper} {Q : Exit → Act → World → Prop} {S : World → Prop} {K : Nat → Bool}
theorem wpAny_of_K : ∀ (fuel : Nat) (listed : Array Bool) (a : Act) (w : World), wpAnyK P ops Q S K fuel listed a w → wpAny P .any ops Q fuel listed a w
  | 0, _, _, _, h => h
  | fuel + 1, _, _, _, h => ⟨h.1, fun i hi => wpOp_mono (fun a' w' h' => wpAny_of_K fuel _ a' w' h'.2) (h.2 i hi)⟩
theorem ready_other {listed : Array Bool} {i j : Nat} (hj : j ∈ Region.ready .any ops listed) (hr : i ∈ Region.ready .any ops listed) {oj : Oper} (hoj : ops[j]? = some oj) :
    ∀ e ∈ oj.after, Region.binds .any e = true → e.on ≠ i := fun e he hb heq => by
  obtain ⟨_, oj', hoj', hall⟩ := mem_ready.1 hj
  rw [hoj] at hoj'; cases hoj'
  have h1 := hall e he hb
  have h0 := (mem_ready.1 hr).1
  rw [heq] at h1
  rcases Nat.lt_or_ge i listed.size with h' | h'
  · simp [h'] at h0 h1; rw [h0] at h1; cases h1
  · simp [Array.getElem?_eq_none h'] at h1
theorem wpAnyK_first {i : Nat} {oi : Oper} {v : Value} (hi : ops[i]? = some oi) (hsel : ∀ (j : Nat) (o : Oper) cs b, ops[j]? = some o → o.op ≠ .select cs b)
    (hQ : ∀ c a w, ¬ Q (.panic c) a w) (hK : ∀ j oj, ops[j]? = some oj → K j = true → ∃ e ∈ oj.after, Region.binds .any e = true ∧ e.on = i) :
    ∀ (fuel : Nat) (listed : Array Bool) (a : Act) (w : World),
      (∀ j oj, ops[j]? = some oj → j ≠ i → listed.getD j true = false → (∀ e ∈ oj.after, Region.binds .any e = true → e.on ≠ i) → oi.apart ops oj = true) →
      i ∈ Region.ready .any ops listed → YieldsIf P ops S oi v a → S w →
      wpAnyK P ops Q S K fuel (listed.setIfInBounds i true) (a.put oi.dst v) w → wpAnyK P ops Q S K (fuel + 1) listed a w := by
  intro fuel
  induction fuel with
  | zero =>
    intro listed a w _ hr hy hS H
    refine ⟨fun h => (by rw [h] at hr; cases hr), fun j hj => ?_⟩
    by_cases hji : j = i
    · subst hji; exact hy.wpOp hi hS ⟨.inr hS, H⟩
    · have := ready_mono hj hji
      rw [H.1] at this
      cases this
  | succ fuel ih =>
    intro listed a w hfree hr hy hS H
    refine ⟨fun h => (by rw [h] at hr; cases hr), fun j hj => ?_⟩
    by_cases hji : j = i
    · subst hji; exact hy.wpOp hi hS ⟨.inr hS, H⟩
    · have h1 := H.2 j (ready_mono hj hji)
      obtain ⟨hjun, oj, hoj, hall⟩ := mem_ready.1 hj
      have hnot := ready_other hj hr hoj
      have hKj : K j = false := by
        cases hk : K j with
        | false => rfl
        | true =>
          obtain ⟨e, he, hb, hon⟩ := hK j oj hoj hk
          exact absurd hon (hnot e he hb)
      have h2 := wpOp_putIf (S := S) hoj (hfree j oj hoj hji hjun hnot) (fun cs b => hsel i oi cs b hi) (fun cs b => hsel j oj cs b hoj) (fun c a w hq => (hQ c _ w hq).elim) hy h1
      have hfree' : ∀ k ok, ops[k]? = some ok → k ≠ i → (listed.setIfInBounds j true).getD k true = false →
          (∀ e ∈ ok.after, Region.binds .any e = true → e.on ≠ i) → oi.apart ops ok = true := fun k ok hk hki hun hno => by
        refine hfree k ok hk hki ?_ hno
        by_cases hjk : j = k
        · subst hjk; exact hjun
        · rw [getD_set_ne true hjk] at hun; exact hun
      refine wpOp_mono (fun a' w' h3 => ?_) h2
      have hS' : S w' := by rcases h3.2.1 with hk | hs; · rw [hKj] at hk; cases hk
                            · exact hs
      refine ⟨.inr hS', ih (listed.setIfInBounds j true) a' w' hfree' (ready_mono hr (Ne.symm hji)) h3.1 hS' ?_⟩
      rw [Array.setIfInBounds_comm _ _ hji]
      exact h3.2.2
end

/-- An order: numbers, and whether they are taken first. -/
def waitsB (ops : Array Oper) (j i : Nat) : Bool := match ops[j]? with
  | some o => o.after.any fun e => Region.binds .any e && e.on == i
  | none => true
def orderOk (ops : Array Oper) (ks : List Nat) : List (Nat × Bool) → Array Bool → Bool
  | [], listed => Region.ready .any ops listed == []
  | (i, true) :: r, listed => Region.free .any ops listed i && (Region.ready .any ops listed).contains i && ks.all (fun j => waitsB ops j i) && orderOk ops ks r (listed.setIfInBounds i true)
  | (i, false) :: r, listed => (Region.ready .any ops listed == [i]) && orderOk ops ks r (listed.setIfInBounds i true)

def HOPS (P : Program) (N : Nat) (ops : Array Oper) (Q : Post) (S : World → Prop) (ks : List Nat) : List (Nat × Bool) → Env → World → Prop
  | [], e, w => Q .normal e w
  | (i, true) :: r, e, w => ∀ o, ops[i]? = some o → S w ∧ ∃ b, guardB ops N e o = some b ∧
    if b then ∃ v, (∀ w', S w' → (execOp (ev e) { o with guard := none }).run P w' = .ok (.value v) w') ∧ HOPS P N ops Q S ks r (put e o.dst v) w else HOPS P N ops Q S ks r (put e o.dst undef) w
  | (i, false) :: r, e, w => ∀ o, ops[i]? = some o → opStep P N ops Q o (fun e' w' => (ks.contains i = true ∨ S w') ∧ HOPS P N ops Q S ks r e' w') e w

theorem HOPS.sound {P : Program} {N : Nat} {ops : Array Oper} {Q : Post} {S : World → Prop} {ks : List Nat} (hN : (ops.toList.all fun o => dstOk N o.dst) = true) (hs : Region.noSelect ops = true) (hQ : NoPanic Q) :
    ∀ (l : List (Nat × Bool)) (listed : Array Bool) (e : Env) (w : World) (a : Act), orderOk ops ks l listed = true → Is N a e → HOPS P N ops Q S ks l e w → wpAnyK P ops (lift N Q) S ks.contains l.length listed a w
  | [], listed, e, w, a, hok, ha, h => by
    simp only [orderOk, beq_iff_eq] at hok
    exact ⟨hok, e, ha, h⟩
  | (i, true) :: r, listed, e, w, a, hok, ha, h => by
    simp only [orderOk, Bool.and_eq_true] at hok
    obtain ⟨⟨⟨hf, hr⟩, hks⟩, hok'⟩ := hok
    have hr' : i ∈ Region.ready .any ops listed := by simpa using hr
    obtain ⟨_, oi, hoi, _⟩ := mem_ready.1 hr'
    obtain ⟨hS, b, hg, hb⟩ := h oi hoi
    have hw := QOPS.val1.wanted_of ha hg
    have hd : dstOk N oi.dst = true := by
      rw [List.all_eq_true] at hN
      exact hN oi (by have := Array.mem_of_getElem? hoi; simpa using this)
    have hx : execOp a.eval oi = execOp (ev e) { oi with guard := none } := by rw [ha.eval]; rfl
    have hKk : ∀ j oj, ops[j]? = some oj → ks.contains j = true → ∃ e ∈ oj.after, Region.binds .any e = true ∧ e.on = i := by
      intro j oj hoj hk
      have := List.all_eq_true.1 hks j (by simpa using hk)
      unfold waitsB at this
      rw [hoj] at this
      simp only [Array.any_eq_true, Bool.and_eq_true, beq_iff_eq] at this
      obtain ⟨k, hk, h1, h2⟩ := this
      exact ⟨_, Array.getElem_mem hk, h1, h2⟩
    have fin : ∀ v, YieldsIf P ops S oi v a → HOPS P N ops Q S ks r (put e oi.dst v) w → wpAnyK P ops (lift N Q) S ks.contains (r.length + 1) listed a w := fun v hy hn =>
      wpAnyK_first hoi (Region.noSelect_spec hs) (fun c a w ⟨e', _, hq⟩ => hQ c e' w hq) hKk r.length listed a w (Region.free_spec hoi hf) hr' hy hS
        (HOPS.sound hN hs hQ r _ _ w _ hok' (ha.put _ _ hd) hn)
    cases b with
    | true =>
      rw [if_pos rfl] at hb
      obtain ⟨v, hv, hn⟩ := hb
      exact fin v (.inl ⟨hw, fun w' hw' => by rw [hx]; exact hv w' hw'⟩) hn
    | false =>
      rw [if_neg (by simp)] at hb
      exact fin undef (.inr ⟨hw, rfl⟩) hb
  | (i, false) :: r, listed, e, w, a, hok, ha, h => by
    simp only [orderOk, Bool.and_eq_true, beq_iff_eq] at hok
    obtain ⟨hr, hok'⟩ := hok
    refine ⟨fun h0 => (by rw [h0] at hr; cases hr), fun j hj => ?_⟩
    rw [hr] at hj
    have hji : j = i := by simpa using hj
    subst hji
    have hr' : j ∈ Region.ready .any ops listed := by rw [hr]; simp
    obtain ⟨_, oi, hoi, _⟩ := mem_ready.1 hr'
    have hd : dstOk N oi.dst = true := by
      rw [List.all_eq_true] at hN
      exact hN oi (by have := Array.mem_of_getElem? hoi; simpa using this)
    have h' := h oi hoi a ha hd
    unfold wpOp
    simp only [hoi]
    split
    · rename_i hw
      rw [if_pos hw] at h'
      exact .inl (Oper.wp_mono (fun a' w' ⟨e', he', hn⟩ => ⟨hn.1, HOPS.sound hN hs hQ r _ e' w' a' hok' he' hn.2⟩) h')
    · rename_i hw
      rw [if_neg (by simpa using hw)] at h'
      obtain ⟨e', he', hn⟩ := h'
      exact ⟨hn.1, HOPS.sound hN hs hQ r _ e' w _ hok' he' hn.2⟩

theorem WP.held {P : Program} {N : Nat} {Q : Post} {e : Env} {w : World} {id : Nat} {ops : Array Oper} (S : World → Prop) (ks : List Nat) (ord : List (Nat × Bool)) (hQ : NoPanic Q)
    (hB : (P.follows .mixedOrders, Region.noSelect ops, ops.toList.all fun o => dstOk N o.dst, orderOk ops ks ord (Array.replicate ops.size false), Nat.beq ord.length ops.size) = (true, true, true, true, true))
    (h : HOPS P N ops Q S ks ord e w.drew) : WP P N (.region id ops true) Q e w := by
  simp only [Prod.mk.injEq] at hB
  obtain ⟨h1, h2, h3, h4, h5⟩ := hB
  intro a ha
  have h5' : ord.length = ops.size := Nat.eq_of_beq_eq_true h5
  refine wp_region_any h1 ?_
  rw [← h5']
  have := wpAny_of_K _ _ _ _ (HOPS.sound h3 h2 hQ ord _ e w.drew a h4 ha h)
  rw [← h5'] at this
  exact this

section
variable {P : Program} {N : Nat} {ops : Array Oper} {Q : Post} {S : World → Prop} {ks : List Nat} {e : Env} {w : World} {r : List (Nat × Bool)}
theorem HOPS.nil (h : Q .normal e w) : HOPS P N ops Q S ks [] e w := h
/-- One that comes up alone. -/
theorem HOPS.eff {i : Nat} (o : Oper) (ho : ops[i]? = some o) (h : opStep P N ops Q o (fun e' w' => (ks.contains i = true ∨ S w') ∧ HOPS P N ops Q S ks r e' w') e w) : HOPS P N ops Q S ks ((i, false) :: r) e w := by
  intro o' ho'
  rw [ho] at ho'; cases ho'
  exact h
/-- Those that are taken first, in a batch. -/
theorem HOPS.batch {l : List (Nat × Bool)} (k : Nat) (H : Hints) (ls : List Value) (live : List Nat) (vs : List Value) (lo : List Oper) (hlo : ((l.take k).map fun p => (ops[p.1]?, p.2)) = lo.map fun o => (some o, true)) (hS : S w)
    (h : ∀ w, S w → QB P w H ops N lo e ls live vs) (next : ∀ base, HOPS P N ops Q S ks (l.drop k) (K.mk base live vs) w) : HOPS P N ops Q S ks l e w := by
  have key : ∀ (r l1 : List (Nat × Bool)) (lo : List Oper) (e e' : Env) (ls : List Value), (l1.map fun p => (ops[p.1]?, p.2)) = lo.map (fun o => (some o, true)) → (∀ w, S w → ∃ vc, All vc ∧ runB P w H ops N lo e ls = some (e', vc)) →
      HOPS P N ops Q S ks r e' w → HOPS P N ops Q S ks (l1 ++ r) e w := by
    intro r l1
    induction l1 with
    | nil =>
      intro lo e e' ls hl hh hr
      cases lo with
      | nil =>
        obtain ⟨vc, _, h2⟩ := hh w hS
        simp [runB] at h2
        rw [← h2.1] at hr
        exact hr
      | cons o lo => simp at hl
    | cons p l1 ih =>
      intro lo e e' ls hl hh hr
      cases lo with
      | nil => simp at hl
      | cons o lo =>
        obtain ⟨i, b⟩ := p
        simp only [List.map_cons, List.cons.injEq, Prod.mk.injEq] at hl
        obtain ⟨⟨hoi, rfl⟩, hl'⟩ := hl
        intro o' ho'
        rw [hoi] at ho'; cases ho'
        obtain ⟨vc0, hv0, h0⟩ := hh w hS
        unfold runB at h0
        split at h0
        · rename_i hg
          split at h0
          · rename_i v vc1 ls' hp
            have hall : ∀ w, S w → ∃ vc1 vc2, pureOp P w H e ls { o with guard := none } = some (v, vc1, ls') ∧ All vc1 ∧ All vc2 ∧ runB P w H ops N lo (put e o.dst v) ls' = some (e', vc2) := by
              intro w hw
              obtain ⟨vc, hv, h1⟩ := hh w hw
              unfold runB at h1
              rw [hg] at h1
              simp only at h1
              split at h1
              · rename_i v' vc1' ls'' hp'
                obtain ⟨rfl, rfl⟩ := pureOp_same hp hp'
                split at h1
                · rename_i e'' vc2 hrun
                  simp at h1; obtain ⟨rfl, rfl⟩ := h1
                  have := All.append hv
                  exact ⟨vc1', vc2, hp', this.1, this.2, hrun⟩
                · simp at h1
              · simp at h1
            refine ⟨hS, true, hg, ?_⟩
            rw [if_pos rfl]
            refine ⟨v, fun w' hw' => ?_, ih lo (put e o.dst v) e' ls' hl' (fun w' hw' => ?_) hr⟩
            · obtain ⟨vc1, vc2, a1, a2, _, _⟩ := hall w' hw'
              exact run_pureOp a1 a2
            · obtain ⟨vc1, vc2, _, _, a3, a4⟩ := hall w' hw'
              exact ⟨vc2, a3, a4⟩
          · simp at h0
        · rename_i hg
          refine ⟨hS, false, hg, ?_⟩
          rw [if_neg (by simp)]
          refine ih lo (put e o.dst undef) e' ls hl' (fun w' hw' => ?_) hr
          obtain ⟨vc, hv, h1⟩ := hh w' hw'
          unfold runB at h1
          rw [hg] at h1
          exact ⟨vc, hv, h1⟩
        · simp at h0
  obtain ⟨vc0, hv0, h0⟩ := h w hS
  unfold K.batch at h0
  split at h0
  · rename_i e' vc' hr0
    simp at h0
    obtain ⟨hvs, rfl⟩ := h0
    have := key (l.drop k) (l.take k) lo e e' ls hlo (fun w' hw' => ?_) (by have := next e'; rwa [mk_self hvs] at this)
    · rwa [List.take_append_drop] at this
    · obtain ⟨vc, hv, h1⟩ := h w' hw'
      unfold K.batch at h1
      split at h1
      · rename_i e2 vc2 hr2
        simp at h1
        obtain ⟨_, rfl⟩ := h1
        exact ⟨vc2, hv, by rw [hr2, runB_same hr0 hr2]⟩
      · simp at h1
  · simp at h0

def pickOps (ops : Array Oper) (l : List (Nat × Bool)) : List Oper := l.filterMap fun p => ops[p.1]?
def pickOk (ops : Array Oper) (l : List (Nat × Bool)) : Bool := l.all fun p => p.2 && (ops[p.1]?).isSome
theorem pickOps_map {ops : Array Oper} : ∀ {l : List (Nat × Bool)}, pickOk ops l = true → (l.map fun p => (ops[p.1]?, p.2)) = (pickOps ops l).map fun o => (some o, true)
  | [], _ => rfl
  | (i, b) :: l, h => by
    simp only [pickOk, List.all_cons, Bool.and_eq_true] at h
    obtain ⟨⟨hb, hs⟩, hl⟩ := h
    obtain ⟨o, ho⟩ := Option.isSome_iff_exists.1 hs
    have ih := pickOps_map (ops := ops) (l := l) hl
    simp only [List.map_cons, pickOps, List.filterMap_cons, ho]
    rw [ih]
    have hb' : b = true := hb
    rw [hb']; rfl
theorem HOPS.take {l : List (Nat × Bool)} (k : Nat) (H : Hints) (ls : List Value) (live : List Nat) (vs : List Value) (hlo : pickOk ops (l.take k) = true) (hS : S w)
    (h : ∀ w, S w → QB P w H ops N (pickOps ops (l.take k)) e ls live vs) (next : ∀ base, HOPS P N ops Q S ks (l.drop k) (K.mk base live vs) w) : HOPS P N ops Q S ks l e w :=
  HOPS.batch k H ls live vs _ (pickOps_map hlo) hS h next
end

noncomputable def bo (p : Prop) : Bool := @decide p (Classical.propDecidable p)
theorem Bp.bo {p : Prop} : Bp (bo p) p := by unfold Bp K.bo; simp
theorem Bp.eq_bo {b : Bool} {p : Prop} (h : Bp b p) : b = K.bo p := by
  have h2 : Bp (K.bo p) p := Bp.bo
  unfold Bp at *
  rw [Bool.eq_iff_iff, h, h2]

theorem batch_one {P : Program} {N : Nat} {ops : Array Oper} {Q : Post} {e : Env} {w : World} {o : Oper} (H : Hints) (ls : List Value) (live : List Nat) (vs : List Value) {vc : List Prop} (pf : Prf vc) {next : Env → World → Prop}
    (h : batch P w H ops N [o] e ls live = some (vs, vc)) (hn : ∀ base, next (K.mk base live vs) w) : opStep P N ops Q o next e w := by
  unfold batch at h
  split at h
  · rename_i e' vc' hr
    simp at h
    obtain ⟨hvs, rfl⟩ := h
    have hn' := hn e'
    rw [mk_self hvs] at hn'
    have hv := pf.all
    clear pf
    unfold runB at hr
    split at hr
    · rename_i hg
      refine guard_step hg ?_
      rw [if_pos rfl]
      split at hr
      · rename_i v vc1 ls' hp
        split at hr
        · rename_i e'' vc2 hrun
          simp at hr; obtain ⟨rfl, rfl⟩ := hr
          simp [runB] at hrun
          obtain ⟨rfl, rfl⟩ := hrun
          exact opStep.val rfl (run_pureOp hp (All.append hv).1) hn'
        · simp at hr
      · simp at hr
    · rename_i hg
      refine guard_step hg ?_
      rw [if_neg (by simp)]
      simp [runB] at hr
      obtain ⟨rfl, rfl⟩ := hr
      exact hn'
    · simp at hr
  · simp at h
theorem HOPS.one {P : Program} {N : Nat} {ops : Array Oper} {Q : Post} {S : World → Prop} {ks : List Nat} {e : Env} {w : World} {r : List (Nat × Bool)} {i : Nat} (o : Oper) (ho : ops[i]? = some o) (H : Hints) (ls : List Value) (live : List Nat) (vs : List Value) {vc : List Prop} (pf : Prf vc)
    (h : K.batch P w H ops N [o] e ls live = some (vs, vc)) (hS : S w) (hn : ∀ base, HOPS P N ops Q S ks r (K.mk base live vs) w) : HOPS P N ops Q S ks ((i, false) :: r) e w :=
  HOPS.eff o ho (batch_one H ls live vs pf h fun base => ⟨.inr hS, hn base⟩)
theorem QOPS.re {P : Program} {N : Nat} {ops : Array Oper} {C : World → Prop} {Q : Post} {l : List Oper} {base : Env} {ks : List Nat} {vs : List Value} (vs' : List Value) (h : vs = vs') (k : QOPS P N ops C Q l (K.mk base ks vs')) : QOPS P N ops C Q l (K.mk base ks vs) := by rw [h]; exact k
end Go.Proofs.Ytdkgdidnknojlaa.K
namespace Go.Proofs.Ytdkgdidnknojlaa.K
open Go Go.RowKit

structure SlH where
  a : Option Addr
  n : Nat
  c : Nat
def SlH.v (s : SlH) : Value := .slice s.a s.n s.c

/-- What is known of the sizes in a datum. -/
structure WtOk {H : Type} (P : Program) (Wt : TypeId → DataW H → Prop) (B : TypeId → Nat) (Bs : Nat) : Prop where
  str : ∀ {t bytes}, P.underlying t = some .string → Wt t (.lit (.string bytes)) → bytes.length ≤ Bs
  slice : ∀ {t e es sp}, P.underlying t = some (.slice e) → 0 < P.bytesOf e → Wt t (.slice es sp) → es.length + sp.length ≤ B e ∧ (∀ d ∈ es, Wt e d)
  agg : ∀ {t fs ds}, P.underlying t = some (.struct fs) → Wt t (.agg ds) → ∀ (i : Nat) (f : Field) (d : DataW H), fs[i]? = some f → ds[i]? = some d → Wt f.type d
  arr : ∀ {t n e ds}, P.underlying t = some (.array n e) → Wt t (.agg ds) → ∀ d ∈ ds, Wt e d

section
variable {H : Type} {enc : TypeId × Value → H} {P : Program} {w : World} {Wt : TypeId → DataW H → Prop} {B : TypeId → Nat} {Bs : Nat} {fuel : Nat} {t : TypeId} {cs : List Value} {y : DataW H × List MemPlace}

/-- The reading of one place. -/
abbrev trodA (enc : TypeId × Value → H) (P : Program) (w : World) (fuel : Nat) (t : TypeId) (cs : List Value) : Option (DataW H × List MemPlace) := DataW.trod enc P w 0 (fun _ => true) true fuel t cs

theorem rng_wf {k : IntKind} {n : Int} (h : (Lit.int k n).wf = true) : Rng k n := by
  simp only [Lit.wf, Bool.and_eq_true, decide_eq_true_eq] at h
  exact h

theorem trod_int {k : IntKind} (hu : P.underlying t = some (.int k)) (h : trodA enc P w fuel t cs = some y) : ∃ n, cs = [.int k n] ∧ Rng k n := by
  cases fuel with
  | zero => simp [trodA, DataW.trod] at h
  | succ fuel =>
    simp only [trodA, DataW.trod, hu] at h
    split at h <;> first
      | (simp at h; done)
      | skip
    all_goals (rename_i hh; simp at hh)
    obtain ⟨rfl, _⟩ := hh
    split at h
    · rename_i hw
      obtain ⟨rfl, hw⟩ := hw
      exact ⟨_, rfl, rng_wf hw⟩
    · simp at h
theorem trod_bool (hu : P.underlying t = some .bool) (h : trodA enc P w fuel t cs = some y) : ∃ b, cs = [.bool b] := by
  cases fuel with
  | zero => simp [trodA, DataW.trod] at h
  | succ fuel =>
    simp only [trodA, DataW.trod, hu] at h
    split at h <;> first
      | (simp at h; done)
      | skip
    all_goals (first | exact ⟨_, rfl⟩ | (rename_i hh; simp at hh))
theorem trod_str (hW : WtOk P Wt B Bs) (hu : P.underlying t = some .string) (h : trodA enc P w fuel t cs = some y) (hy : Wt t y.1) : ∃ s, cs = [.string s] ∧ s.size ≤ Bs := by
  cases fuel with
  | zero => simp [trodA, DataW.trod] at h
  | succ fuel =>
    simp only [trodA, DataW.trod, hu] at h
    split at h <;> first
      | (simp at h; done)
      | skip
    all_goals (first | (rename_i hh; simp at hh; done) | skip)
    split at h
    · rename_i s hs
      simp at h; subst h
      have := hW.str hu hy
      exact ⟨_, rfl, by simpa using this⟩
    · simp at h

theorem mapM_get {α β : Type} {g : α → Option β} : ∀ {l : List α} {ys : List β}, l.mapM g = some ys → ys.length = l.length ∧ ∀ (i : Nat) (x : α), l[i]? = some x → ∃ y, ys[i]? = some y ∧ g x = some y
  | [], ys, h => by simp at h; subst h; simp
  | a :: l, ys, h => by
    simp only [List.mapM_cons, Option.bind_eq_bind, Option.pure_def] at h
    cases ha : g a with
    | none => simp [ha] at h
    | some b =>
      cases hl : l.mapM g with
      | none => simp [ha, hl] at h
      | some bs =>
        simp [ha, hl] at h
        subst h
        obtain ⟨h1, h2⟩ := mapM_get hl
        refine ⟨by simp [h1], fun i x hx => ?_⟩
        cases i with
        | zero => simp at hx; subst hx; exact ⟨b, by simp, ha⟩
        | succ i => simp at hx; obtain ⟨y, h3, h4⟩ := h2 i x hx; exact ⟨y, by simpa using h3, h4⟩

theorem trod_struct {fs : Array Field} (hW : WtOk P Wt B Bs) (hu : P.underlying t = some (.struct fs)) (h : trodA enc P w fuel t cs = some y) (hy : Wt t y.1) :
    cs.length = P.cellsOf t ∧ ∀ (i : Nat) (f : Field), fs[i]? = some f → ∃ fuel' z, trodA enc P w fuel' f.type ((cs.drop f.offset).take (P.cellsOf f.type)) = some z ∧ Wt f.type z.1 := by
  cases fuel with
  | zero => simp [trodA, DataW.trod] at h
  | succ fuel =>
    simp only [trodA, DataW.trod, hu] at h
    split at h
    · rename_i hl
      cases hm : fs.toList.mapM (fun f => DataW.trod enc P w 0 (fun _ => true) true fuel f.type ((cs.drop f.offset).take (P.cellsOf f.type))) with
      | none => simp [hm] at h
      | some xs =>
        simp [hm] at h
        subst h
        obtain ⟨h1, h2⟩ := mapM_get hm
        refine ⟨hl, fun i f hf => ?_⟩
        have hf' : fs.toList[i]? = some f := by simpa using hf
        obtain ⟨z, hz, hz2⟩ := h2 i f hf'
        exact ⟨fuel, z, hz2, hW.agg hu hy i f z.1 hf (by simp [hz])⟩
    · simp at h

theorem cells_get {w : World} {a : Addr} {n : Nat} {cs : List Value} (h : w.cells? 0 a n = some cs) : cs.length = n ∧ ∀ (j : Nat) (u : Value), cs[j]? = some u → w.cell? (a.add j) = some u := by
  unfold World.cells? at h
  rw [if_pos (Nat.zero_le _)] at h
  obtain ⟨h1, h2⟩ := mapM_get h
  refine ⟨by simpa using h1, fun j u hu => ?_⟩
  have hj : j < n := by
    have := (List.getElem?_eq_some_iff.1 hu).1
    simp at h1; omega
  obtain ⟨y, hy, hz⟩ := h2 j j (by simp [hj])
  rw [hu] at hy
  cases hy
  exact hz

theorem flat_get' {α : Type} {f : α → List Value} {sz : Nat} (hsz : 0 < sz) : ∀ {l : List α} (_ : ∀ x ∈ l, (f x).length = sz) {k : Nat} {u : Value}, (l.flatMap f)[k]? = some u → ∃ x, l[k / sz]? = some x ∧ (f x)[k % sz]? = some u
  | [], _, k, u, h => by simp at h
  | y :: l, hl, k, u, h => by
    have hy : (f y).length = sz := hl y (by simp)
    rw [List.flatMap_cons] at h
    by_cases hk : k < sz
    · rw [List.getElem?_append_left (by omega)] at h
      rw [Nat.div_eq_of_lt hk, Nat.mod_eq_of_lt hk]
      exact ⟨y, by simp, h⟩
    · rw [List.getElem?_append_right (by omega), hy] at h
      obtain ⟨x, h1, h2⟩ := flat_get' hsz (fun z hz => hl z (by simp [hz])) h
      refine ⟨x, ?_, ?_⟩
      · have hd : k / sz = (k - sz) / sz + 1 := by
          rw [← Nat.sub_add_cancel (Nat.le_of_not_lt hk), Nat.add_div_right _ hsz]; simp
        rw [hd]; simpa using h1
      · have hm : k % sz = (k - sz) % sz := by
          conv => lhs; rw [← Nat.sub_add_cancel (Nat.le_of_not_lt hk), Nat.add_mod_right]
        rw [hm]; exact h2

theorem trod_slice {e : TypeId} {α : Type} (f : α → List Value) (ok : α → Prop) {sz : Nat} (hW : WtOk P Wt B Bs) (hu : P.underlying t = some (.slice e)) (hsz : P.cellsOf e = sz) (hby : 0 < P.bytesOf e) (h0 : 0 < sz) (hl : ∀ x, (f x).length = sz)
    (hel : ∀ fuel cs y, trodA enc P w fuel e cs = some y → Wt e y.1 → ∃ x, cs = f x ∧ ok x) (h : trodA enc P w fuel t cs = some y) (hy : Wt t y.1) :
    ∃ (s : SlH) (l : List α), cs = [s.v] ∧ s.n = l.length ∧ s.n ≤ s.c ∧ s.c ≤ B e ∧ SlR w s.a s.n (l.flatMap f) ∧ (∀ x ∈ l, ok x) ∧ (s.a = none → s.c = 0) := by
  cases fuel with
  | zero => simp [trodA, DataW.trod] at h
  | succ fuel =>
    simp only [trodA, DataW.trod, hu] at h
    split at h <;> first
      | (simp at h; done)
      | skip
    all_goals (try (rename_i hh; simp at hh; done))
    · exact ⟨⟨none, 0, 0⟩, [], rfl, rfl, Nat.le_refl _, Nat.zero_le _, SlR.nil _ _ rfl, by simp, fun _ => rfl⟩
    · rename_i e' a len cap he
      have hee : e' = e := by simp at he; exact he.symm
      subst hee
      rw [hsz] at h
      split at h
      · rename_i hb
        cases hm : (List.range len).mapM (fun i => (w.cells? 0 (a.add (i * sz)) sz).bind (DataW.trod enc P w 0 (fun _ => true) true fuel e')) with
        | none => simp [hm] at h
        | some es =>
          cases hr : (List.range (cap - len)).mapM (fun j => (w.cells? 0 (a.add ((len + j) * sz)) sz).bind (DataW.trod enc P w 0 (fun _ => true) true fuel e')) with
          | none => simp [hm, hr] at h
          | some rs =>
            simp [hm, hr] at h
            subst h
            obtain ⟨hl1, hg⟩ := mapM_get hm
            obtain ⟨hl2, _⟩ := mapM_get hr
            obtain ⟨hB, hWe⟩ := hW.slice hu hby hy
            simp at hl1 hl2 hB
            have hex : ∀ i, i < len → ∃ x, ok x ∧ w.cells? 0 (a.add (i * sz)) sz = some (f x) := by
              intro i hi
              obtain ⟨z, hz, hz2⟩ := hg i i (by simp [hi])
              cases hc : w.cells? 0 (a.add (i * sz)) sz with
              | none => simp [hc] at hz2
              | some cs =>
                simp [hc] at hz2
                obtain ⟨x, hx, hok⟩ := hel fuel cs z hz2 (hWe z.1 (List.mem_map.2 ⟨z, List.mem_of_getElem? hz, rfl⟩))
                exact ⟨x, hok, by rw [hx]⟩
            have hlist : ∀ k, k ≤ len → ∃ l : List α, l.length = k ∧ (∀ x ∈ l, ok x) ∧ ∀ (i : Nat) (x : α), l[i]? = some x → w.cells? 0 (a.add (i * sz)) sz = some (f x) := by
              intro k
              induction k with
              | zero => intro _; exact ⟨[], rfl, by simp, by simp⟩
              | succ k ih =>
                intro hk
                obtain ⟨l, h1, h2, h3⟩ := ih (by omega)
                obtain ⟨x, hx1, hx2⟩ := hex k (by omega)
                refine ⟨l ++ [x], by simp [h1], ?_, ?_⟩
                · intro y hy; simp at hy; rcases hy with hy | rfl
                  · exact h2 y hy
                  · exact hx1
                · intro i y hy
                  rw [List.getElem?_append] at hy
                  split at hy
                  · exact h3 i y hy
                  · rename_i hi
                    have : i = k := by
                      have := (List.getElem?_eq_some_iff.1 hy).1
                      simp at this; omega
                    subst this
                    simp [h1] at hy; subst hy; exact hx2
            obtain ⟨l, h1, h2, h3⟩ := hlist len (Nat.le_refl _)
            refine ⟨⟨some a, len, cap⟩, l, rfl, h1.symm, hb.2.1, ?_, ⟨?_, fun _ => rfl⟩, h2, fun hh => by simp at hh⟩
            · show cap ≤ B e'
              omega
            · intro j u hu
              obtain ⟨x, hx, hxu⟩ := flat_get' h0 (fun x _ => hl x) hu
              have := (cells_get (h3 _ x hx)).2 (j % sz) u hxu
              rw [Addr.add_add] at this
              show w.cell? (a.add j) = some u
              rwa [Nat.mul_comm, Nat.div_add_mod] at this
      · simp at h
end

theorem len_succ {α : Type} {l : List α} {n : Nat} (h : l.length = n + 1) : ∃ c r, l = c :: r ∧ r.length = n := by
  cases l with
  | nil => simp at h
  | cons c r => exact ⟨c, r, rfl, by simpa using h⟩
theorem len_zero {α : Type} {l : List α} (h : l.length = 0) : l = [] := List.eq_nil_of_length_eq_zero h

/-- A slice that was handed in. -/
structure SlD {α : Type} (w : World) (f : α → List Value) (ok : α → Prop) (Bn : Nat) (s : SlH) (l : List α) : Prop where
  len : s.n = l.length
  cap : s.n ≤ s.c
  bnd : s.c ≤ Bn
  rd : SlR w s.a s.n (l.flatMap f)
  all : ∀ x ∈ l, ok x
  nil : s.a = none → s.c = 0
theorem SlD.of {α : Type} {w : World} {f : α → List Value} {ok : α → Prop} {Bn : Nat} {cs : List Value}
    (h : ∃ (s : SlH) (l : List α), cs = [s.v] ∧ s.n = l.length ∧ s.n ≤ s.c ∧ s.c ≤ Bn ∧ SlR w s.a s.n (l.flatMap f) ∧ (∀ x ∈ l, ok x) ∧ (s.a = none → s.c = 0)) :
    ∃ s : SlH, cs = [s.v] ∧ ∃ l, SlD w f ok Bn s l := by
  obtain ⟨s, l, h1, h2, h3, h4, h5, h6, h7⟩ := h
  exact ⟨s, h1, l, ⟨h2, h3, h4, h5, h6, h7⟩⟩

end Go.Proofs.Ytdkgdidnknojlaa.K
namespace Go.Proofs.Ytdkgdidnknojlaa.K
open Go Go.Proofs Go.RowKit
set_option linter.unusedVariables false

theorem bulk_pos {H : Type} (d : DataW H) : 1 ≤ Rows.uptoBulk d := by
  cases d with
  | lit l => cases l <;> simp [Rows.uptoBulk]
  | nil => simp [Rows.uptoBulk]
  | ptr d => simp [Rows.uptoBulk]
  | slice elems spare => simp [Rows.uptoBulk]
  | agg parts => simp [Rows.uptoBulk]
  | iface t d => simp [Rows.uptoBulk]
  | map entries => simp [Rows.uptoBulk]
  | held h => simp [Rows.uptoBulk]
theorem bulk_mem {H : Type} {d : DataW H} : ∀ {l : List (DataW H)}, d ∈ l → Rows.uptoBulk d ≤ Rows.uptoBulkAll l
  | [], h => by cases h
  | x :: r, h => by
    simp only [Rows.uptoBulkAll]
    rcases List.mem_cons.1 h with rfl | h
    · omega
    · have := bulk_mem h; omega
theorem bulk_len {H : Type} : ∀ l : List (DataW H), l.length ≤ Rows.uptoBulkAll l
  | [] => by simp
  | x :: r => by have := bulk_pos x; have := bulk_len r; simp only [Rows.uptoBulkAll, List.length_cons]; omega
def WtU {H : Type} (t : TypeId) (d : DataW H) : Prop := Rows.uptoBulk d ≤ 1048576
theorem wt_upto {H : Type} (P : Program) : WtOk (H := H) P WtU (fun _ => 1048576) 1048576 where
  str := fun {t bytes} _ h => by
    have h : Rows.uptoBulk (DataW.lit (H := H) (.string bytes)) ≤ 1048576 := h
    simp only [Rows.uptoBulk] at h
    omega
  slice := fun {t e es sp} _ _ h => by
    have h : Rows.uptoBulk (DataW.slice es sp) ≤ 1048576 := h
    simp only [Rows.uptoBulk] at h
    have h1 := bulk_len es
    have h2 := bulk_len sp
    exact ⟨by omega, fun d hd => by have := bulk_mem hd; unfold WtU; omega⟩
  agg := fun {t fs ds} _ h i f d _ hd => by
    have h : Rows.uptoBulk (DataW.agg ds) ≤ 1048576 := h
    simp only [Rows.uptoBulk] at h
    have := bulk_mem (List.mem_of_getElem? hd)
    unfold WtU; omega
  arr := fun {t n e ds} _ h d hd => by
    have h : Rows.uptoBulk (DataW.agg ds) ≤ 1048576 := h
    simp only [Rows.uptoBulk] at h
    have := bulk_mem hd
    unfold WtU; omega
theorem wtu_of {H : Type} {ds : List (DataW H)} (hk : Rows.uptoSmall H ds = true) {t : TypeId} {d : DataW H} (hd : d ∈ ds) : WtU t d := by
  have h : Rows.uptoBulkAll ds ≤ 1048576 := of_decide_eq_true hk
  exact Nat.le_trans (bulk_mem hd) h
end Go.Proofs.Ytdkgdidnknojlaa.K
namespace Go.Proofs.Ytdkgdidnknojlaa.K
open Go Go.RowKit

section
variable {P : Program} {N : Nat} {ops : Array Oper} {Q : Post} {S : World → Prop} {ks : List Nat} {e : Env} {w : World} {r : List (Nat × Bool)}
theorem HOPS.re {l : List (Nat × Bool)} {base : Env} {kz : List Nat} {vs : List Value} (vs' : List Value) (h : vs = vs') (k : HOPS P N ops Q S ks l (mk base kz vs') w) : HOPS P N ops Q S ks l (mk base kz vs) w := by rw [h]; exact k
theorem HOPS.effW {i : Nat} (o : Oper) (ho : ops[i]? = some o) (hg : guardB ops N e o = some true) (h : opStep P N ops Q { o with guard := none } (fun e' w' => (ks.contains i = true ∨ S w') ∧ HOPS P N ops Q S ks r e' w') e w) : HOPS P N ops Q S ks ((i, false) :: r) e w :=
  HOPS.eff o ho (guard_step hg (by rw [if_pos rfl]; exact h))
end
end Go.Proofs.Ytdkgdidnknojlaa.K
