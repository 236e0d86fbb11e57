/- Maps whose keys are numbers or texts. -/
import Derived.Test.YtdahgdkadfdkeaaCoreO
namespace Go.Proofs.Ytdahgdkadfdkeaa.K
open Go Go.RowKit
set_option linter.unusedVariables false
set_option linter.unusedSimpArgs false

structure KeyNr {κ : Type} [DecidableEq κ] (P : Program) (t : TypeId) (kf : κ → Value) : Prop where
  same : ∃ d, P.underlying t = some d ∧ ∀ a b, Instr.sameNow d (kf a) (kf b) = some (decide (a = b))
  chk : ∀ a, chkB P t (kf a) = true
  bits : ∀ a, Instr.sameBits 10000 (kf a) (kf a) = true
theorem ba_beq (a b : ByteArray) : (a == b) = decide (a = b) := by
  cases a with | mk a =>
  cases b with | mk b =>
  show (a == b) = _
  by_cases e : a = b
  · subst e; simp
  · rw [decide_eq_false (fun h => e (by cases h; rfl))]; exact beq_eq_false_iff_ne.2 e
theorem keyStr {P : Program} {t : TypeId} (h : P.underlying t = some .string) : KeyNr (κ := ByteArray) P t (fun s => .string s) where
  same := ⟨_, h, fun a b => by
    simp only [Instr.sameNow, ba_beq]⟩
  chk := fun a => by simp [chkB, h]
  bits := fun a => by unfold Instr.sameBits; rw [ba_beq]; exact decide_eq_true rfl
theorem keyInt {P : Program} {t : TypeId} {kd : IntKind} (h : P.underlying t = some (.int kd)) : KeyNr (κ := Int) P t (fun y => .int kd y) where
  same := ⟨_, h, fun a b => by
    simp only [Instr.sameNow, if_true]
    by_cases e : a = b
    · subst e; simp
    · rw [decide_eq_false e, beq_eq_false_iff_ne.2 e]⟩
  chk := fun a => by simp [chkB, h]
  bits := fun a => by unfold Instr.sameBits; cases kd <;> simp
section
variable {κ ν : Type} {P : Program} {t : TypeId} {kf : κ → Value} {vf : ν → Value} [DecidableEq κ] {w : World}
theorem find_now {d : TypeDesc} (hd : ∀ a b, Instr.sameNow d (kf a) (kf b) = some (decide (a = b))) (k : κ) : ∀ (es : List MapEntry) (l : List (κ × ν)) (i : Nat), es.map (fun e => (e.key, e.val)) = l.map (fun p => (kf p.1, vf p.2)) →
    Instr.findNow d (kf k) es i = some ((l.findIdx? (fun p => decide (k = p.1))).bind fun j => (l[j]?).map fun p => (i + j, vf p.2))
  | [], [], i, _ => by simp [Instr.findNow]
  | [], _ :: _, _, h => by simp at h
  | _ :: _, [], _, h => by simp at h
  | e :: es, p :: l, i, h => by
    simp only [List.map_cons, List.cons.injEq, Prod.mk.injEq] at h
    obtain ⟨⟨h1, h2⟩, h3⟩ := h
    have ih := find_now hd k es l (i + 1) h3
    simp only [Instr.findNow, h1, hd]
    by_cases hk : k = p.1
    · simp [hk, h2, List.findIdx?_cons]
    · simp only [hk, decide_false, ih, List.findIdx?_cons]
      cases hf : l.findIdx? (fun p => decide (k = p.1)) with
      | none => simp
      | some j => simp [Nat.add_comm, Nat.add_left_comm]
theorem find_nr (K : KeyNr P t kf) (k : κ) (es : List MapEntry) (l : List (κ × ν)) (h : es.map (fun e => (e.key, e.val)) = l.map (fun p => (kf p.1, vf p.2))) :
    (Instr.findKey t (kf k) es).run P w = .ok ((l.findIdx? (fun p => decide (k = p.1))).bind fun j => (l[j]?).map fun p => (0 + j, vf p.2)) w := by
  obtain ⟨d, hu, hd⟩ := K.same
  simp only [Instr.findKey, Sem.run_bind, run_underlying hu, Result.andThen_ok, find_now hd k es l 0 h, Sem.run_pure]
theorem Lk.okN {mt et : TypeId} {b : Nat} {l : List (κ × ν)} (K : KeyNr P t kf) (hm : P.underlying mt = some (.map t et)) (h : (Res.mp b kf vf l).holds w) (k : κ) {z : Value} (hz : (zeroValue et).run P w = .ok z w) (ok : Bool) :
    Lk P w mt (.map (some b)) (kf k) ok (if ok then .tuple #[(match mapV l k with | some v => vf v | none => z), .bool (mapV l k).isSome] else (match mapV l k with | some v => vf v | none => z)) := by
  obtain ⟨es, c, hb, he, hbn⟩ := h
  have hf := find_nr (P := P) (w := w) K k es.toList l he
  have hg : (getObj b).run P w = .ok (.map es c) w := MapKept.run_getObj_map hb
  unfold Lk Instr.lookup
  simp only [Sem.run_bind, run_underlying hm, Result.andThen_ok, hg, Sem.run_pure, run_chk (K.chk k), hf]
  unfold mapV
  cases l.findIdx? (fun p => decide (k = p.1)) with
  | none => simp [hz]
  | some j =>
    cases hj : l[j]? with
    | none => simp [hj, hz]
    | some p => simp [hj]
theorem zero_of {et : TypeId} {z : Value} (hz : (P.info? et).bind (·.zero) = some z) : (zeroValue et).run P w = .ok z w := by
  cases hi : P.info? et with
  | none => simp [hi] at hz
  | some i => simp [hi] at hz; simp [zeroValue, typeInfo, hi, hz]
/-- A value, and whether it is there. -/
theorem Lk.okD {mt et : TypeId} {b : Nat} {l : List (κ × ν)} (K : KeyNr P t kf) (hm : P.underlying mt = some (.map t et)) (h : (Res.mp b kf vf l).holds w) (k : κ) (d : ν) (hz : (P.info? et).bind (·.zero) = some (vf d)) :
    Lk P w mt (.map (some b)) (kf k) true (.tuple #[vf ((mapV l k).getD d), .bool (mapV l k).isSome]) := by
  have := Lk.okN K hm h k (zero_of (w := w) hz) true
  rw [if_pos rfl] at this
  cases hv : mapV l k <;> simpa [hv] using this
theorem Lk.noD {mt et : TypeId} {b : Nat} {l : List (κ × ν)} (K : KeyNr P t kf) (hm : P.underlying mt = some (.map t et)) (h : (Res.mp b kf vf l).holds w) (k : κ) (d : ν) (hz : (P.info? et).bind (·.zero) = some (vf d)) :
    Lk P w mt (.map (some b)) (kf k) false (vf ((mapV l k).getD d)) := by
  have := Lk.okN K hm h k (zero_of (w := w) hz) false
  rw [if_neg (by decide)] at this
  cases hv : mapV l k <;> simpa [hv] using this
end
section
variable {κ ν : Type} {P : Program} {t : TypeId} {kf : κ → Value} {vf : ν → Value} [DecidableEq κ] {N : Nat} {ops : Array Oper} {Q : Post} {next : Env → World → Prop} {e : Env} {w w0 : World} {M : Nat → Prop} {A B : List Res} {ty : TypeId} {pos : String} {af : Array Edge}
theorem run_mapUpdateN {mt et : TypeId} {b : Nat} {l : List (κ × ν)} (K : KeyNr P t kf) (hm : P.underlying mt = some (.map t et)) (h : (Res.mp b kf vf l).holds w) (k : κ) (v : ν) :
    ∃ w', (Instr.mapUpdate mt (.map (some b)) (kf k) (vf v)).run P w = .ok () w' ∧ (Res.mp b kf vf (mapPut l k v)).holds w' ∧ Fram (fun x => x = b) w w' := by
  obtain ⟨es, c, hb, he, hbn⟩ := h
  have hf := find_nr (P := P) (w := w) K k es.toList l he
  have hg : (getObj b).run P w = .ok (.map es c) w := MapKept.run_getObj_map hb
  have fr : ∀ o, Fram (fun x => x = b) w { w with heap := w.heap.setIfInBounds b o } := fun o => ⟨rfl, rfl, rfl, by simp, fun i _ hn => (MapKept.heap_set hb).2 i hn⟩
  cases hx : l.findIdx? (fun p => decide (k = p.1)) with
  | none =>
    refine ⟨_, ?_, ⟨es.push { key := kf k, val := vf v, born := c }, c + 1, (MapKept.heap_set (o' := .map (es.push { key := kf k, val := vf v, born := c }) (c + 1)) hb).1, ?_, hbn.push⟩, fr _⟩
    · simp only [Instr.mapUpdate, Sem.run_bind, run_underlying hm, Result.andThen_ok, hg, run_chk (K.chk k), hf, hx, Option.bind_none]
      exact MapKept.run_setObj_map _ hb
    · unfold Ents at *
      simp [mapPut, hx, he]
  | some j =>
    obtain ⟨hj, hp, _⟩ := List.findIdx?_eq_some_iff_getElem.1 hx
    have hlen : es.size = l.length := by have := congrArg List.length he; simpa using this
    have hkey : (es[j]'(by omega)).key = kf k := by
      have := congrArg (fun q => q[j]?) he
      simp [hlen, hj] at this
      rw [this.1, show l[j].1 = k from (of_decide_eq_true hp).symm]
    refine ⟨_, ?_, ⟨es.modify j fun e => { e with key := kf k, val := vf v }, c, (MapKept.heap_set (o' := .map (es.modify j fun e => { e with key := kf k, val := vf v }) c) hb).1, ?_, hbn.modify⟩, fr _⟩
    · simp only [Instr.mapUpdate, Sem.run_bind, run_underlying hm, Result.andThen_ok, hg, run_chk (K.chk k), hf, hx, Option.bind_some, List.getElem?_eq_getElem hj, Option.map_some, Nat.zero_add]
      simp only [Instr.keyThatStays, show es[j]? = some (es[j]'(by omega)) from by simp [hlen, hj], Option.map_some, Option.getD_some, hkey, K.bits k, if_true, Sem.run_pure, Result.andThen_ok]
      exact MapKept.run_setObj_map _ hb
    · unfold Ents at *
      simp only [mapPut, hx]
      apply List.ext_getElem?
      intro i
      have hi := congrArg (fun q => q[i]?) he
      simp only [List.getElem?_map, Array.getElem?_toList] at hi
      simp only [List.getElem?_map, Array.getElem?_toList, Array.getElem?_modify, List.getElem?_modify]
      by_cases hij : j = i
      · subst hij; simp [hlen, hj]
      · simp [hij, hi]
theorem opStep.mapUpdateN {mt et : TypeId} {x y z : Operand} {b : Nat} {l : List (κ × ν)} (K : KeyNr P t kf) (hm : P.underlying mt = some (.map t et)) (hp : Hp w0 M (Res.mp b kf vf l :: B) w) (k : κ) (v : ν)
    (hx : (ev e x, ev e y, ev e z) = (.map (some b), kf k, vf v))
    (h : ∀ w', Hp w0 M (Res.mp b kf vf (mapPut l k v) :: B) w' → next e w') :
    opStep P N ops Q ⟨none, .mapUpdate mt x y z, ty, pos, af, none⟩ next e w := by
  simp only [Prod.mk.injEq] at hx
  obtain ⟨hx, hy, hz⟩ := hx
  obtain ⟨w', hrun, hh, hf⟩ := run_mapUpdateN (P := P) (w := w) K hm (Hp.get (A := []) hp) k v
  refine opStep.skip (w' := w') rfl ?_ (h w' ?_)
  · simp [execOp, hx, hy, hz, hrun]
  · exact Hp.mod (A := []) hp hf _ hh fun i hi => ⟨Nat.lt_of_lt_of_le (Hp.lt (A := []) hp i hi) hf.size, .inl hi⟩
omit [DecidableEq κ] in
theorem opStep.lenMap {T : TypeId} {x : Operand} {d : Tmp} {b : Nat} {l : List (κ × ν)} (hT : (match P.underlying T with | some (.map _ _) => true | _ => false) = true) (hp : Hp w0 M (Res.mp b kf vf l :: B) w)
    (hx : ev e x = .map (some b)) (h : next (upd e d (.int .i64 ((l.length : Nat) : Int))) w) :
    opStep P N ops Q ⟨some d, .call ⟨.builtin .len, #[x], #[T]⟩, ty, pos, af, none⟩ next e w := by
  obtain ⟨es, c, hb, he, hbn⟩ := Hp.get (A := []) hp
  have hg : (getObj b).run P w = .ok (.map es c) w := MapKept.run_getObj_map hb
  have hl : es.size = l.length := by have := congrArg List.length he; simpa using this
  cases hu : P.underlying T with
  | none => simp [hu] at hT
  | some k =>
    cases k <;> simp [hu] at hT
    refine opStep.val (v := .int .i64 ((l.length : Nat) : Int)) (w' := w) rfl ?_ h
    simp [execOp, resolve, invoke, builtin, hx, Builtin.len_, run_underlying hu, hg, hl, goInt]
end
theorem mapV_put {κ ν : Type} [DecidableEq κ] {l : List (κ × ν)} {k j : κ} {v : ν} : mapV (mapPut l k v) j = if j = k then some v else mapV l j := by
  induction l with
  | nil => show mapV [(k, v)] j = _; rw [mapV_cons]
  | cons p l ih =>
    unfold mapPut at ih ⊢
    rw [List.findIdx?_cons]
    by_cases h : k = p.1
    · simp only [h, decide_true, if_true, List.modify_zero_cons, mapV_cons]
      by_cases hj : j = p.1 <;> simp [hj]
    · simp only [h, decide_false, Bool.false_eq_true, if_false]
      cases hf : l.findIdx? (fun p => decide (k = p.1)) with
      | none =>
        simp only [hf, Option.map_none, List.cons_append, mapV_cons] at ih ⊢
        rw [ih]
        by_cases hj : j = p.1
        · subst hj; rw [if_pos rfl, if_neg (fun e => h e.symm)]; exact (if_pos rfl).symm
        · rw [if_neg hj]; by_cases e : j = k <;> simp [e, hj, h]
      | some i =>
        simp only [hf, Option.map_some, List.modify_succ_cons, mapV_cons] at ih ⊢
        rw [ih]
        by_cases hj : j = p.1
        · subst hj; rw [if_pos rfl, if_neg (fun e => h e.symm)]; exact (if_pos rfl).symm
        · rw [if_neg hj]; by_cases e : j = k <;> simp [e, hj, h]
end Go.Proofs.Ytdahgdkadfdkeaa.K
