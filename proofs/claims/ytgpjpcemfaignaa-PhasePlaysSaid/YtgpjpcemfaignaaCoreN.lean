/- Ranges over maps of a call's own: every order. -/
import Derived.Test.YtgpjpcemfaignaaCoreK
namespace Go.Proofs.Ytgpjpcemfaignaa.K
open Go Go.RowKit
set_option linter.unusedVariables false
set_option linter.unusedSimpArgs false
/-- A map that is gone through: which of its pairs, by their numbers, have come, in this order. -/
def Res.mpi {κ ν : Type} (b r : Nat) (kf : κ → Value) (vf : ν → Value) (l : List (κ × ν)) (done : List Nat) : Res :=
  ⟨fun k => k = b ∨ k = r, fun w => ∃ es c seen, w.heap[b]? = some (.map es c) ∧ Ents kf vf es l ∧ Born es c ∧ w.heap[r]? = some (.mapIter (some b) c seen c) ∧ seen.toList = done.map (fun i => (es.toList.map (·.born))[i]!) ∧ done.Nodup ∧ (∀ i ∈ done, i < l.length),
    fun h ⟨es, c, seen, h1, h2, h3, h4, h5⟩ => ⟨es, c, seen, (h _ (.inl rfl)).trans h1, h2, h3, (h _ (.inr rfl)).trans h4, h5⟩⟩
theorem ents_len {κ ν : Type} {kf : κ → Value} {vf : ν → Value} {es : Array MapEntry} {l : List (κ × ν)} (h : Ents kf vf es l) : es.size = l.length := by
  have := congrArg List.length h
  simpa using this
theorem ents_at {κ ν : Type} {kf : κ → Value} {vf : ν → Value} {es : Array MapEntry} {l : List (κ × ν)} (h : Ents kf vf es l) {i : Nat} {p : κ × ν} (hp : l[i]? = some p) : ∃ e, es[i]? = some e ∧ e.key = kf p.1 ∧ e.val = vf p.2 := by
  have h1 := congrArg (fun q => q[i]?) h
  simp only [List.getElem?_map, Array.getElem?_toList, hp, Option.map_some] at h1
  cases he : es[i]? with
  | none => simp [he] at h1
  | some e => simp [he] at h1; exact ⟨e, rfl, h1.1, h1.2⟩
theorem born_bang {es : Array MapEntry} {i : Nat} {e : MapEntry} (h : es[i]? = some e) : (es.toList.map (·.born))[i]! = e.born := by
  rw [List.getElem!_eq_getElem?_getD, List.getElem?_map, Array.getElem?_toList, h]; rfl
theorem born_inj {es : Array MapEntry} {c i j : Nat} {e f : MapEntry} (h : Born es c) (hi : es[i]? = some e) (hj : es[j]? = some f) (hb : e.born = f.born) : i = j := by
  have h1 := List.pairwise_iff_getElem.1 h.1
  obtain ⟨a1, a2⟩ := Array.getElem?_eq_some_iff.1 hi
  obtain ⟨b1, b2⟩ := Array.getElem?_eq_some_iff.1 hj
  by_cases e1 : i < j
  · have := h1 i j (by simpa using a1) (by simpa using b1) e1
    simp only [Array.getElem_toList, a2, b2] at this; omega
  · by_cases e2 : j < i
    · have := h1 j i (by simpa using b1) (by simpa using a1) e2
      simp only [Array.getElem_toList, a2, b2] at this; omega
    · omega
section
variable {κ ν : Type} {P : Program} {kf : κ → Value} {vf : ν → Value} {w : World}
theorem mpi_done {b r : Nat} {l : List (κ × ν)} {done : List Nat} (h : (Res.mpi b r kf vf l done).holds w) : done.Nodup ∧ ∀ i ∈ done, i < l.length := by
  obtain ⟨_, _, _, _, _, _, _, _, h1, h2⟩ := h; exact ⟨h1, h2⟩
theorem run_getIter {r : Nat} {m : Option Nat} {a b : Nat} {s : Array Nat} (hb : w.heap[r]? = some (.mapIter m a s b)) : (getObj r).run P w = .ok (.mapIter m a s b) w := by simp [getObj, Sem.run, hb]
theorem run_setIter {r : Nat} {m : Option Nat} {a b : Nat} {s : Array Nat} (o' : Obj) (hb : w.heap[r]? = some (.mapIter m a s b)) : (setObj r o').run P w = .ok () { w with heap := w.heap.setIfInBounds r o' } := by simp [setObj, Sem.run, hb]
theorem seen_in {es : Array MapEntry} {c : Nat} {seen : Array Nat} {done : List Nat} {n : Nat} (hb : Born es c) (hn : es.size = n) (hs : seen.toList = done.map (fun i => (es.toList.map (·.born))[i]!)) (hd : ∀ i ∈ done, i < n) {i : Nat} {e : MapEntry} (he : es[i]? = some e) :
    seen.contains e.born = true ↔ i ∈ done := by
  rw [← Array.contains_toList, hs, List.contains_iff_mem, List.mem_map]
  constructor
  · rintro ⟨j, hj, e1⟩
    have hjl := hd j hj
    obtain ⟨f, hf⟩ : ∃ f, es[j]? = some f := ⟨_, Array.getElem?_eq_getElem (by omega)⟩
    rw [born_bang hf] at e1
    rw [born_inj hb he hf e1.symm]; exact hj
  · intro h; exact ⟨i, h, born_bang he⟩
theorem run_nextM {b r : Nat} {l : List (κ × ν)} {done : List Nat} {T : TypeId} (h : (Res.mpi b r kf vf l done).holds w) :
    ((Instr.next (.pointer (some ⟨r, 0, none⟩)) false T).run P w = .ok (.tuple #[.bool false]) w ∧ ∀ i, i < l.length → i ∈ done) ∨
    (∃ i p w', l[i]? = some p ∧ i ∉ done ∧ (Instr.next (.pointer (some ⟨r, 0, none⟩)) false T).run P w = .ok (.tuple #[.bool true, kf p.1, vf p.2]) w' ∧ (Res.mpi b r kf vf l (done ++ [i])).holds w' ∧ Fram (fun x => x = r) w w') := by
  obtain ⟨es, c, seen, hb, he, hbn, hr, hs, hnd, hlt⟩ := h
  have hlen := ents_len he
  have hg1 := run_getIter (P := P) hr
  have hg2 := MapKept.run_getObj_map (P := P) hb
  have hck : (!seen.isEmpty && !es.isEmpty && es.all (·.born ≥ c)) = false := by
    by_cases h0 : es.size = 0
    · have : es.isEmpty = true := by simpa [Array.isEmpty] using h0
      simp [this]
    · have : es.all (·.born ≥ c) = false := by
        rw [Bool.eq_false_iff]
        intro hall
        have h1 := Array.all_eq_true.1 hall 0 (by omega)
        have h2 := hbn.2 es[0] (by simp)
        simp at h1; omega
      simp [this]
  generalize hL : es.filter (fun e => !seen.contains e.born) = left
  have hold : left.filter (·.born < c) = left := by
    rw [Array.filter_eq_self]
    intro a ha
    rw [← hL] at ha
    have := (Array.mem_filter.1 ha).1
    exact decide_eq_true (hbn.2 a (by simpa using this))
  have hnew : left.filter (·.born ≥ c) = #[] := by
    rw [Array.filter_eq_empty_iff]
    intro a ha
    rw [← hL] at ha
    have := hbn.2 a (by simpa using (Array.mem_filter.1 ha).1)
    simp; omega
  by_cases h0 : left.size = 0
  · left
    have hz : left = #[] := Array.eq_empty_of_size_eq_zero h0
    refine ⟨?_, fun i hi => ?_⟩
    · unfold Instr.next
      simp only [Sem.run_bind, hg1, hg2, Result.andThen_ok, hck, hL, hold, hnew, hz]
      simp [Question.forced]
    · obtain ⟨e, hei⟩ : ∃ e, es[i]? = some e := ⟨_, Array.getElem?_eq_getElem (by omega)⟩
      apply Classical.byContradiction
      intro hn
      have h1 : e ∈ left := by
        rw [← hL, Array.mem_filter]
        refine ⟨Array.mem_of_getElem? hei, ?_⟩
        have := seen_in hbn hlen hs hlt hei
        simp only [Bool.not_eq_true', Bool.eq_false_iff]
        exact fun hh => hn (this.1 hh)
      rw [hz] at h1; simp at h1
  · right
    have hne : left.isEmpty = false := by simp [Array.isEmpty, h0]
    have hcand : ((if left.isEmpty then #[none] else #[]) ++ (left ++ (#[] : Array MapEntry)).map some) = left.map some := by simp [hne]
    obtain ⟨k, w1, hk, hch, hw1⟩ : ∃ k w1, k < left.size ∧ (choose (.mapNext left.size)).run P w = .ok k w1 ∧ (w1 = w ∨ w1 = w.drew) := by
      by_cases h1 : left.size ≤ 1
      · exact ⟨0, w, by omega, by simp [Question.forced, h1], .inl rfl⟩
      · exact ⟨w.tape w.drawn (.mapNext left.size) % left.size, w.drew, Nat.mod_lt _ (by omega), by simp only [run_choose_drew, Question.forced, h1, decide_false, Bool.false_eq_true, if_false, Question.cut], .inr rfl⟩
    have hkm : left[k] ∈ es.filter (fun e => !seen.contains e.born) := by rw [hL]; exact Array.getElem_mem hk
    rw [Array.mem_filter] at hkm
    obtain ⟨hm1, hm2⟩ := hkm
    obtain ⟨i, hi⟩ := Array.getElem?_of_mem hm1
    have hil : i < l.length := by have := (Array.getElem?_eq_some_iff.1 hi).1; omega
    obtain ⟨p, hp⟩ : ∃ p, l[i]? = some p := ⟨_, List.getElem?_eq_getElem hil⟩
    obtain ⟨e', he', hk1, hk2⟩ := ents_at he hp
    obtain rfl := Option.some.inj (hi.symm.trans he')
    have hnd2 : i ∉ done := fun hd => by
      have := (seen_in hbn hlen hs hlt hi).2 hd
      rw [this] at hm2; simp at hm2
    have hr1 : w1.heap = w.heap := by rcases hw1 with rfl | rfl <;> rfl
    have hfr1 : Fram Non w w1 := by rcases hw1 with rfl | rfl; exact Fram.refl _ _; exact Fram.drew _ _
    have hbr : b ≠ r := fun e => by subst e; rw [hb] at hr; cases hr
    refine ⟨i, p, { w1 with heap := w1.heap.setIfInBounds r (.mapIter (some b) c (seen.push left[k].born) c) }, hp, hnd2, ?_, ⟨es, c, seen.push left[k].born, ?_, he, hbn, ?_, ?_, ?_, ?_⟩, ?_⟩
    · unfold Instr.next
      simp only [Sem.run_bind, hg1, hg2, Result.andThen_ok, hck, hL, hold, hnew, hcand, Array.size_map, hch, Bool.false_eq_true, if_false]
      simp only [Array.getElem?_map, Array.getElem?_eq_getElem hk, Option.map_some, Sem.run_bind]
      rw [run_setIter (P := P) (w := w1) _ (hr1 ▸ hr)]
      simp only [Result.andThen_ok, Sem.run_pure, hk1, hk2]
    · show (w1.heap.setIfInBounds r _)[b]? = _
      rw [hr1]; exact ((MapKept.heap_set hr).2 b hbr).trans hb
    · show (w1.heap.setIfInBounds r _)[r]? = _
      rw [hr1]; exact (MapKept.heap_set hr).1
    · rw [Array.toList_push, hs, List.map_append, List.map_cons, List.map_nil, born_bang hi]
    · rw [List.nodup_append]
      exact ⟨hnd, List.nodup_cons.2 ⟨by simp, List.nodup_nil⟩, fun a ha c hc e => by rw [List.mem_singleton.1 hc] at e; subst e; exact hnd2 ha⟩
    · intro j hj
      rcases List.mem_append.1 hj with hj | hj
      · exact hlt j hj
      · rw [List.mem_singleton.1 hj]; exact hil
    · refine ⟨hfr1.os, hfr1.tape, hfr1.output, ?_, fun j hj hn => ?_⟩
      · show w.heap.size ≤ (w1.heap.setIfInBounds r _).size
        rw [hr1]; simp
      · show (w1.heap.setIfInBounds r _)[j]? = _
        rw [hr1]; exact (MapKept.heap_set hr).2 j hn
theorem run_entryM {b r : Nat} {l : List (κ × ν)} {done : List Nat} {i : Nat} {p : κ × ν} (h : (Res.mpi b r kf vf l (done ++ [i])).holds w) (hp : l[i]? = some p) :
    (Instr.entry (.pointer (some ⟨r, 0, none⟩))).run P w = .ok (.tuple #[kf p.1, vf p.2]) w := by
  obtain ⟨es, c, seen, hb, he, hbn, hr, hs, hnd, hlt⟩ := h
  obtain ⟨e, he1, hk1, hk2⟩ := ents_at he hp
  have hback : seen.back? = some e.born := by
    rw [← Array.getLast?_toList, hs, List.map_append, List.map_cons, List.map_nil, List.getLast?_append, List.getLast?_singleton, born_bang he1]; rfl
  have hfind : es.find? (fun f => f.born == e.born) = some e := by
    rw [Array.find?_eq_some_iff_getElem]
    refine ⟨by simp, i, (Array.getElem?_eq_some_iff.1 he1).1, (Array.getElem?_eq_some_iff.1 he1).2, fun j hj => ?_⟩
    simp only [Bool.not_eq_true', beq_eq_false_iff_ne, ne_eq]
    intro e2
    have hjl : j < es.size := Nat.lt_trans hj (Array.getElem?_eq_some_iff.1 he1).1
    have := born_inj hbn (Array.getElem?_eq_getElem hjl) he1 e2
    omega
  unfold Instr.entry
  simp only [Sem.run_bind, run_getIter (P := P) hr, MapKept.run_getObj_map (P := P) hb, Result.andThen_ok, hback, bne_self_eq_false, Bool.false_eq_true, if_false, hfind, Sem.run_pure, hk1, hk2]
end
section
variable {κ ν : Type} {P : Program} {kf : κ → Value} {vf : ν → Value} {N : Nat} {ops : Array Oper} {Q : Post} {next : Env → World → Prop} {e : Env} {w w0 : World} {M : Nat → Prop} {A B : List Res} {ty : TypeId} {pos : String} {af : Array Edge} {d : Tmp}
theorem opStep.rangeM {T et kt : TypeId} {x : Operand} {b : Nat} {l : List (κ × ν)} (hm : P.underlying T = some (.map kt et)) (hp : Hp w0 M (Res.mp b kf vf l :: B) w) (hx : ev e x = .map (some b))
    (h : ∀ r w', Hp w0 M (Res.mpi b r kf vf l [] :: B) w' → next (upd e d (.pointer (some ⟨r, 0, none⟩))) w') :
    opStep P N ops Q ⟨some d, .range T x, ty, pos, af, none⟩ next e w := by
  obtain ⟨es, c, hb, he, hbn⟩ := Hp.get (A := []) hp
  have hlt : b < w.heap.size := (Array.getElem?_eq_some_iff.1 hb).1
  have hs := MapKept.heap_alloc w (.mapIter (some b) c #[] c)
  refine opStep.val (v := .pointer (some ⟨w.heap.size, 0, none⟩)) (w' := w.alloc (.mapIter (some b) c #[] c)) rfl ?_ (h w.heap.size _ ?_)
  · simp [execOp, hx, Instr.range, run_underlying hm, MapKept.run_getObj_map (P := P) hb]
  · refine Hp.mod (A := []) hp ((Fram.alloc _ w _)) _ ⟨es, c, #[], (hs.2 b hlt).trans hb, he, hbn, hs.1, rfl, List.nodup_nil, fun i hi => by cases hi⟩ fun i hi => ?_
    have hsz : (w.alloc (.mapIter (some b) c #[] c)).heap.size = w.heap.size + 1 := by simp
    rcases hi with rfl | rfl
    · exact ⟨by omega, .inl rfl⟩
    · exact ⟨by omega, .inr (Nat.le_refl _)⟩
theorem opStep.nextM {x : Operand} {b r : Nat} {l : List (κ × ν)} {done : List Nat} (hp : Hp w0 M (Res.mpi b r kf vf l done :: B) w) (hx : ev e x = .pointer (some ⟨r, 0, none⟩))
    (h0 : (∀ i, i < l.length → i ∈ done) → next (upd e d (.tuple #[.bool false])) w)
    (h1 : ∀ i p w', l[i]? = some p → i ∉ done → Hp w0 M (Res.mpi b r kf vf l (done ++ [i]) :: B) w' → next (upd e d (.tuple #[.bool true, kf p.1, vf p.2])) w') :
    opStep P N ops Q ⟨some d, .next x false, ty, pos, af, none⟩ next e w := by
  rcases run_nextM (P := P) (T := ty) (Hp.get (A := []) hp) with ⟨q1, q2⟩ | ⟨i, p, w', q1, q2, q3, q4, q5⟩
  · exact opStep.val rfl (by simp [execOp, hx, q1]) (h0 q2)
  · refine opStep.val rfl (by simp [execOp, hx, q3]) (h1 i p w' q1 q2 ?_)
    refine Hp.mod (A := []) hp (q5.mono fun k _ hk => .inr hk) _ q4 fun j hj => ⟨Nat.lt_of_lt_of_le (Hp.lt (A := []) hp j hj) q5.size, .inl hj⟩
theorem opStep.entryM {x : Operand} {b r : Nat} {l : List (κ × ν)} {done : List Nat} {i : Nat} {p : κ × ν} (hp : Hp w0 M (Res.mpi b r kf vf l (done ++ [i]) :: B) w) (hq : l[i]? = some p) (hx : ev e x = .pointer (some ⟨r, 0, none⟩))
    (h : next (upd e d (.tuple #[kf p.1, vf p.2])) w) :
    opStep P N ops Q ⟨some d, .entry x, ty, pos, af, none⟩ next e w :=
  opStep.val rfl (by simp [execOp, hx, run_entryM (P := P) (Hp.get (A := []) hp) hq]) h
theorem Hp.mpiEnd {b r : Nat} {l : List (κ × ν)} {done : List Nat} (hp : Hp w0 M (Res.mpi b r kf vf l done :: B) w) : Hp w0 M (Res.mp b kf vf l :: B) w :=
  Hp.turn (A := []) hp _ (fun ⟨es, c, _, h1, h2, h3, _⟩ => ⟨es, c, h1, h2, h3⟩) fun i hi => .inl hi
end
end Go.Proofs.Ytgpjpcemfaignaa.K
