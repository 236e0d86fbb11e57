/- An order that explains calls: the steps of the walks of order.Check. -/
import Derived.Test.YtdahgdkadfdkeaaOrdL
import Derived.Test.YtdahgdkadfdkeaaCoreP
namespace Go.Proofs.Ytdahgdkadfdkeaa.K
open Go Go.RowKit
set_option linter.unusedVariables false
theorem take_same {l m : List Int} {k : Nat} (h1 : k < l.length) (h2 : k < m.length) (h : l.take k = m.take k) (e : l[k]! = m[k]!) : l.take (k + 1) = m.take (k + 1) := by
  rw [List.take_add_one, List.take_add_one, h, get_bang h1, get_bang h2, e]
theorem setB_get {l : List Bool} {i x : Nat} {v : Bool} (hi : i < l.length) : (l.set i v)[x]! = if x = i then v else l[x]! := by
  rw [List.getElem!_eq_getElem?_getD, List.getElem!_eq_getElem?_getD, List.getElem?_set]
  by_cases h : x = i
  · subst h; rw [if_pos rfl, if_pos hi, if_pos rfl]; rfl
  · rw [if_neg (fun e => h e.symm), if_neg h]
/-- What the test of whole's first loop says. -/
def badO (l : List GCall) (o : List Int) (sl : List Bool) (n k : Nat) : Prop := (((o[k]!) < 0)) ∨ ((¬ ((o[k]!) < 0)) ∧ (((n : Nat) : Int) ≤ (o[k]!))) ∨ ((¬ ((o[k]!) < 0)) ∧ (¬ (((n : Nat) : Int) ≤ (o[k]!))) ∧ ((sl[(o[k]! : Int).toNat]!) = true)) ∨ ((¬ ((o[k]!) < 0)) ∧ (¬ (((n : Nat) : Int) ≤ (o[k]!))) ∧ (¬ ((sl[(o[k]! : Int).toNat]!) = true)) ∧ (¬ (dueP (l[(o[k]! : Int).toNat]!))) ∧ (¬ ((l[(o[k]! : Int).toNat]!.Open) = true)))
theorem not_badO {l : List GCall} {o : List Int} {sl : List Bool} {n k : Nat} (h : ¬ badO l o sl n k) : 0 ≤ o[k]! ∧ o[k]! < (n : Int) ∧ ¬ sl[(o[k]! : Int).toNat]! = true ∧ (dueP (atO l o k) ∨ (atO l o k).Open = true) := by
  unfold badO at h
  have h1 : ¬ o[k]! < 0 := fun e => h (.inl e)
  have h2 : ¬ ((n : Nat) : Int) ≤ o[k]! := fun e => h (.inr (.inl ⟨h1, e⟩))
  have h3 : ¬ sl[(o[k]! : Int).toNat]! = true := fun e => h (.inr (.inr (.inl ⟨h1, h2, e⟩)))
  refine ⟨by omega, by omega, h3, ?_⟩
  exact Classical.byContradiction fun e => h (.inr (.inr (.inr ⟨h1, h2, h3, fun d => e (.inl d), fun d => e (.inr d)⟩)))
theorem seen_step {l : List GCall} {o : List Int} {sl : List Bool} {n k : Nat} (hn : n = l.length) (hk : k < o.length) (pl : sl.length = l.length) (ps : ∀ i, i < l.length → (sl[i]! = true ↔ ∃ j, j < k ∧ o[j]! = (i : Int))) (pk : ∀ j, j < k → okO l o j) (h : ¬ badO l o sl n k) :
    k + 1 ≤ o.length ∧ (sl.set (o[k]! : Int).toNat true).length = l.length ∧ (∀ i, i < l.length → ((sl.set (o[k]! : Int).toNat true)[i]! = true ↔ ∃ j, j < k + 1 ∧ o[j]! = (i : Int))) ∧ ∀ j, j < k + 1 → okO l o j := by
  obtain ⟨h1, h2, h3, h4⟩ := not_badO h
  refine ⟨by omega, by rw [List.length_set]; exact pl, fun i hi => ?_, fun j hj => ?_⟩
  · rw [setB_get (by omega)]
    by_cases e : i = (o[k]! : Int).toNat
    · rw [if_pos e]; exact ⟨fun _ => ⟨k, by omega, by omega⟩, fun _ => rfl⟩
    · rw [if_neg e, ps i hi]
      constructor
      · rintro ⟨j, a, b⟩; exact ⟨j, by omega, b⟩
      · rintro ⟨j, a, b⟩
        by_cases ej : j = k
        · subst ej; omega
        · exact ⟨j, by omega, b⟩
  · by_cases e : j = k
    · subst e
      refine ⟨h1, by omega, h4, fun i hi he => h3 ?_⟩
      exact (ps _ (by omega)).2 ⟨i, hi, by omega⟩
    · exact pk j (by omega)
theorem seen_due {l : List GCall} {o : List Int} {sl : List Bool} {i k : Nat} (hk : k ≤ o.length) (hi : i < l.length) (ps : ∀ i, i < l.length → (sl[i]! = true ↔ ∃ j, j < k ∧ o[j]! = (i : Int))) (h : ¬ ((dueP (l[i]!)) ∧ (¬ ((sl[i]!) = true)))) (hd : dueP l[i]!) : ∃ j, j < o.length ∧ o[j]! = (i : Int) := by
  obtain ⟨j, a, b⟩ := (ps i hi).1 (Classical.byContradiction fun e => h ⟨hd, e⟩)
  exact ⟨j, by omega, b⟩
theorem whole_no1 {l : List GCall} {o : List Int} {sl : List Bool} {n k : Nat} (hn : n = l.length) (hk : k < o.length) (ps : ∀ i, i < l.length → (sl[i]! = true ↔ ∃ j, j < k ∧ o[j]! = (i : Int))) (q : wholeP l o) (h : badO l o sl n k) : False := by
  obtain ⟨h1, h2, h3, h4⟩ := q.1 k hk
  rcases h with h | ⟨_, h⟩ | ⟨_, _, h⟩ | ⟨_, _, _, h, h'⟩
  · omega
  · omega
  · obtain ⟨j, a, b⟩ := (ps _ (by omega)).1 h
    exact h4 j a (by omega)
  · rcases h3 with h3 | h3
    · exact h h3
    · exact h' h3
theorem whole_no2 {l : List GCall} {o : List Int} {sl : List Bool} {i k : Nat} (hk : o.length ≤ k) (hi : i < l.length) (ps : ∀ i, i < l.length → (sl[i]! = true ↔ ∃ j, j < k ∧ o[j]! = (i : Int))) (q : wholeP l o) (h : (dueP (l[i]!)) ∧ (¬ ((sl[i]!) = true))) : False := by
  obtain ⟨j, a, b⟩ := q.2 i hi h.1
  exact h.2 ((ps i hi).2 ⟨j, by omega, b⟩)
theorem told_put {w : World} {l : List GCall} {o : List Int} {k : Nat} (h : (atO l o k).Put = true) : toldC w l o k := fun e => absurd h e
theorem told_get {w : World} {l : List GCall} {o : List Int} {k : Nat} {m : Int} (hm : m = lastF l o k) (h1 : ¬ ((l[(o[k]! : Int).toNat]!.Put) = true)) (h2 : ¬ (((l[(o[k]! : Int).toNat]!.Status) = 76) ∧ (0 ≤ m)))
    (h3 : ¬ ((((l[(o[k]! : Int).toNat]!.Status) = 0) ∧ (m < 0)) ∨ (((l[(o[k]! : Int).toNat]!.Status) = 0) ∧ (¬ (m < 0)) ∧ (¬ (bytesAt w (l[(o[k]! : Int).toNat]!.Value) = bytesAt w (l[(m : Int).toNat]!.Value)))))) : toldC w l o k := by
  subst hm
  refine fun _ => ⟨h2, fun e => ?_⟩
  have e1 : ¬ lastF l o k < 0 := fun q => h3 (.inl ⟨e, q⟩)
  exact ⟨by omega, Classical.byContradiction fun q => h3 (.inr ⟨e, e1, q⟩)⟩
theorem told_no {w : World} {l : List GCall} {o : List Int} {k : Nat} {m : Int} (hm : m = lastF l o k) (q : toldC w l o k) (h1 : ¬ ((l[(o[k]! : Int).toNat]!.Put) = true))
    (h3 : (((l[(o[k]! : Int).toNat]!.Status) = 76) ∧ (0 ≤ m)) ∨ ((((l[(o[k]! : Int).toNat]!.Status) = 0) ∧ (m < 0)) ∨ (((l[(o[k]! : Int).toNat]!.Status) = 0) ∧ (¬ (m < 0)) ∧ (¬ (bytesAt w (l[(o[k]! : Int).toNat]!.Value) = bytesAt w (l[(m : Int).toNat]!.Value)))))) : False := by
  subst hm
  obtain ⟨q1, q2⟩ := q h1
  rcases h3 with h | ⟨e, h⟩ | ⟨e, _, h⟩
  · exact q1 h
  · have := (q2 e).1; omega
  · exact h (q2 e).2
theorem VB.at' {w w' : World} {s : SlH} (h : VB w s) (hf : Fram Non w w') : VB w' s := by
  unfold VB; rw [VB.fram h hf]; exact SlR.fram h hf
theorem told_fram {w w' : World} {l : List GCall} {o : List Int} (hf : Fram Non w w') (hv : ∀ y ∈ l, VB w y.Value) (hin : ∀ j, j < o.length → 0 ≤ o[j]! ∧ o[j]! < (l.length : Int)) : toldP w' l o ↔ toldP w l o := by
  have e1 : ∀ j, j < o.length → bytesAt w' (atO l o j).Value = bytesAt w (atO l o j).Value := fun j hj => by
    have := hin j hj
    exact VB.fram (hv _ (List.mem_of_getElem? (get_bang (by omega)))) hf
  have e2 : ∀ j, j < o.length → 0 ≤ lastF l o j → bytesAt w' l[(lastF l o j).toNat]!.Value = bytesAt w l[(lastF l o j).toNat]!.Value := fun j hj h0 => by
    have := (lastF_in hin j (by omega)).2 h0
    exact VB.fram (hv _ (List.mem_of_getElem? (get_bang (by omega)))) hf
  constructor
  · intro h j hj hp
    obtain ⟨h1, h2⟩ := h j hj hp
    refine ⟨h1, fun hs => ?_⟩
    obtain ⟨h3, h4⟩ := h2 hs
    exact ⟨h3, by rw [← e1 j hj, ← e2 j hj h3]; exact h4⟩
  · intro h j hj hp
    obtain ⟨h1, h2⟩ := h j hj hp
    refine ⟨h1, fun hs => ?_⟩
    obtain ⟨h3, h4⟩ := h2 hs
    exact ⟨h3, by rw [e1 j hj, e2 j hj h3]; exact h4⟩
theorem chkO_fram {w w' : World} {l : List GCall} {o : List Int} (hf : Fram Non w w') (hv : ∀ y ∈ l, VB w y.Value) : chkO w' l o = chkO w l o := by
  unfold chkO
  by_cases h : fitP l
  · rw [if_pos h, if_pos h]
    have e : (wholeP l o ∧ timelyP l o ∧ toldP w' l o) ↔ (wholeP l o ∧ timelyP l o ∧ toldP w l o) := by
      constructor
      · rintro ⟨h1, h2, h3⟩; exact ⟨h1, h2, (told_fram hf hv fun j hj => ⟨(h1.1 j hj).1, (h1.1 j hj).2.1⟩).1 h3⟩
      · rintro ⟨h1, h2, h3⟩; exact ⟨h1, h2, (told_fram hf hv fun j hj => ⟨(h1.1 j hj).1, (h1.1 j hj).2.1⟩).2 h3⟩
    by_cases q : wholeP l o ∧ timelyP l o ∧ toldP w l o
    · rw [if_pos (e.2 q), if_pos q]
    · rw [if_neg (fun x => q (e.1 x)), if_neg q]
  · rw [if_neg h, if_neg h]
end Go.Proofs.Ytdahgdkadfdkeaa.K
