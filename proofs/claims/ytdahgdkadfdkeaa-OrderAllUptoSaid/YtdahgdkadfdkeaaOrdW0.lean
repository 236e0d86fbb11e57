/- Calls copied with values of their own. -/
import Derived.Test.YtdahgdkadfdkeaaOrdV
import Derived.Test.YtdahgdkadfdkeaaOrdM
import Derived.Test.YtdahgdkadfdkeaaCoreY
namespace Go.Proofs.Ytdahgdkadfdkeaa.K
open Go Go.RowKit
set_option linter.unusedVariables false
theorem apC {α : Type} [Inhabited α] {l : List α} {x : α} {i : Nat} (h : i < l.length + 1) : (l ++ [x])[i]! = if i < l.length then l[i]! else x := by
  rw [List.getElem!_eq_getElem?_getD, List.getElem!_eq_getElem?_getD, List.getElem?_append]
  by_cases h1 : i < l.length
  · simp [h1]
  · obtain rfl : i = l.length := by omega
    simp
/-- The same call with another value. -/
def withW (c : GCall) (h : SlH) : GCall := ⟨c.Client, c.Op, c.Put, c.Key, h, c.Status, c.From, c.To, c.Open, c.Tag⟩
def cpC (w0 : World) (l cl : List GCall) (bs : List (List Int)) (k : Nat) : Prop := cl.length = k ∧ bs.length = k ∧ ∀ i, i < k → (∃ h : SlH, cl[i]! = withW l[i]! h) ∧ bs[i]! = bytesAt w0 l[i]!.Value
theorem cpC_step {w0 : World} {l cl : List GCall} {bs : List (List Int)} {k : Nat} {x : GCall} {ns : List Int} (h : cpC w0 l cl bs k) (h1 : ∃ h : SlH, x = withW l[k]! h) (h2 : ns = bytesAt w0 l[k]!.Value) : cpC w0 l (cl ++ [x]) (bs ++ [ns]) (k + 1) := by
  obtain ⟨a, b, c⟩ := h
  refine ⟨by simp [a], by simp [b], fun i hi => ?_⟩
  rw [apC (by omega), apC (by omega)]
  by_cases hlt : i < k
  · rw [if_pos (by omega), if_pos (by omega)]; exact c i hlt
  · obtain rfl : i = k := by omega
    rw [if_neg (by omega), if_neg (by omega)]; exact ⟨h1, h2⟩
/-- The same calls but for the values. -/
def Sm (l cl : List GCall) : Prop := cl.length = l.length ∧ ∀ i : Nat, ∃ h : SlH, cl[i]! = withW l[i]! h
theorem cpC.sm {w0 : World} {l cl : List GCall} {bs : List (List Int)} (h : cpC w0 l cl bs l.length) : Sm l cl := by
  refine ⟨h.1, fun i => ?_⟩
  by_cases hi : i < l.length
  · exact (h.2.2 i hi).1
  · have e1 : cl[i]! = default := by rw [List.getElem!_eq_getElem?_getD, List.getElem?_eq_none (by have := h.1; omega)]; rfl
    have e2 : l[i]! = default := by rw [List.getElem!_eq_getElem?_getD, List.getElem?_eq_none (by omega)]; rfl
    rw [e1, e2]; exact ⟨(default : GCall).Value, rfl⟩
section
variable {w : World} {l : List GCall} {o : List Int}
theorem begF_ge' {j : Nat} : ∀ k, j < k → (atO l o j).From ≤ begF l o k
  | 0, h => by omega
  | k + 1, h => by
    unfold begF
    by_cases e : j = k
    · subst e; omega
    · have := begF_ge' k (by omega : j < k); omega
end
/-! ### the copies -/
section
variable {w w0 : World} {l cl : List GCall} {o : List Int}
theorem Sm.fit (s : Sm l cl) : fitP cl ↔ fitP l := by
  unfold fitP; rw [s.1]
  refine forall_congr' fun i => imp_congr_right fun hi => ?_
  obtain ⟨h0, e0⟩ := s.2 0
  obtain ⟨h, e⟩ := s.2 i
  rw [e0, e]; exact Iff.rfl
theorem Sm.at (s : Sm l cl) (j : Nat) : ∃ h : SlH, atO cl o j = withW (atO l o j) h := s.2 _
theorem Sm.due (s : Sm l cl) (i : Nat) : dueP cl[i]! ↔ dueP l[i]! := by obtain ⟨h, e⟩ := s.2 i; rw [e]; exact Iff.rfl
theorem Sm.beg (s : Sm l cl) : ∀ k, begF cl o k = begF l o k
  | 0 => rfl
  | k + 1 => by obtain ⟨h, e⟩ := s.at (o := o) k; unfold begF; rw [s.beg k, e]; rfl
theorem Sm.last (s : Sm l cl) : ∀ k, lastF cl o k = lastF l o k
  | 0 => rfl
  | k + 1 => by obtain ⟨h, e⟩ := s.at (o := o) k; unfold lastF; rw [s.last k, e]; rfl
theorem Sm.whole (s : Sm l cl) : wholeP cl o ↔ wholeP l o := by
  unfold wholeP
  refine and_congr (forall_congr' fun j => imp_congr_right fun hj => ?_) ?_
  · obtain ⟨h, e⟩ := s.at (o := o) j; unfold okO; rw [s.1, e]; exact Iff.rfl
  · rw [s.1]; exact forall_congr' fun i => imp_congr_right fun hi => imp_congr (s.due i) Iff.rfl
theorem Sm.timely (s : Sm l cl) : timelyP cl o ↔ timelyP l o := by
  unfold timelyP
  refine forall_congr' fun j => imp_congr_right fun hj => ?_
  obtain ⟨h, e⟩ := s.at (o := o) j; rw [s.beg, e]; exact Iff.rfl
theorem Sm.told (s : Sm l cl) (hb : ∀ i, i < l.length → bytesAt w cl[i]!.Value = bytesAt w0 l[i]!.Value) (hin : ∀ j, j < o.length → 0 ≤ o[j]! ∧ o[j]! < (l.length : Int)) : toldP w cl o ↔ toldP w0 l o := by
  unfold toldP
  refine forall_congr' fun j => imp_congr_right fun hj => ?_
  obtain ⟨h, e⟩ := s.at (o := o) j
  have h1 := hin j hj
  have h2 := lastF_in hin j (by omega)
  have e1 : bytesAt w (atO cl o j).Value = bytesAt w0 (atO l o j).Value := hb _ (by omega)
  have e2 : 0 ≤ lastF l o j → bytesAt w cl[(lastF l o j).toNat]!.Value = bytesAt w0 l[(lastF l o j).toNat]!.Value := fun q => hb _ (by omega)
  have p1 : (atO cl o j).Put = (atO l o j).Put := by rw [e]; rfl
  have p2 : (atO cl o j).Status = (atO l o j).Status := by rw [e]; rfl
  unfold toldC
  rw [s.last, e1, p1, p2]
  refine imp_congr_right fun _ => and_congr_right fun _ => imp_congr_right fun _ => and_congr_right fun q => ?_
  rw [e2 q]
theorem Sm.chk (s : Sm l cl) (hb : ∀ i, i < l.length → bytesAt w cl[i]!.Value = bytesAt w0 l[i]!.Value) : chkO w cl o = chkO w0 l o := by
  by_cases hf : fitP l
  · by_cases hw : wholeP l o
    · have ht := s.told (o := o) hb fun j hj => ⟨(hw.1 j hj).1, (hw.1 j hj).2.1⟩
      by_cases hq : wholeP l o ∧ timelyP l o ∧ toldP w0 l o
      · rw [chkO_0 hf hq.1 hq.2.1 hq.2.2, chkO_0 (s.fit.2 hf) (s.whole.2 hq.1) (s.timely.2 hq.2.1) (ht.2 hq.2.2)]
      · rw [chkO_81 hf hq, chkO_81 (s.fit.2 hf) fun z => hq ⟨hw, s.timely.1 z.2.1, ht.1 z.2.2⟩]
    · rw [chkO_81 hf fun z => hw z.1, chkO_81 (s.fit.2 hf) fun z => hw (s.whole.1 z.1)]
  · rw [chkO_1 hf, chkO_1 fun z => hf (s.fit.1 z)]
end
theorem cpC_base {w0 w : World} {l cl : List GCall} {bs : List (List Int)} {k : Nat} (hk : k ≤ l.length) (h : cpC w l cl bs k) (hf : Fram Non w0 w) (hv : ∀ x ∈ l, VB w0 x.Value) : cpC w0 l cl bs k := by
  refine ⟨h.1, h.2.1, fun i hi => ⟨(h.2.2 i hi).1, ?_⟩⟩
  rw [(h.2.2 i hi).2, VB.fram (hv _ (List.mem_of_getElem? (get_bang (show i < l.length by omega)))) hf]
end Go.Proofs.Ytdahgdkadfdkeaa.K
