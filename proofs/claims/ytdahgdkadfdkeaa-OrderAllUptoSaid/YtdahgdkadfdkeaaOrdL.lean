/- An order that explains calls, or does not: what is looked at. -/
import Derived.Test.YtdahgdkadfdkeaaStr
import Derived.Test.YtdahgdkadfdkeaaOrdS
namespace Go.Proofs.Ytdahgdkadfdkeaa.K
open Go Go.RowKit
def openP (c : GCall) : Prop := c.Put = true ∧ (c.To = -1 ∨ ¬ c.Status = 0)
def fitC (k : ByteArray) (c : GCall) : Prop := c.Key = k ∧ 0 ≤ c.From ∧ ¬ (¬ c.To = -1 ∧ c.To ≤ c.From) ∧ (c.Open = true ↔ openP c) ∧ ¬ (openP c ∧ ¬ c.To = -1)
def fitP (l : List GCall) : Prop := ∀ i, i < l.length → fitC l[0]!.Key l[i]!
def dueP (c : GCall) : Prop := (c.Put = true ∧ ¬ c.Open = true) ∨ (¬ c.Put = true ∧ 0 ≤ c.To ∧ (c.Status = 0 ∨ c.Status = 76))
/-- The call that an order has at place j. -/
def atO (l : List GCall) (o : List Int) (j : Nat) : GCall := l[(o[j]! : Int).toNat]!
def okO (l : List GCall) (o : List Int) (j : Nat) : Prop := 0 ≤ o[j]! ∧ o[j]! < (l.length : Int) ∧ (dueP (atO l o j) ∨ (atO l o j).Open = true) ∧ ∀ i, i < j → ¬ o[i]! = o[j]!
def wholeP (l : List GCall) (o : List Int) : Prop := (∀ j, j < o.length → okO l o j) ∧ ∀ i, i < l.length → dueP l[i]! → ∃ j, j < o.length ∧ o[j]! = (i : Int)
def begF (l : List GCall) (o : List Int) : Nat → Int
  | 0 => -1
  | k + 1 => max (begF l o k) (atO l o k).From
def timelyP (l : List GCall) (o : List Int) : Prop := ∀ j, j < o.length → ¬ (¬ (atO l o j).Open = true ∧ (atO l o j).To < begF l o j)
def lastF (l : List GCall) (o : List Int) : Nat → Int
  | 0 => -1
  | k + 1 => if (atO l o k).Put = true then o[k]! else lastF l o k
def toldC (w : World) (l : List GCall) (o : List Int) (j : Nat) : Prop := ¬ (atO l o j).Put = true → ¬ ((atO l o j).Status = 76 ∧ 0 ≤ lastF l o j) ∧ ((atO l o j).Status = 0 → 0 ≤ lastF l o j ∧ bytesAt w (atO l o j).Value = bytesAt w l[(lastF l o j).toNat]!.Value)
def toldP (w : World) (l : List GCall) (o : List Int) : Prop := ∀ j, j < o.length → toldC w l o j
theorem lastF_in {l : List GCall} {o : List Int} (h : ∀ j, j < o.length → 0 ≤ o[j]! ∧ o[j]! < (l.length : Int)) : ∀ k, k ≤ o.length → -1 ≤ lastF l o k ∧ (0 ≤ lastF l o k → lastF l o k < (l.length : Int))
  | 0, _ => ⟨by unfold lastF; omega, fun h => by unfold lastF at h; omega⟩
  | k + 1, hk => by
    unfold lastF
    split
    · have := h k (by omega); exact ⟨by omega, fun _ => this.2⟩
    · exact lastF_in h k (by omega)
open Classical in
noncomputable def chkO (w : World) (l : List GCall) (o : List Int) : Int := if fitP l then (if wholeP l o ∧ timelyP l o ∧ toldP w l o then 0 else 81) else 1
theorem chkO_1 {w : World} {l : List GCall} {o : List Int} (h : ¬ fitP l) : chkO w l o = 1 := by unfold chkO; rw [if_neg h]
theorem chkO_0 {w : World} {l : List GCall} {o : List Int} (h : fitP l) (h1 : wholeP l o) (h2 : timelyP l o) (h3 : toldP w l o) : chkO w l o = 0 := by unfold chkO; rw [if_pos h, if_pos ⟨h1, h2, h3⟩]
theorem chkO_81 {w : World} {l : List GCall} {o : List Int} (h : fitP l) (h1 : ¬ (wholeP l o ∧ timelyP l o ∧ toldP w l o)) : chkO w l o = 81 := by unfold chkO; rw [if_pos h, if_neg h1]
end Go.Proofs.Ytdahgdkadfdkeaa.K
