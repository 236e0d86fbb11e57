/- Calls of drafts. -/
import Derived.Test.YthdkbbpiaeaojaaLawA
import Derived.Test.YthdkbbpiaeaojaaLawB
namespace Go.Proofs.Ythdkbbpiaeaojaa.K
open Go Go.RowKit

section
variable {ts : List Gsherdlaw20_Draft} {cl : List GCall} {vs : List ByteArray} {k : Nat}
theorem dr_at (h : drB ts cl vs k) {i : Nat} (hi : i < k) : cl[i]!.From = dfF ts[i]! ∧ cl[i]!.To = dfT ts[i]! ∧
    ((ts[i]!.Put = true ∧ cl[i]!.Put = true ∧ cl[i]!.Open = decide (dfT ts[i]! < 0) ∧ cl[i]!.Status = 0 ∧ vs[i]! = abcV ts[i]!.Value) ∨
     (¬ ts[i]!.Put = true ∧ ¬ cl[i]!.Put = true ∧ cl[i]!.Open = false ∧ cl[i]!.Status = (if ts[i]!.Gone = true then 77 else if eabcV ts[i]!.Value = ⟨#[]⟩ then 76 else 0) ∧ vs[i]! = eabcV ts[i]!.Value)) := by
  obtain ⟨h1, h2⟩ := h.2.2 i hi
  unfold drC at h1 h2
  unfold coreC at h1
  split at h1
  · rename_i hc
    rw [if_pos hc] at h2
    simp only [Prod.mk.injEq] at h1
    exact ⟨h1.2.2.1, h1.2.2.2.1, .inl ⟨hc, h1.1, h1.2.1, h1.2.2.2.2, h2⟩⟩
  · rename_i hc
    rw [if_neg hc] at h2
    simp only [Prod.mk.injEq] at h1
    exact ⟨h1.2.2.1, h1.2.2.2.1, .inr ⟨hc, by rw [h1.1]; simp, h1.2.1, h1.2.2.2.2, h2⟩⟩
theorem dfT_bd (t : Gsherdlaw20_Draft) : 0 ≤ dfF t ∧ dfF t < 12 ∧ (dfT t = -1 ∨ (dfF t < dfT t ∧ dfT t < dfF t + 8)) := by
  unfold dfT dfF
  have h1 := modI_bd t.From (k := 12) (by omega)
  have h2 := modI_bd t.Long (k := 8) (by omega)
  refine ⟨h1.1, h1.2, ?_⟩
  split
  · exact .inr (by omega)
  · exact .inl rfl
theorem dr_ok (h : drB ts cl vs k) {i : Nat} (hi : i < k) : okArg cl[i]! := by
  obtain ⟨a, b, _⟩ := dr_at h hi
  have h1 := dfT_bd ts[i]!
  unfold okArg
  rw [a, b]; omega
variable {val : SlH → ByteArray}
theorem dr_one (h : drB ts cl vs k) (hk : k ≤ 24) {xs : List Nat} {ok : Bool} {e : Int} (ho : oneA val cl xs ok e) : e = 0 ∧ ((ok = true ∧ BestA val cl xs) ∨ (ok = false ∧ xs = [] ∧ ∀ p, ¬ PathA val cl [] p)) := by
  have hlen := h.1
  rcases ho with ⟨⟨j, a, b⟩, _⟩ | ⟨_, b, _⟩ | ⟨_, _, e0, r⟩
  · exact absurd (dr_ok h (by omega)) b
  · have := cntN_le3 cl cl.length; omega
  · exact ⟨e0, r⟩
end
end Go.Proofs.Ythdkbbpiaeaojaa.K
