/- What One is asked in LinearLess. -/
import Derived.Test.YthdkbbpiaeaojaaLinK
import Derived.Test.YthdkbbpiaeaojaaLawD
namespace Go.Proofs.Ythdkbbpiaeaojaa.K
open Go Go.RowKit
set_option linter.unusedVariables false

theorem ex_nil {val : SlH → ByteArray} {l : List GCall} (h : l.length = 0) : Ex val l := ⟨[], fun i hi => by omega⟩
theorem ok_mem {l : List GCall} (h : ∀ x ∈ l, okArg x) : ∀ j, j < l.length → okArg l[j]! := fun j hj => h _ (List.mem_of_getElem? (get_bang hj))
section
variable {ts : List Gsherdlaw20_Draft} {cl : List GCall} {vs : List ByteArray} {k : Nat}
theorem dr_mem (h : drB ts cl vs k) : ∀ x ∈ cl, okArg x := by
  intro x hx
  obtain ⟨i, hi, hg⟩ := List.mem_iff_getElem.1 hx
  have e : cl[i]! = x := by
    have := get_bang hi
    rw [List.getElem?_eq_getElem hi, hg] at this
    exact (Option.some.inj this).symm
  rw [← e]
  exact dr_ok h (by rw [← h.1]; exact hi)
variable {P : GCall → Prop}
theorem mem_more {x : GCall} (h : ∀ y ∈ cl, P y) (hx : P x) : ∀ y ∈ cl ++ [x], P y := fun y hy => (List.mem_append.1 hy).elim (h y) (fun q => by rw [List.mem_singleton.1 q]; exact hx)
theorem mem_less {i j : Nat} (h : ∀ y ∈ cl, P y) : ∀ y ∈ cl.take i ++ cl.drop j, P y := fun y hy => (List.mem_append.1 hy).elim (fun q => h y (List.mem_of_mem_take q)) (fun q => h y (List.mem_of_mem_drop q))
theorem mem_later {i : Nat} {c : GCall} (h : ∀ y ∈ cl, P y) (hc : P c) : ∀ y ∈ cl.set i c, P y := fun y hy => (List.mem_or_eq_of_mem_set hy).elim (h y) (fun q => by rw [q]; exact hc)
end
end Go.Proofs.Ythdkbbpiaeaojaa.K
