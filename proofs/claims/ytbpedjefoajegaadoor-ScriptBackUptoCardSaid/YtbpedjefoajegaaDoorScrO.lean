/- Steps that are handed in. -/
import Derived.Test.YtbpedjefoajegaaDoorScrN
import Derived.Test.YtbpedjefoajegaaDoorOpen
namespace Go.Proofs.YtbpedjefoajegaaDoor.K
open Go Go.RowKit
set_option linter.unusedVariables false
theorem inputs {w : World} {cl : List GStep} (h : ∀ s ∈ cl, (Rng .i64 s.Kind) ∧ (Rng .i64 s.A) ∧ (Rng .i64 s.B) ∧ (s.Key.size ≤ 1048576) ∧ (∃ l, SlD w (α := Int) (fun y => [.int .u8 y]) (fun y => Rng .u8 y) 1048576 s.Value l) ∧ (∃ l, SlD w (α := Int) (fun y => [.int .i64 y]) (fun y => Rng .i64 y) 1048576 s.L l)) :
    StL w Tr cl (cl.map (plainS w)) ∧ (∀ x ∈ cl.map (plainS w), smS x) ∧ (∀ x ∈ cl.map (plainS w), (lineS x).size ≤ 34359738) ∧ ∀ i, i < (cl.map (plainS w)).length → (cl.map (plainS w))[i]!.Value.size ≤ 1099511627776 ∧ (cl.map (plainS w))[i]!.L.length ≤ 1099511627776 := by
  have key : ∀ s ∈ cl, StR w Tr s (plainS w s) ∧ inS (plainS w s) ∧ s.Key.size ≤ 1048576 ∧ (plainS w s).Value.size ≤ 1048576 ∧ (plainS w s).L.length ≤ 1048576 := fun s hs => by
    obtain ⟨_, ha, hb, hk, ⟨lv, h1⟩, ⟨ll, h2⟩⟩ := h s hs
    obtain ⟨q1, q2⟩ := StR.input (lv := lv) (ll := ll) h1.rd h1.len (fun y hy => h1.all y hy) h2.rd h2.len
    have c1 := h1.cap
    have c2 := h1.bnd
    have c3 := h2.cap
    have c4 := h2.bnd
    refine ⟨q1, ⟨ha, hb, fun n hn => ?_⟩, hk, ?_, ?_⟩
    · have : n ∈ ll := by rw [← q2]; exact hn
      exact h2.all n this
    · have := q1.vn; omega
    · have := q1.ln; omega
  have sm : ∀ s ∈ cl, smS (plainS w s) := fun s hs => by
    obtain ⟨_, k2, k3, k4, k5⟩ := key s hs
    exact ⟨k2, Nat.le_trans k3 (by decide), Nat.le_trans k4 (by decide), Nat.le_trans k5 (by decide)⟩
  refine ⟨StL.input fun s hs => (key s hs).1, ?_, ?_, fun i hi => ?_⟩
  · intro x hx
    obtain ⟨s, hs, rfl⟩ := List.mem_map.1 hx
    exact sm s hs
  · intro x hx
    obtain ⟨s, hs, rfl⟩ := List.mem_map.1 hx
    obtain ⟨_, k2, k3, k4, k5⟩ := key s hs
    have := line_size (sm s hs)
    have k3' : (plainS w s).Key.size ≤ 1048576 := k3
    omega
  · rw [getElem!_pos _ i hi, List.getElem_map]
    have hi' : i < cl.length := by simpa using hi
    obtain ⟨_, _, _, k4, k5⟩ := key _ (List.getElem_mem hi')
    exact ⟨Nat.le_trans k4 (by decide), Nat.le_trans k5 (by decide)⟩
end Go.Proofs.YtbpedjefoajegaaDoor.K
