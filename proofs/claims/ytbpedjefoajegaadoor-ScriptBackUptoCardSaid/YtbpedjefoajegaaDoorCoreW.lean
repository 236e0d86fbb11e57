/- Drawn regions: a guard that is not decided. -/
import Derived.Test.YtbpedjefoajegaaDoorCoreO
namespace Go.Proofs.YtbpedjefoajegaaDoor.K
open Go Go.RowKit

section
variable {P : Program} {N : Nat} {ops : Array Oper} {Q : Post} {S : World → Prop} {ks : List Nat} {e : Env} {w : World} {r : List (Nat × Bool)}
theorem HOPS.re {l : List (Nat × Bool)} {base : Env} {kz : List Nat} {vs : List Value} (vs' : List Value) (h : vs = vs') (k : HOPS P N ops Q S ks l (mk base kz vs') w) : HOPS P N ops Q S ks l (mk base kz vs) w := by rw [h]; exact k
theorem HOPS.effW {i : Nat} (o : Oper) (ho : ops[i]? = some o) (hg : guardB ops N e o = some true) (h : opStep P N ops Q { o with guard := none } (fun e' w' => (ks.contains i = true ∨ S w') ∧ HOPS P N ops Q S ks r e' w') e w) : HOPS P N ops Q S ks ((i, false) :: r) e w :=
  HOPS.eff o ho (guard_step hg (by rw [if_pos rfl]; exact h))
end
end Go.Proofs.YtbpedjefoajegaaDoor.K
