/- The walks of Bitz: what each function computes. -/
import Derived.Test.YtgpjpcemfaignaaProg
import Derived.Test.YtgpjpcemfaignaaCoreO
import Derived.Test.YtgpjpcemfaignaaStr
namespace Go.Proofs.Ytgpjpcemfaignaa.K
open Go Go.Proofs Go.RowKit
set_option linter.unusedVariables false
set_option linter.unusedSimpArgs false
set_option maxRecDepth 20000
set_option maxHeartbeats 4000000

theorem take_same {l m : List Int} {k : Nat} (h1 : k < l.length) (h2 : k < m.length) (h : l.take k = m.take k) (e : l[k]! = m[k]!) : l.take (k + 1) = m.take (k + 1) := by
  rw [List.take_add_one, List.take_add_one, h, get_bang h1, get_bang h2, e]

end Go.Proofs.Ytgpjpcemfaignaa.K
