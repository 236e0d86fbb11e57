/-
  No cell of these rows narrows 'for every input' (looked for: loops, veiled, ifaces, maps, wideKeys, modest, calm, conditions, laid).
  DERIVED. THE GIVEN ROWS OF THIS SEAT. 7 by the template 'for every input the law returns true; each argument reads behind the call as it read before'; 0 by the template 'total and deterministic' (their statements: YtdahgdkadfdkeaaTotals.lean).
  GIVEN WITH THE SEED: the statements are not yours to turn. If you find one false, say at which input.
  Laid BY PROGRAM, IN A SANDBOX (cutbox-rows.mjs): the forced cells as the released guide's own fill.sh prints them over the translation 4b17e4890b683728… (all of the seat's roots in one cut). By AI agents, Wed Nov 11 2026. No macro, syntax, notation, axiom, sorry.
-/
import Derived.Test.YtdahgdkadfdkeaaChecked
import GoSem.Claim
import GoSem.ClaimJoined
import GoSem.ClaimMapViews
import Derived.JoinedTies
import Derived.KernelRfl
namespace Go.Proofs.Ytdahgdkadfdkeaa
/- THE CELL 'sum', in the pinned program and in every row, IS THE sha256 OF THE DUMP (.gsa) THAT YtdahgdkadfdkeaaProg.lean LOADS. Nothing in Lean hashes anything: it is a label: what it is worth is what the hold of that sum in a sandbox is worth. -/
noncomputable def Try.pinned : Pinned := { name := "ytdahgdkadfdkeaa", sum := "4b17e4890b68372893d2374c8ae8261289ba0ab4e5246c0e2f4e4b6f5afc7c83", checked := Try.checked }
namespace Rows
def none {H : Type} : Left H := { results := [], args := [] }

/-- 'sherdtop.TopQuorums': WHATEVER THE INPUT: true; the input reads as it did. -/
def topQuorumsSpec : ChangeSpec := { name := "topQuorums", fn := fun _ => fun
  | [d1, d2, d3] => { results := [.lit (.bool true)], args := [d1, d2, d3] }
  | _ => none }
def topQuorumsRow : OpenClaim := { program := "ytdahgdkadfdkeaa", sum := "4b17e4890b68372893d2374c8ae8261289ba0ab4e5246c0e2f4e4b6f5afc7c83", func := "sherd/sherdtop.TopQuorums", spec := "topQuorums", unfollowed := true, recurses := true, plainKeys := false, apart := false }
def TopQuorumsSaid : Prop := topQuorumsRow.holds Try.pinned (OpenSpec.ofChange topQuorumsSpec)

/-- ITS FALSE NEIGHBOUR: 'it returns false'. Refute it at one input. -/
def topQuorumsWrong : ChangeSpec := { name := "topQuorums", fn := fun _ => fun
  | [d1, d2, d3] => { results := [.lit (.bool false)], args := [d1, d2, d3] }
  | _ => none }
def TopQuorumsWrongFalsely : Prop := topQuorumsRow.holds Try.pinned (OpenSpec.ofChange topQuorumsWrong)

/-- 'sherdlaw17.PhasePlays': WHATEVER THE INPUT: true; the input reads as it did. -/
def phasePlaysSpec : ChangeSpec := { name := "phasePlays", fn := fun _ => fun
  | [d1, d2, d3] => { results := [.lit (.bool true)], args := [d1, d2, d3] }
  | _ => none }
def phasePlaysRow : OpenClaim := { program := "ytdahgdkadfdkeaa", sum := "4b17e4890b68372893d2374c8ae8261289ba0ab4e5246c0e2f4e4b6f5afc7c83", func := "sherd/sherdlaw17.PhasePlays", spec := "phasePlays", inPlace := ["maps.clone"], unfollowed := true, recurses := true, plainKeys := false, apart := false }
def PhasePlaysSaid : Prop := phasePlaysRow.holds Try.pinned (OpenSpec.ofChange phasePlaysSpec)

/-- ITS FALSE NEIGHBOUR: 'it returns false'. Refute it at one input. -/
def phasePlaysWrong : ChangeSpec := { name := "phasePlays", fn := fun _ => fun
  | [d1, d2, d3] => { results := [.lit (.bool false)], args := [d1, d2, d3] }
  | _ => none }
def PhasePlaysWrongFalsely : Prop := phasePlaysRow.holds Try.pinned (OpenSpec.ofChange phasePlaysWrong)

/-- 'sherdlaw21.OrderAll': WHATEVER THE INPUT: true; the input reads as it did. -/
def orderAllSpec : ChangeSpec := { name := "orderAll", fn := fun _ => fun
  | [d1, d2] => { results := [.lit (.bool true)], args := [d1, d2] }
  | _ => none }
def orderAllRow : OpenClaim := { program := "ytdahgdkadfdkeaa", sum := "4b17e4890b68372893d2374c8ae8261289ba0ab4e5246c0e2f4e4b6f5afc7c83", func := "sherd/sherdlaw21.OrderAll", spec := "orderAll", inPlace := ["internal/reflectlite.ValueOf", "internal/reflectlite.Swapper", "(internal/reflectlite.Value).Len"], unfollowed := true, recurses := true, plainKeys := false, apart := false }
def OrderAllSaid : Prop := orderAllRow.holds Try.pinned (OpenSpec.ofChange orderAllSpec)

/-- ITS FALSE NEIGHBOUR: 'it returns false'. Refute it at one input. -/
def orderAllWrong : ChangeSpec := { name := "orderAll", fn := fun _ => fun
  | [d1, d2] => { results := [.lit (.bool false)], args := [d1, d2] }
  | _ => none }
def OrderAllWrongFalsely : Prop := orderAllRow.holds Try.pinned (OpenSpec.ofChange orderAllWrong)

/-- 'sherdlaw21.OrderMade': WHATEVER THE INPUT: true; the input reads as it did. -/
def orderMadeSpec : ChangeSpec := { name := "orderMade", fn := fun _ => fun
  | [d1, d2] => { results := [.lit (.bool true)], args := [d1, d2] }
  | _ => none }
def orderMadeRow : OpenClaim := { program := "ytdahgdkadfdkeaa", sum := "4b17e4890b68372893d2374c8ae8261289ba0ab4e5246c0e2f4e4b6f5afc7c83", func := "sherd/sherdlaw21.OrderMade", spec := "orderMade", inPlace := ["internal/reflectlite.ValueOf", "internal/reflectlite.Swapper", "(internal/reflectlite.Value).Len"], unfollowed := true, recurses := true, plainKeys := false, apart := false }
def OrderMadeSaid : Prop := orderMadeRow.holds Try.pinned (OpenSpec.ofChange orderMadeSpec)

/-- ITS FALSE NEIGHBOUR: 'it returns false'. Refute it at one input. -/
def orderMadeWrong : ChangeSpec := { name := "orderMade", fn := fun _ => fun
  | [d1, d2] => { results := [.lit (.bool false)], args := [d1, d2] }
  | _ => none }
def OrderMadeWrongFalsely : Prop := orderMadeRow.holds Try.pinned (OpenSpec.ofChange orderMadeWrong)

/-- 'sherdlaw21.OrderTime': WHATEVER THE INPUT: true; the input reads as it did. -/
def orderTimeSpec : ChangeSpec := { name := "orderTime", fn := fun _ => fun
  | [d1, d2] => { results := [.lit (.bool true)], args := [d1, d2] }
  | _ => none }
def orderTimeRow : OpenClaim := { program := "ytdahgdkadfdkeaa", sum := "4b17e4890b68372893d2374c8ae8261289ba0ab4e5246c0e2f4e4b6f5afc7c83", func := "sherd/sherdlaw21.OrderTime", spec := "orderTime", inPlace := ["internal/reflectlite.ValueOf", "internal/reflectlite.Swapper", "(internal/reflectlite.Value).Len"], unfollowed := true, recurses := true, plainKeys := false, apart := false }
def OrderTimeSaid : Prop := orderTimeRow.holds Try.pinned (OpenSpec.ofChange orderTimeSpec)

/-- ITS FALSE NEIGHBOUR: 'it returns false'. Refute it at one input. -/
def orderTimeWrong : ChangeSpec := { name := "orderTime", fn := fun _ => fun
  | [d1, d2] => { results := [.lit (.bool false)], args := [d1, d2] }
  | _ => none }
def OrderTimeWrongFalsely : Prop := orderTimeRow.holds Try.pinned (OpenSpec.ofChange orderTimeWrong)

/-- 'sherdtop.TopChecks': WHATEVER THE INPUT: true; the input reads as it did. -/
def topChecksSpec : ChangeSpec := { name := "topChecks", fn := fun _ => fun
  | [d1, d2] => { results := [.lit (.bool true)], args := [d1, d2] }
  | _ => none }
def topChecksRow : OpenClaim := { program := "ytdahgdkadfdkeaa", sum := "4b17e4890b68372893d2374c8ae8261289ba0ab4e5246c0e2f4e4b6f5afc7c83", func := "sherd/sherdtop.TopChecks", spec := "topChecks", inPlace := ["internal/reflectlite.ValueOf", "internal/reflectlite.Swapper", "(internal/reflectlite.Value).Len"], unfollowed := true, recurses := true, plainKeys := false, apart := false }
def TopChecksSaid : Prop := topChecksRow.holds Try.pinned (OpenSpec.ofChange topChecksSpec)

/-- ITS FALSE NEIGHBOUR: 'it returns false'. Refute it at one input. -/
def topChecksWrong : ChangeSpec := { name := "topChecks", fn := fun _ => fun
  | [d1, d2] => { results := [.lit (.bool false)], args := [d1, d2] }
  | _ => none }
def TopChecksWrongFalsely : Prop := topChecksRow.holds Try.pinned (OpenSpec.ofChange topChecksWrong)

/-- 'sherdlaw21.OrderFound': WHATEVER THE INPUT: true; the input reads as it did. -/
def orderFoundSpec : ChangeSpec := { name := "orderFound", fn := fun _ => fun
  | [d1, d2] => { results := [.lit (.bool true)], args := [d1, d2] }
  | _ => none }
def orderFoundRow : OpenClaim := { program := "ytdahgdkadfdkeaa", sum := "4b17e4890b68372893d2374c8ae8261289ba0ab4e5246c0e2f4e4b6f5afc7c83", func := "sherd/sherdlaw21.OrderFound", spec := "orderFound", inPlace := ["internal/reflectlite.ValueOf", "internal/reflectlite.Swapper", "(internal/reflectlite.Value).Len"], unfollowed := true, recurses := true, plainKeys := false, apart := false }
def OrderFoundSaid : Prop := orderFoundRow.holds Try.pinned (OpenSpec.ofChange orderFoundSpec)

/-- ITS FALSE NEIGHBOUR: 'it returns false'. Refute it at one input. -/
def orderFoundWrong : ChangeSpec := { name := "orderFound", fn := fun _ => fun
  | [d1, d2] => { results := [.lit (.bool false)], args := [d1, d2] }
  | _ => none }
def OrderFoundWrongFalsely : Prop := orderFoundRow.holds Try.pinned (OpenSpec.ofChange orderFoundWrong)

/- THE SECOND FORM. 'bulk': how many values and letters a reading holds, each counted each time it is reached (what is shared counts as often as it is met; a slice's spare places count too). A statement '..UptoSaid' is the law's where the arguments, and the package variables that the reading takes, are together of bulk at most 1048576: NARROWER than '..Said'. Prove '..Said' where nothing that the law and all that it calls make is longer than what came in: it says more and counts as full. Else prove '..UptoSaid'. A law counts once. -/
mutual
def uptoBulk {H : Type} : DataW H → Nat
  | .lit (.string bytes) => bytes.length + 1
  | .lit _ => 1
  | .nil => 1
  | .ptr d => uptoBulk d + 1
  | .slice elems spare => uptoBulkAll elems + uptoBulkAll spare + 1
  | .agg parts => uptoBulkAll parts + 1
  | .iface _ d => uptoBulk d + 1
  | .map entries => uptoBulkEntries entries + 1
  | .held _ => 1
def uptoBulkAll {H : Type} : List (DataW H) → Nat
  | [] => 0
  | d :: r => uptoBulk d + uptoBulkAll r
def uptoBulkEntries {H : Type} : List (Lit × DataW H) → Nat
  | [] => 0
  | x :: r => uptoBulkEntry x + uptoBulkEntries r
def uptoBulkEntry {H : Type} : Lit × DataW H → Nat
  | (.string bytes, d) => bytes.length + uptoBulk d + 1
  | (_, d) => uptoBulk d + 1
 end
def uptoSmall : (H : Type) → List (DataW H) → Bool := fun _ ds => decide (uptoBulkAll ds ≤ 1048576)
def OpenSpec.upto (s : _root_.Go.ChangeSpec) : _root_.Go.OpenSpec := { _root_.Go.OpenSpec.ofChange s with cond := some uptoSmall }

/-- 'sherdtop.TopQuorums', WHERE WHAT IT READS IS OF BULK AT MOST 1048576: true; the input reads as it did. -/
def topQuorumsUptoRow : OpenClaim := { program := "ytdahgdkadfdkeaa", sum := "4b17e4890b68372893d2374c8ae8261289ba0ab4e5246c0e2f4e4b6f5afc7c83", func := "sherd/sherdtop.TopQuorums", spec := "topQuorums", unfollowed := true, recurses := true, plainKeys := false, apart := false, narrowed := true }
def TopQuorumsUptoSaid : Prop := topQuorumsUptoRow.holds Try.pinned (OpenSpec.upto topQuorumsSpec)

/-- 'sherdlaw17.PhasePlays', WHERE WHAT IT READS IS OF BULK AT MOST 1048576: true; the input reads as it did. -/
def phasePlaysUptoRow : OpenClaim := { program := "ytdahgdkadfdkeaa", sum := "4b17e4890b68372893d2374c8ae8261289ba0ab4e5246c0e2f4e4b6f5afc7c83", func := "sherd/sherdlaw17.PhasePlays", spec := "phasePlays", inPlace := ["maps.clone"], unfollowed := true, recurses := true, plainKeys := false, apart := false, narrowed := true }
def PhasePlaysUptoSaid : Prop := phasePlaysUptoRow.holds Try.pinned (OpenSpec.upto phasePlaysSpec)

/-- 'sherdlaw21.OrderAll', WHERE WHAT IT READS IS OF BULK AT MOST 1048576: true; the input reads as it did. -/
def orderAllUptoRow : OpenClaim := { program := "ytdahgdkadfdkeaa", sum := "4b17e4890b68372893d2374c8ae8261289ba0ab4e5246c0e2f4e4b6f5afc7c83", func := "sherd/sherdlaw21.OrderAll", spec := "orderAll", inPlace := ["internal/reflectlite.ValueOf", "internal/reflectlite.Swapper", "(internal/reflectlite.Value).Len"], unfollowed := true, recurses := true, plainKeys := false, apart := false, narrowed := true }
def OrderAllUptoSaid : Prop := orderAllUptoRow.holds Try.pinned (OpenSpec.upto orderAllSpec)

/-- 'sherdlaw21.OrderMade', WHERE WHAT IT READS IS OF BULK AT MOST 1048576: true; the input reads as it did. -/
def orderMadeUptoRow : OpenClaim := { program := "ytdahgdkadfdkeaa", sum := "4b17e4890b68372893d2374c8ae8261289ba0ab4e5246c0e2f4e4b6f5afc7c83", func := "sherd/sherdlaw21.OrderMade", spec := "orderMade", inPlace := ["internal/reflectlite.ValueOf", "internal/reflectlite.Swapper", "(internal/reflectlite.Value).Len"], unfollowed := true, recurses := true, plainKeys := false, apart := false, narrowed := true }
def OrderMadeUptoSaid : Prop := orderMadeUptoRow.holds Try.pinned (OpenSpec.upto orderMadeSpec)

/-- 'sherdlaw21.OrderTime', WHERE WHAT IT READS IS OF BULK AT MOST 1048576: true; the input reads as it did. -/
def orderTimeUptoRow : OpenClaim := { program := "ytdahgdkadfdkeaa", sum := "4b17e4890b68372893d2374c8ae8261289ba0ab4e5246c0e2f4e4b6f5afc7c83", func := "sherd/sherdlaw21.OrderTime", spec := "orderTime", inPlace := ["internal/reflectlite.ValueOf", "internal/reflectlite.Swapper", "(internal/reflectlite.Value).Len"], unfollowed := true, recurses := true, plainKeys := false, apart := false, narrowed := true }
def OrderTimeUptoSaid : Prop := orderTimeUptoRow.holds Try.pinned (OpenSpec.upto orderTimeSpec)

/-- 'sherdtop.TopChecks', WHERE WHAT IT READS IS OF BULK AT MOST 1048576: true; the input reads as it did. -/
def topChecksUptoRow : OpenClaim := { program := "ytdahgdkadfdkeaa", sum := "4b17e4890b68372893d2374c8ae8261289ba0ab4e5246c0e2f4e4b6f5afc7c83", func := "sherd/sherdtop.TopChecks", spec := "topChecks", inPlace := ["internal/reflectlite.ValueOf", "internal/reflectlite.Swapper", "(internal/reflectlite.Value).Len"], unfollowed := true, recurses := true, plainKeys := false, apart := false, narrowed := true }
def TopChecksUptoSaid : Prop := topChecksUptoRow.holds Try.pinned (OpenSpec.upto topChecksSpec)

/-- 'sherdlaw21.OrderFound', WHERE WHAT IT READS IS OF BULK AT MOST 1048576: true; the input reads as it did. -/
def orderFoundUptoRow : OpenClaim := { program := "ytdahgdkadfdkeaa", sum := "4b17e4890b68372893d2374c8ae8261289ba0ab4e5246c0e2f4e4b6f5afc7c83", func := "sherd/sherdlaw21.OrderFound", spec := "orderFound", inPlace := ["internal/reflectlite.ValueOf", "internal/reflectlite.Swapper", "(internal/reflectlite.Value).Len"], unfollowed := true, recurses := true, plainKeys := false, apart := false, narrowed := true }
def OrderFoundUptoSaid : Prop := orderFoundUptoRow.holds Try.pinned (OpenSpec.upto orderFoundSpec)

end Rows
end Go.Proofs.Ytdahgdkadfdkeaa
