/-
  No cell of these rows narrows 'for every input' (looked for: loops, veiled, ifaces, maps, wideKeys, modest, calm, conditions, laid).
  DERIVED. THE GIVEN ROWS OF THIS SEAT. 12 by the template 'for every input the law returns true; each argument reads behind the call as it read before'; 0 by the template 'total and deterministic' (their statements: YthdkbbpiaeaojaaTotals.lean).
  GIVEN WITH THE SEED: the statements are not yours to turn. If you find one false, say at which input.
  Laid BY PROGRAM, IN A SANDBOX (cutbox-rows.mjs): the forced cells as the released guide's own fill.sh prints them over the translation 791d73947fcae03a… (all of the seat's roots in one cut). By AI agents, Wed Nov 11 2026. No macro, syntax, notation, axiom, sorry.
-/
import Derived.Test.YthdkbbpiaeaojaaChecked
import GoSem.Claim
import GoSem.ClaimJoined
import GoSem.ClaimMapViews
import Derived.JoinedTies
import Derived.KernelRfl
namespace Go.Proofs.Ythdkbbpiaeaojaa
/- THE CELL 'sum', in the pinned program and in every row, IS THE sha256 OF THE DUMP (.gsa) THAT YthdkbbpiaeaojaaProg.lean LOADS. Nothing in Lean hashes anything: it is a label: what it is worth is what the hold of that sum in a sandbox is worth. -/
noncomputable def Try.pinned : Pinned := { name := "ythdkbbpiaeaojaa", sum := "791d73947fcae03af5dac88394aabe1a190f695886709c15243761b93e378a7d", checked := Try.checked }
namespace Rows
def none {H : Type} : Left H := { results := [], args := [] }

/-- 'sherdlaw08.TagNext': WHATEVER THE INPUT: true; the input reads as it did. -/
def tagNextSpec : ChangeSpec := { name := "tagNext", fn := fun _ => fun
  | [d] => { results := [.lit (.bool true)], args := [d] }
  | _ => none }
def tagNextRow : OpenClaim := { program := "ythdkbbpiaeaojaa", sum := "791d73947fcae03af5dac88394aabe1a190f695886709c15243761b93e378a7d", func := "sherd/sherdlaw08.TagNext", spec := "tagNext", plainKeys := false, apart := false }
def TagNextSaid : Prop := tagNextRow.holds Try.pinned (OpenSpec.ofChange tagNextSpec)

/-- ITS FALSE NEIGHBOUR: 'it returns false'. Refute it at one input. -/
def tagNextWrong : ChangeSpec := { name := "tagNext", fn := fun _ => fun
  | [d] => { results := [.lit (.bool false)], args := [d] }
  | _ => none }
def TagNextWrongFalsely : Prop := tagNextRow.holds Try.pinned (OpenSpec.ofChange tagNextWrong)

/-- 'sherdlaw08.TagOrder': WHATEVER THE INPUT: true; the input reads as it did. -/
def tagOrderSpec : ChangeSpec := { name := "tagOrder", fn := fun _ => fun
  | [d1, d2, d3] => { results := [.lit (.bool true)], args := [d1, d2, d3] }
  | _ => none }
def tagOrderRow : OpenClaim := { program := "ythdkbbpiaeaojaa", sum := "791d73947fcae03af5dac88394aabe1a190f695886709c15243761b93e378a7d", func := "sherd/sherdlaw08.TagOrder", spec := "tagOrder", unfollowed := true, recurses := true, plainKeys := false, apart := false }
def TagOrderSaid : Prop := tagOrderRow.holds Try.pinned (OpenSpec.ofChange tagOrderSpec)

/-- ITS FALSE NEIGHBOUR: 'it returns false'. Refute it at one input. -/
def tagOrderWrong : ChangeSpec := { name := "tagOrder", fn := fun _ => fun
  | [d1, d2, d3] => { results := [.lit (.bool false)], args := [d1, d2, d3] }
  | _ => none }
def TagOrderWrongFalsely : Prop := tagOrderRow.holds Try.pinned (OpenSpec.ofChange tagOrderWrong)

/-- 'sherdlaw20.LinearOnes': WHATEVER THE INPUT: true; the input reads as it did. -/
def linearOnesSpec : ChangeSpec := { name := "linearOnes", fn := fun _ => fun
  | [d] => { results := [.lit (.bool true)], args := [d] }
  | _ => none }
def linearOnesRow : OpenClaim := { program := "ythdkbbpiaeaojaa", sum := "791d73947fcae03af5dac88394aabe1a190f695886709c15243761b93e378a7d", func := "sherd/sherdlaw20.LinearOnes", spec := "linearOnes", recurses := true, plainKeys := false, apart := false }
def LinearOnesSaid : Prop := linearOnesRow.holds Try.pinned (OpenSpec.ofChange linearOnesSpec)

/-- ITS FALSE NEIGHBOUR: 'it returns false'. Refute it at one input. -/
def linearOnesWrong : ChangeSpec := { name := "linearOnes", fn := fun _ => fun
  | [d] => { results := [.lit (.bool false)], args := [d] }
  | _ => none }
def LinearOnesWrongFalsely : Prop := linearOnesRow.holds Try.pinned (OpenSpec.ofChange linearOnesWrong)

/-- 'sherdlaw20.LinearFirst': WHATEVER THE INPUT: true; the input reads as it did. -/
def linearFirstSpec : ChangeSpec := { name := "linearFirst", fn := fun _ => fun
  | [d] => { results := [.lit (.bool true)], args := [d] }
  | _ => none }
def linearFirstRow : OpenClaim := { program := "ythdkbbpiaeaojaa", sum := "791d73947fcae03af5dac88394aabe1a190f695886709c15243761b93e378a7d", func := "sherd/sherdlaw20.LinearFirst", spec := "linearFirst", recurses := true, plainKeys := false, apart := false }
def LinearFirstSaid : Prop := linearFirstRow.holds Try.pinned (OpenSpec.ofChange linearFirstSpec)

/-- ITS FALSE NEIGHBOUR: 'it returns false'. Refute it at one input. -/
def linearFirstWrong : ChangeSpec := { name := "linearFirst", fn := fun _ => fun
  | [d] => { results := [.lit (.bool false)], args := [d] }
  | _ => none }
def LinearFirstWrongFalsely : Prop := linearFirstRow.holds Try.pinned (OpenSpec.ofChange linearFirstWrong)

/-- 'sherdlaw20.LinearRight': WHATEVER THE INPUT: true; the input reads as it did. -/
def linearRightSpec : ChangeSpec := { name := "linearRight", fn := fun _ => fun
  | [d] => { results := [.lit (.bool true)], args := [d] }
  | _ => none }
def linearRightRow : OpenClaim := { program := "ythdkbbpiaeaojaa", sum := "791d73947fcae03af5dac88394aabe1a190f695886709c15243761b93e378a7d", func := "sherd/sherdlaw20.LinearRight", spec := "linearRight", recurses := true, plainKeys := false, apart := false }
def LinearRightSaid : Prop := linearRightRow.holds Try.pinned (OpenSpec.ofChange linearRightSpec)

/-- ITS FALSE NEIGHBOUR: 'it returns false'. Refute it at one input. -/
def linearRightWrong : ChangeSpec := { name := "linearRight", fn := fun _ => fun
  | [d] => { results := [.lit (.bool false)], args := [d] }
  | _ => none }
def LinearRightWrongFalsely : Prop := linearRightRow.holds Try.pinned (OpenSpec.ofChange linearRightWrong)

/-- 'sherdlaw20.LinearLess': WHATEVER THE INPUT: true; the input reads as it did. -/
def linearLessSpec : ChangeSpec := { name := "linearLess", fn := fun _ => fun
  | [d1, d2, d3] => { results := [.lit (.bool true)], args := [d1, d2, d3] }
  | _ => none }
def linearLessRow : OpenClaim := { program := "ythdkbbpiaeaojaa", sum := "791d73947fcae03af5dac88394aabe1a190f695886709c15243761b93e378a7d", func := "sherd/sherdlaw20.LinearLess", spec := "linearLess", recurses := true, plainKeys := false, apart := false }
def LinearLessSaid : Prop := linearLessRow.holds Try.pinned (OpenSpec.ofChange linearLessSpec)

/-- ITS FALSE NEIGHBOUR: 'it returns false'. Refute it at one input. -/
def linearLessWrong : ChangeSpec := { name := "linearLess", fn := fun _ => fun
  | [d1, d2, d3] => { results := [.lit (.bool false)], args := [d1, d2, d3] }
  | _ => none }
def LinearLessWrongFalsely : Prop := linearLessRow.holds Try.pinned (OpenSpec.ofChange linearLessWrong)

/-- 'sherdlaw09.QuorumMeets': WHATEVER THE INPUT: true; the input reads as it did. -/
def quorumMeetsSpec : ChangeSpec := { name := "quorumMeets", fn := fun _ => fun
  | [d1, d2, d3] => { results := [.lit (.bool true)], args := [d1, d2, d3] }
  | _ => none }
def quorumMeetsRow : OpenClaim := { program := "ythdkbbpiaeaojaa", sum := "791d73947fcae03af5dac88394aabe1a190f695886709c15243761b93e378a7d", func := "sherd/sherdlaw09.QuorumMeets", spec := "quorumMeets", unfollowed := true, recurses := true, plainKeys := false, apart := false }
def QuorumMeetsSaid : Prop := quorumMeetsRow.holds Try.pinned (OpenSpec.ofChange quorumMeetsSpec)

/-- ITS FALSE NEIGHBOUR: 'it returns false'. Refute it at one input. -/
def quorumMeetsWrong : ChangeSpec := { name := "quorumMeets", fn := fun _ => fun
  | [d1, d2, d3] => { results := [.lit (.bool false)], args := [d1, d2, d3] }
  | _ => none }
def QuorumMeetsWrongFalsely : Prop := quorumMeetsRow.holds Try.pinned (OpenSpec.ofChange quorumMeetsWrong)

/-- 'sherdlaw09.QuorumConfigs': WHATEVER THE INPUT: true; the input reads as it did. -/
def quorumConfigsSpec : ChangeSpec := { name := "quorumConfigs", fn := fun _ => fun
  | [d] => { results := [.lit (.bool true)], args := [d] }
  | _ => none }
def quorumConfigsRow : OpenClaim := { program := "ythdkbbpiaeaojaa", sum := "791d73947fcae03af5dac88394aabe1a190f695886709c15243761b93e378a7d", func := "sherd/sherdlaw09.QuorumConfigs", spec := "quorumConfigs", unfollowed := true, recurses := true, plainKeys := false, apart := false }
def QuorumConfigsSaid : Prop := quorumConfigsRow.holds Try.pinned (OpenSpec.ofChange quorumConfigsSpec)

/-- ITS FALSE NEIGHBOUR: 'it returns false'. Refute it at one input. -/
def quorumConfigsWrong : ChangeSpec := { name := "quorumConfigs", fn := fun _ => fun
  | [d] => { results := [.lit (.bool false)], args := [d] }
  | _ => none }
def QuorumConfigsWrongFalsely : Prop := quorumConfigsRow.holds Try.pinned (OpenSpec.ofChange quorumConfigsWrong)

/-- 'sherdlaw09.QuorumPlays': WHATEVER THE INPUT: true; the input reads as it did. -/
def quorumPlaysSpec : ChangeSpec := { name := "quorumPlays", fn := fun _ => fun
  | [d] => { results := [.lit (.bool true)], args := [d] }
  | _ => none }
def quorumPlaysRow : OpenClaim := { program := "ythdkbbpiaeaojaa", sum := "791d73947fcae03af5dac88394aabe1a190f695886709c15243761b93e378a7d", func := "sherd/sherdlaw09.QuorumPlays", spec := "quorumPlays", unfollowed := true, recurses := true, plainKeys := false, apart := false }
def QuorumPlaysSaid : Prop := quorumPlaysRow.holds Try.pinned (OpenSpec.ofChange quorumPlaysSpec)

/-- ITS FALSE NEIGHBOUR: 'it returns false'. Refute it at one input. -/
def quorumPlaysWrong : ChangeSpec := { name := "quorumPlays", fn := fun _ => fun
  | [d] => { results := [.lit (.bool false)], args := [d] }
  | _ => none }
def QuorumPlaysWrongFalsely : Prop := quorumPlaysRow.holds Try.pinned (OpenSpec.ofChange quorumPlaysWrong)

/-- 'sherdtop.TopSearch': WHATEVER THE INPUT: true; the input reads as it did. -/
def topSearchSpec : ChangeSpec := { name := "topSearch", fn := fun _ => fun
  | [d] => { results := [.lit (.bool true)], args := [d] }
  | _ => none }
def topSearchRow : OpenClaim := { program := "ythdkbbpiaeaojaa", sum := "791d73947fcae03af5dac88394aabe1a190f695886709c15243761b93e378a7d", func := "sherd/sherdtop.TopSearch", spec := "topSearch", recurses := true, plainKeys := false, apart := false }
def TopSearchSaid : Prop := topSearchRow.holds Try.pinned (OpenSpec.ofChange topSearchSpec)

/-- ITS FALSE NEIGHBOUR: 'it returns false'. Refute it at one input. -/
def topSearchWrong : ChangeSpec := { name := "topSearch", fn := fun _ => fun
  | [d] => { results := [.lit (.bool false)], args := [d] }
  | _ => none }
def TopSearchWrongFalsely : Prop := topSearchRow.holds Try.pinned (OpenSpec.ofChange topSearchWrong)

/-- 'sherdlaw09.QuorumShare': WHATEVER THE INPUT: true; the input reads as it did. -/
def quorumShareSpec : ChangeSpec := { name := "quorumShare", fn := fun _ => fun
  | [d1, d2, d3] => { results := [.lit (.bool true)], args := [d1, d2, d3] }
  | _ => none }
def quorumShareRow : OpenClaim := { program := "ythdkbbpiaeaojaa", sum := "791d73947fcae03af5dac88394aabe1a190f695886709c15243761b93e378a7d", func := "sherd/sherdlaw09.QuorumShare", spec := "quorumShare", unfollowed := true, recurses := true, plainKeys := false, apart := false }
def QuorumShareSaid : Prop := quorumShareRow.holds Try.pinned (OpenSpec.ofChange quorumShareSpec)

/-- ITS FALSE NEIGHBOUR: 'it returns false'. Refute it at one input. -/
def quorumShareWrong : ChangeSpec := { name := "quorumShare", fn := fun _ => fun
  | [d1, d2, d3] => { results := [.lit (.bool false)], args := [d1, d2, d3] }
  | _ => none }
def QuorumShareWrongFalsely : Prop := quorumShareRow.holds Try.pinned (OpenSpec.ofChange quorumShareWrong)

/-- 'sherdlaw08.TagSets': WHATEVER THE INPUT: true; the input reads as it did. -/
def tagSetsSpec : ChangeSpec := { name := "tagSets", fn := fun _ => fun
  | [d1, d2] => { results := [.lit (.bool true)], args := [d1, d2] }
  | _ => none }
def tagSetsRow : OpenClaim := { program := "ythdkbbpiaeaojaa", sum := "791d73947fcae03af5dac88394aabe1a190f695886709c15243761b93e378a7d", func := "sherd/sherdlaw08.TagSets", spec := "tagSets", inPlace := ["slices.overlaps[sherd/api.Tag]"], unfollowed := true, recurses := true, plainKeys := false, apart := false }
def TagSetsSaid : Prop := tagSetsRow.holds Try.pinned (OpenSpec.ofChange tagSetsSpec)

/-- ITS FALSE NEIGHBOUR: 'it returns false'. Refute it at one input. -/
def tagSetsWrong : ChangeSpec := { name := "tagSets", fn := fun _ => fun
  | [d1, d2] => { results := [.lit (.bool false)], args := [d1, d2] }
  | _ => none }
def TagSetsWrongFalsely : Prop := tagSetsRow.holds Try.pinned (OpenSpec.ofChange tagSetsWrong)

/- THE SECOND FORM. 'bulk': how many values and letters a reading holds, each counted each time it is reached (what is shared counts as often as it is met; a slice's spare places count too). A statement '..UptoSaid' is the law's where the arguments, and the package variables that the reading takes, are together of bulk at most 1048576: NARROWER than '..Said'. Prove '..Said' where nothing that the law and all that it calls make is longer than what came in: it says more and counts as full. Else prove '..UptoSaid'. A law counts once. -/
mutual
def uptoBulk {H : Type} : DataW H → Nat
  | .lit (.string bytes) => bytes.length + 1
  | .lit _ => 1
  | .nil => 1
  | .ptr d => uptoBulk d + 1
  | .slice elems spare => uptoBulkAll elems + uptoBulkAll spare + 1
  | .agg parts => uptoBulkAll parts + 1
  | .iface _ d => uptoBulk d + 1
  | .map entries => uptoBulkEntries entries + 1
  | .held _ => 1
def uptoBulkAll {H : Type} : List (DataW H) → Nat
  | [] => 0
  | d :: r => uptoBulk d + uptoBulkAll r
def uptoBulkEntries {H : Type} : List (Lit × DataW H) → Nat
  | [] => 0
  | x :: r => uptoBulkEntry x + uptoBulkEntries r
def uptoBulkEntry {H : Type} : Lit × DataW H → Nat
  | (.string bytes, d) => bytes.length + uptoBulk d + 1
  | (_, d) => uptoBulk d + 1
 end
def uptoSmall : (H : Type) → List (DataW H) → Bool := fun _ ds => decide (uptoBulkAll ds ≤ 1048576)
def OpenSpec.upto (s : _root_.Go.ChangeSpec) : _root_.Go.OpenSpec := { _root_.Go.OpenSpec.ofChange s with cond := some uptoSmall }

/-- 'sherdlaw08.TagNext', WHERE WHAT IT READS IS OF BULK AT MOST 1048576: true; the input reads as it did. -/
def tagNextUptoRow : OpenClaim := { program := "ythdkbbpiaeaojaa", sum := "791d73947fcae03af5dac88394aabe1a190f695886709c15243761b93e378a7d", func := "sherd/sherdlaw08.TagNext", spec := "tagNext", plainKeys := false, apart := false, narrowed := true }
def TagNextUptoSaid : Prop := tagNextUptoRow.holds Try.pinned (OpenSpec.upto tagNextSpec)

/-- 'sherdlaw08.TagOrder', WHERE WHAT IT READS IS OF BULK AT MOST 1048576: true; the input reads as it did. -/
def tagOrderUptoRow : OpenClaim := { program := "ythdkbbpiaeaojaa", sum := "791d73947fcae03af5dac88394aabe1a190f695886709c15243761b93e378a7d", func := "sherd/sherdlaw08.TagOrder", spec := "tagOrder", unfollowed := true, recurses := true, plainKeys := false, apart := false, narrowed := true }
def TagOrderUptoSaid : Prop := tagOrderUptoRow.holds Try.pinned (OpenSpec.upto tagOrderSpec)

/-- 'sherdlaw20.LinearOnes', WHERE WHAT IT READS IS OF BULK AT MOST 1048576: true; the input reads as it did. -/
def linearOnesUptoRow : OpenClaim := { program := "ythdkbbpiaeaojaa", sum := "791d73947fcae03af5dac88394aabe1a190f695886709c15243761b93e378a7d", func := "sherd/sherdlaw20.LinearOnes", spec := "linearOnes", recurses := true, plainKeys := false, apart := false, narrowed := true }
def LinearOnesUptoSaid : Prop := linearOnesUptoRow.holds Try.pinned (OpenSpec.upto linearOnesSpec)

/-- 'sherdlaw20.LinearFirst', WHERE WHAT IT READS IS OF BULK AT MOST 1048576: true; the input reads as it did. -/
def linearFirstUptoRow : OpenClaim := { program := "ythdkbbpiaeaojaa", sum := "791d73947fcae03af5dac88394aabe1a190f695886709c15243761b93e378a7d", func := "sherd/sherdlaw20.LinearFirst", spec := "linearFirst", recurses := true, plainKeys := false, apart := false, narrowed := true }
def LinearFirstUptoSaid : Prop := linearFirstUptoRow.holds Try.pinned (OpenSpec.upto linearFirstSpec)

/-- 'sherdlaw20.LinearRight', WHERE WHAT IT READS IS OF BULK AT MOST 1048576: true; the input reads as it did. -/
def linearRightUptoRow : OpenClaim := { program := "ythdkbbpiaeaojaa", sum := "791d73947fcae03af5dac88394aabe1a190f695886709c15243761b93e378a7d", func := "sherd/sherdlaw20.LinearRight", spec := "linearRight", recurses := true, plainKeys := false, apart := false, narrowed := true }
def LinearRightUptoSaid : Prop := linearRightUptoRow.holds Try.pinned (OpenSpec.upto linearRightSpec)

/-- 'sherdlaw20.LinearLess', WHERE WHAT IT READS IS OF BULK AT MOST 1048576: true; the input reads as it did. -/
def linearLessUptoRow : OpenClaim := { program := "ythdkbbpiaeaojaa", sum := "791d73947fcae03af5dac88394aabe1a190f695886709c15243761b93e378a7d", func := "sherd/sherdlaw20.LinearLess", spec := "linearLess", recurses := true, plainKeys := false, apart := false, narrowed := true }
def LinearLessUptoSaid : Prop := linearLessUptoRow.holds Try.pinned (OpenSpec.upto linearLessSpec)

/-- 'sherdlaw09.QuorumMeets', WHERE WHAT IT READS IS OF BULK AT MOST 1048576: true; the input reads as it did. -/
def quorumMeetsUptoRow : OpenClaim := { program := "ythdkbbpiaeaojaa", sum := "791d73947fcae03af5dac88394aabe1a190f695886709c15243761b93e378a7d", func := "sherd/sherdlaw09.QuorumMeets", spec := "quorumMeets", unfollowed := true, recurses := true, plainKeys := false, apart := false, narrowed := true }
def QuorumMeetsUptoSaid : Prop := quorumMeetsUptoRow.holds Try.pinned (OpenSpec.upto quorumMeetsSpec)

/-- 'sherdlaw09.QuorumConfigs', WHERE WHAT IT READS IS OF BULK AT MOST 1048576: true; the input reads as it did. -/
def quorumConfigsUptoRow : OpenClaim := { program := "ythdkbbpiaeaojaa", sum := "791d73947fcae03af5dac88394aabe1a190f695886709c15243761b93e378a7d", func := "sherd/sherdlaw09.QuorumConfigs", spec := "quorumConfigs", unfollowed := true, recurses := true, plainKeys := false, apart := false, narrowed := true }
def QuorumConfigsUptoSaid : Prop := quorumConfigsUptoRow.holds Try.pinned (OpenSpec.upto quorumConfigsSpec)

/-- 'sherdlaw09.QuorumPlays', WHERE WHAT IT READS IS OF BULK AT MOST 1048576: true; the input reads as it did. -/
def quorumPlaysUptoRow : OpenClaim := { program := "ythdkbbpiaeaojaa", sum := "791d73947fcae03af5dac88394aabe1a190f695886709c15243761b93e378a7d", func := "sherd/sherdlaw09.QuorumPlays", spec := "quorumPlays", unfollowed := true, recurses := true, plainKeys := false, apart := false, narrowed := true }
def QuorumPlaysUptoSaid : Prop := quorumPlaysUptoRow.holds Try.pinned (OpenSpec.upto quorumPlaysSpec)

/-- 'sherdtop.TopSearch', WHERE WHAT IT READS IS OF BULK AT MOST 1048576: true; the input reads as it did. -/
def topSearchUptoRow : OpenClaim := { program := "ythdkbbpiaeaojaa", sum := "791d73947fcae03af5dac88394aabe1a190f695886709c15243761b93e378a7d", func := "sherd/sherdtop.TopSearch", spec := "topSearch", recurses := true, plainKeys := false, apart := false, narrowed := true }
def TopSearchUptoSaid : Prop := topSearchUptoRow.holds Try.pinned (OpenSpec.upto topSearchSpec)

/-- 'sherdlaw09.QuorumShare', WHERE WHAT IT READS IS OF BULK AT MOST 1048576: true; the input reads as it did. -/
def quorumShareUptoRow : OpenClaim := { program := "ythdkbbpiaeaojaa", sum := "791d73947fcae03af5dac88394aabe1a190f695886709c15243761b93e378a7d", func := "sherd/sherdlaw09.QuorumShare", spec := "quorumShare", unfollowed := true, recurses := true, plainKeys := false, apart := false, narrowed := true }
def QuorumShareUptoSaid : Prop := quorumShareUptoRow.holds Try.pinned (OpenSpec.upto quorumShareSpec)

/-- 'sherdlaw08.TagSets', WHERE WHAT IT READS IS OF BULK AT MOST 1048576: true; the input reads as it did. -/
def tagSetsUptoRow : OpenClaim := { program := "ythdkbbpiaeaojaa", sum := "791d73947fcae03af5dac88394aabe1a190f695886709c15243761b93e378a7d", func := "sherd/sherdlaw08.TagSets", spec := "tagSets", inPlace := ["slices.overlaps[sherd/api.Tag]"], unfollowed := true, recurses := true, plainKeys := false, apart := false, narrowed := true }
def TagSetsUptoSaid : Prop := tagSetsUptoRow.holds Try.pinned (OpenSpec.upto tagSetsSpec)

end Rows
end Go.Proofs.Ythdkbbpiaeaojaa
