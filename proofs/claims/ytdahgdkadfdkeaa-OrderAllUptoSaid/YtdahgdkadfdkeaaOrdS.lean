/- The walks of OrdS: what each function computes. -/
import Derived.Test.YtdahgdkadfdkeaaProg
import Derived.Test.YtdahgdkadfdkeaaCoreO
import Derived.Test.YtdahgdkadfdkeaaOpen
import Derived.Test.YtdahgdkadfdkeaaCoreP
namespace Go.Proofs.Ytdahgdkadfdkeaa.K
open Go Go.Proofs Go.RowKit
set_option linter.unusedVariables false
set_option linter.unusedSimpArgs false
set_option maxRecDepth 20000
set_option maxHeartbeats 4000000

structure GTag where
  Count : Int
  Client : Int
def GTag.cells (x : GTag) : List Go.Value := [.int .i64 x.Count, .int .i64 x.Client]
def GTag.val (x : GTag) : Go.Value := .agg x.cells.toArray
instance : Inhabited GTag := ⟨⟨0, 0⟩⟩
theorem GTag.len (x : GTag) : x.cells.length = 2 := rfl
structure GCall where
  Client : Int
  Op : Int
  Put : Bool
  Key : ByteArray
  Value : SlH
  Status : Int
  From : Int
  To : Int
  Open : Bool
  Tag : GTag
def GCall.cells (x : GCall) : List Go.Value := [.int .i64 x.Client, .int .i64 x.Op, .bool x.Put, .string x.Key, x.Value.v, .int .i64 x.Status, .int .i64 x.From, .int .i64 x.To, .bool x.Open, .int .i64 x.Tag.Count, .int .i64 x.Tag.Client]
def GCall.val (x : GCall) : Go.Value := .agg x.cells.toArray
instance : Inhabited GCall := ⟨⟨0, 0, false, ByteArray.empty, ⟨none, 0, 0⟩, 0, 0, 0, false, default⟩⟩
theorem GCall.len (x : GCall) : x.cells.length = 11 := rfl
end Go.Proofs.Ytdahgdkadfdkeaa.K
