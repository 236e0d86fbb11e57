/- The walks of ScrT: what each function computes. -/
import Derived.Test.YtbpedjefoajegaaDoorProg
import Derived.Test.YtbpedjefoajegaaDoorCoreO
import Derived.Test.YtbpedjefoajegaaDoorStcS
namespace Go.Proofs.YtbpedjefoajegaaDoor.K
open Go Go.Proofs Go.RowKit
set_option linter.unusedVariables false
set_option linter.unusedSimpArgs false
set_option maxRecDepth 20000
set_option maxHeartbeats 4000000

structure GStep where
  Kind : Int
  A : Int
  B : Int
  Key : ByteArray
  Value : SlH
  L : SlH
def GStep.cells (x : GStep) : List Go.Value := [.int .i64 x.Kind, .int .i64 x.A, .int .i64 x.B, .string x.Key, x.Value.v, x.L.v]
def GStep.val (x : GStep) : Go.Value := .agg x.cells.toArray
instance : Inhabited GStep := ⟨⟨0, 0, 0, ByteArray.empty, ⟨none, 0, 0⟩, ⟨none, 0, 0⟩⟩⟩
theorem GStep.len (x : GStep) : x.cells.length = 6 := rfl
structure Gscript_form where
  word : ByteArray
  a : Bool
  b : Bool
  key : Bool
  value : Bool
  pattern : Bool
  list : Bool
def Gscript_form.cells (x : Gscript_form) : List Go.Value := [.string x.word, .bool x.a, .bool x.b, .bool x.key, .bool x.value, .bool x.pattern, .bool x.list]
def Gscript_form.val (x : Gscript_form) : Go.Value := .agg x.cells.toArray
instance : Inhabited Gscript_form := ⟨⟨ByteArray.empty, false, false, false, false, false, false⟩⟩
theorem Gscript_form.len (x : Gscript_form) : x.cells.length = 7 := rfl
def formsC : List Go.Value := [.string ⟨#[]⟩, .bool false, .bool false, .bool false, .bool false, .bool false, .bool false, .string ⟨#[112, 117, 116]⟩, .bool true, .bool false, .bool true, .bool true, .bool false, .bool false, .string ⟨#[103, 101, 116]⟩, .bool true, .bool false, .bool true, .bool false, .bool false, .bool false, .string ⟨#[99, 97, 110, 99, 101, 108]⟩, .bool true, .bool false, .bool false, .bool false, .bool false, .bool false, .string ⟨#[116, 105, 99, 107]⟩, .bool true, .bool false, .bool false, .bool false, .bool false, .bool false, .string ⟨#[115, 116, 111, 112]⟩, .bool true, .bool false, .bool false, .bool false, .bool false, .bool false, .string ⟨#[100, 101, 108, 105, 118, 101, 114]⟩, .bool true, .bool false, .bool false, .bool false, .bool false, .bool false, .string ⟨#[100, 114, 111, 112]⟩, .bool true, .bool false, .bool false, .bool false, .bool false, .bool false, .string ⟨#[100, 111, 117, 98, 108, 101]⟩, .bool true, .bool false, .bool false, .bool false, .bool false, .bool false, .string ⟨#[98, 117, 114, 115, 116]⟩, .bool true, .bool true, .bool false, .bool false, .bool true, .bool false, .string ⟨#[99, 117, 116]⟩, .bool true, .bool true, .bool false, .bool false, .bool false, .bool false, .string ⟨#[108, 111, 115, 101]⟩, .bool true, .bool false, .bool false, .bool false, .bool false, .bool false, .string ⟨#[99, 114, 97, 115, 104]⟩, .bool true, .bool false, .bool false, .bool false, .bool false, .bool true, .string ⟨#[115, 116, 97, 114, 116]⟩, .bool true, .bool false, .bool false, .bool false, .bool false, .bool false, .string ⟨#[100, 105, 101]⟩, .bool true, .bool true, .bool false, .bool false, .bool false, .bool true, .string ⟨#[99, 111, 109, 112, 97, 99, 116]⟩, .bool true, .bool false, .bool false, .bool false, .bool false, .bool false, .string ⟨#[114, 111, 117, 110, 100]⟩, .bool false, .bool true, .bool false, .bool false, .bool false, .bool true]
structure LibS (w : World) : Prop where
  lib : LibP w
  tab : (Res.row 0 formsC 57).holds w
theorem row_at {w w' : World} {b : Nat} {c : List Go.Value} {t : TypeId} (h : (Res.row b c t).holds w) (hf : Fram Non w w') : (Res.row b c t).holds w' := (Res.row b c t).stable (fun k hk => by
  have hk : k = b := hk
  subst hk
  exact hf.block k (Array.getElem?_eq_some_iff.1 h).1 (fun q => q)) h
theorem LibS.fram {w w' : World} (h : LibS w) (hf : Fram Non w w') : LibS w' := ⟨h.lib.fram hf, row_at h.tab hf⟩
end Go.Proofs.YtbpedjefoajegaaDoor.K
