/- It is proved that the law ScriptAll answers true for every input that can be read as data, and never panics; the conditions are those of the given statement: the tables that it lists hold what they hold. -/
import Derived.Test.YtbpedjefoajegaaDoorCards
import Derived.Test.YtbpedjefoajegaaDoorTie
import Derived.Deep.DeepHandedRow
import Derived.Lib.LaidTab
import Derived.Stop.LaidErr
import Derived.Test.YtbpedjefoajegaaDoorZ1
import Derived.Test.YtbpedjefoajegaaDoorZ13
namespace Go.Proofs.YtbpedjefoajegaaDoor.K
open Go Go.Proofs Go.ChangeShapes Go.WideShapes Go.ChangeAt Go.RowKit
open Go.ChangeMaps (open_string shut_string)
set_option linter.unusedVariables false
set_option linter.unusedSimpArgs false
set_option maxRecDepth 100000
def okGStep (w : World) (B : TypeId → Nat) (Bs : Nat) (x : GStep) : Prop := (Rng .i64 x.Kind) ∧ (Rng .i64 x.A) ∧ (Rng .i64 x.B) ∧ (x.Key.size ≤ Bs) ∧ (∃ l, SlD w (α := Int) (fun y => [.int .u8 y]) ((fun y => Rng .u8 y)) (B 5) x.Value l) ∧ (∃ l, SlD w (α := Int) (fun y => [.int .i64 y]) ((fun y => Rng .i64 y)) (B 3) x.L l)
theorem open_GStep {H : Type} {enc : TypeId × Value → H} {w : World} {Wt : TypeId → DataW H → Prop} {B : TypeId → Nat} {Bs : Nat} {fuel : Nat} {cs : List Value} {y : DataW H × List MemPlace} (hW : WtOk Tryd.prog Wt B Bs) (h : trodA enc Tryd.prog w fuel 31 cs = some y) (hy : Wt 31 y.1) :
    ∃ x : GStep, cs = x.cells ∧ okGStep w B Bs x := by
  obtain ⟨hl, hf⟩ := trod_struct hW (by exact Tryd.underlying31) h hy
  rw [show Tryd.prog.cellsOf 31 = 6 from by kernel_rfl] at hl
  clear h hy
  obtain ⟨c0, cs, rfl, hl0⟩ := len_succ (n := 5) hl
  obtain ⟨c1, cs, rfl, hl1⟩ := len_succ (n := 4) hl0
  obtain ⟨c2, cs, rfl, hl2⟩ := len_succ (n := 3) hl1
  obtain ⟨c3, cs, rfl, hl3⟩ := len_succ (n := 2) hl2
  obtain ⟨c4, cs, rfl, hl4⟩ := len_succ (n := 1) hl3
  obtain ⟨c5, cs, rfl, hl5⟩ := len_succ (n := 0) hl4
  obtain rfl := len_zero hl5
  obtain ⟨f0, z0, h0, w0⟩ := hf 0 _ rfl
  replace h0 : trodA enc Tryd.prog w f0 3 (List.take (Tryd.prog.cellsOf 3) (List.drop 0 [c0, c1, c2, c3, c4, c5])) = some z0 := h0
  replace w0 : Wt 3 z0.1 := w0
  rw [show List.take (Tryd.prog.cellsOf 3) (List.drop 0 [c0, c1, c2, c3, c4, c5]) = [c0] from by kernel_rfl] at h0
  obtain ⟨x0, e0, o0⟩ := trod_int (by exact Tryd.underlying3) h0
  simp only [List.cons.injEq, and_true] at e0
  obtain ⟨f1, z1, h1, w1⟩ := hf 1 _ rfl
  replace h1 : trodA enc Tryd.prog w f1 3 (List.take (Tryd.prog.cellsOf 3) (List.drop 1 [c0, c1, c2, c3, c4, c5])) = some z1 := h1
  replace w1 : Wt 3 z1.1 := w1
  rw [show List.take (Tryd.prog.cellsOf 3) (List.drop 1 [c0, c1, c2, c3, c4, c5]) = [c1] from by kernel_rfl] at h1
  obtain ⟨x1, e1, o1⟩ := trod_int (by exact Tryd.underlying3) h1
  simp only [List.cons.injEq, and_true] at e1
  obtain ⟨f2, z2, h2, w2⟩ := hf 2 _ rfl
  replace h2 : trodA enc Tryd.prog w f2 3 (List.take (Tryd.prog.cellsOf 3) (List.drop 2 [c0, c1, c2, c3, c4, c5])) = some z2 := h2
  replace w2 : Wt 3 z2.1 := w2
  rw [show List.take (Tryd.prog.cellsOf 3) (List.drop 2 [c0, c1, c2, c3, c4, c5]) = [c2] from by kernel_rfl] at h2
  obtain ⟨x2, e2, o2⟩ := trod_int (by exact Tryd.underlying3) h2
  simp only [List.cons.injEq, and_true] at e2
  obtain ⟨f3, z3, h3, w3⟩ := hf 3 _ rfl
  replace h3 : trodA enc Tryd.prog w f3 9 (List.take (Tryd.prog.cellsOf 9) (List.drop 3 [c0, c1, c2, c3, c4, c5])) = some z3 := h3
  replace w3 : Wt 9 z3.1 := w3
  rw [show List.take (Tryd.prog.cellsOf 9) (List.drop 3 [c0, c1, c2, c3, c4, c5]) = [c3] from by kernel_rfl] at h3
  obtain ⟨x3, e3, o3⟩ := trod_str hW (by exact Tryd.underlying9) h3 w3
  simp only [List.cons.injEq, and_true] at e3
  obtain ⟨f4, z4, h4, w4⟩ := hf 4 _ rfl
  replace h4 : trodA enc Tryd.prog w f4 28 (List.take (Tryd.prog.cellsOf 28) (List.drop 4 [c0, c1, c2, c3, c4, c5])) = some z4 := h4
  replace w4 : Wt 28 z4.1 := w4
  rw [show List.take (Tryd.prog.cellsOf 28) (List.drop 4 [c0, c1, c2, c3, c4, c5]) = [c4] from by kernel_rfl] at h4
  obtain ⟨x4, e4, o4⟩ := SlD.of (trod_slice (α := Int) (sz := 1) (fun y => [.int .u8 y]) ((fun y => Rng .u8 y)) hW (by exact Tryd.underlying28) (by kernel_rfl) (by exact of_decide_eq_true (by kernel_rfl)) (by decide) (fun _ => rfl) (fun fu cs y h hy => trod_int (by exact Tryd.underlying5) h) h4 w4)
  simp only [List.cons.injEq, and_true] at e4
  obtain ⟨f5, z5, h5, w5⟩ := hf 5 _ rfl
  replace h5 : trodA enc Tryd.prog w f5 29 (List.take (Tryd.prog.cellsOf 29) (List.drop 5 [c0, c1, c2, c3, c4, c5])) = some z5 := h5
  replace w5 : Wt 29 z5.1 := w5
  rw [show List.take (Tryd.prog.cellsOf 29) (List.drop 5 [c0, c1, c2, c3, c4, c5]) = [c5] from by kernel_rfl] at h5
  obtain ⟨x5, e5, o5⟩ := SlD.of (trod_slice (α := Int) (sz := 1) (fun y => [.int .i64 y]) ((fun y => Rng .i64 y)) hW (by exact Tryd.underlying29) (by kernel_rfl) (by exact of_decide_eq_true (by kernel_rfl)) (by decide) (fun _ => rfl) (fun fu cs y h hy => trod_int (by exact Tryd.underlying3) h) h5 w5)
  simp only [List.cons.injEq, and_true] at e5
  subst e0
  subst e1
  subst e2
  subst e3
  subst e4
  subst e5
  exact ⟨⟨x0, x1, x2, x3, x4, x5⟩, rfl, ⟨o0, o1, o2, o3, o4, o5⟩⟩

namespace scriptAll
theorem own : ownKnob Tryd.prog.godebug = none := by kernel_rfl
theorem laidOut : laidOutB Tryd.prog = true := by kernel_rfl
theorem errRow (u : TypeId) (h : Tryd.prog.typeName? 3 u = some "*errors.errorString") : u = 132 :=
  typeName_ptr_named (nm := "errors.errorString") (by rw [show "*" ++ "errors.errorString" = "*errors.errorString" from by decide]; kernel_rfl) (by kernel_rfl) (by decide) u (by rw [show "*" ++ "errors.errorString" = "*errors.errorString" from by decide]; exact h)
theorem tab {W : World} (h : laidMetH Tryd.prog Rows.scriptAllUptoRow.laid W) : TabP W :=
  Lib.tabIs_of_head (rest := Rows.scriptAllUptoRow.laid.drop 3) (show Tryd.prog.globalNamed "internal/strconv.uint64pow10" = some 2 by kernel_rfl) (show (Tryd.prog.globals[2]?).map (·.type) = some 115 by kernel_rfl) Tryd.underlying115 Tryd.underlying86 (show Tryd.prog.cellsOf 86 = 1 by kernel_rfl) (show Tryd.prog.cellsOf 115 = 20 by kernel_rfl)
    (show laidMet Tryd.prog (("internal/strconv.uint64pow10", Lib.tabData .u64 _) :: Rows.scriptAllUptoRow.laid.drop 3) W from by
      have h1 : laidMet Tryd.prog Rows.scriptAllUptoRow.laid W := h
      have h2 : laidMet Tryd.prog (Rows.scriptAllUptoRow.laid.drop 2) W := laidMet.tail (laidMet.tail (h1))
      have e : Rows.scriptAllUptoRow.laid.drop 2 = ("internal/strconv.uint64pow10", Lib.tabData .u64 Lib.pow10Tab) :: Rows.scriptAllUptoRow.laid.drop 3 := by kernel_rfl
      rw [e] at h2; exact h2)
theorem syn {W : World} (h : laidMetH Tryd.prog Rows.scriptAllUptoRow.laid W) : CellV 4 errV W := by
  have h1 : laidMet Tryd.prog Rows.scriptAllUptoRow.laid W := h
  have h2 : laidMet Tryd.prog (Rows.scriptAllUptoRow.laid.drop 5) W := laidMet.tail (laidMet.tail (laidMet.tail (laidMet.tail (laidMet.tail (h1)))))
  have e : Rows.scriptAllUptoRow.laid.drop 5 = ("strconv.ErrSyntax", .iface "*errors.errorString" (.ptr (.agg [.lit (.string [105, 110, 118, 97, 108, 105, 100, 32, 115, 121, 110, 116, 97, 120])]))) :: Rows.scriptAllUptoRow.laid.drop 6 := by kernel_rfl
  rw [e] at h2
  obtain ⟨a, s, hv, _, _, _⟩ := laid_sentinel h2 (show Tryd.prog.globalNamed "strconv.ErrSyntax" = some 4 by kernel_rfl) (show (Tryd.prog.globals[4]?).map (·.type) = some 50 by kernel_rfl) Tryd.underlying50 errRow Tryd.underlying132 Tryd.underlying134 rfl rfl Tryd.underlying9 (show Tryd.prog.cellsOf 134 = 1 by kernel_rfl) (show Tryd.prog.cellsOf 9 = 1 by kernel_rfl)
  exact ⟨_, World.var?_cell (show Tryd.prog.globalNamed "strconv.ErrSyntax" = some 4 by kernel_rfl) hv 0, .inr ⟨_, _, rfl⟩⟩
theorem rng {W : World} (h : laidMetH Tryd.prog Rows.scriptAllUptoRow.laid W) : CellV 5 errV W := by
  have h1 : laidMet Tryd.prog Rows.scriptAllUptoRow.laid W := h
  have h2 : laidMet Tryd.prog (Rows.scriptAllUptoRow.laid.drop 4) W := laidMet.tail (laidMet.tail (laidMet.tail (laidMet.tail (h1))))
  have e : Rows.scriptAllUptoRow.laid.drop 4 = ("strconv.ErrRange", .iface "*errors.errorString" (.ptr (.agg [.lit (.string [118, 97, 108, 117, 101, 32, 111, 117, 116, 32, 111, 102, 32, 114, 97, 110, 103, 101])]))) :: Rows.scriptAllUptoRow.laid.drop 5 := by kernel_rfl
  rw [e] at h2
  obtain ⟨a, s, hv, _, _, _⟩ := laid_sentinel h2 (show Tryd.prog.globalNamed "strconv.ErrRange" = some 5 by kernel_rfl) (show (Tryd.prog.globals[5]?).map (·.type) = some 50 by kernel_rfl) Tryd.underlying50 errRow Tryd.underlying132 Tryd.underlying134 rfl rfl Tryd.underlying9 (show Tryd.prog.cellsOf 134 = 1 by kernel_rfl) (show Tryd.prog.cellsOf 9 = 1 by kernel_rfl)
  exact ⟨_, World.var?_cell (show Tryd.prog.globalNamed "strconv.ErrRange" = some 5 by kernel_rfl) hv 0, .inr ⟨_, _, rfl⟩⟩
theorem mxl {W : World} (h : W.ShapedOpen Tryd.prog) : CellV 3 intV W := by
  obtain ⟨cs, hh, hs, hr⟩ := h.1 3 #[.int .i64 0] 3 (by decide) (by kernel_rfl)
  obtain ⟨ts, hts, _, hall⟩ := hr (by kernel_rfl)
  rw [show Tryd.prog.cellTypes Tryd.prog.depth 3 = some [3] from by kernel_rfl] at hts
  cases hts
  have h1 : 0 < cs.size := by rw [hs]; decide
  obtain ⟨u, hu, hok⟩ := hall 0 cs[0] (by simp [h1])
  have : u = 3 := by simpa using hu.symm
  subst this
  have hcell : W.cell? ⟨3, 0, none⟩ = some cs[0] := by simp [World.cell?, hh, h1]
  refine ⟨cs[0], hcell, ?_⟩
  unfold Cell.ok at hok
  rw [Tryd.underlying3] at hok
  cases hv : cs[0] <;> rw [hv] at hok <;> first | (exact ⟨_, by simp at hok; rw [← hok.1]⟩) | (obtain ⟨rfl, _⟩ := hok; exact ⟨_, rfl⟩) | simp at hok
theorem frm {W : World} (h : laidMetH Tryd.prog Rows.scriptAllUptoRow.laid W) (hS : W.ShapedOpen Tryd.prog) : (Res.row 0 formsC 57).holds W := by
  have h1 : laidMet Tryd.prog Rows.scriptAllUptoRow.laid W := h
  have h2 : laidMet Tryd.prog (Rows.scriptAllUptoRow.laid.drop 7) W := laidMet.tail (laidMet.tail (laidMet.tail (laidMet.tail (laidMet.tail (laidMet.tail (laidMet.tail (h1)))))))
  have e : Rows.scriptAllUptoRow.laid.drop 7 = ("sherd/script.forms", Rows.laid_sherd_script_forms) :: Rows.scriptAllUptoRow.laid.drop 8 := by kernel_rfl
  rw [e] at h2
  obtain ⟨ps, ⟨g', t', cs, fuel, p, q, hg', ht', hvar, hd, _, _⟩, _⟩ := h2
  obtain rfl := Option.some.inj ((show Tryd.prog.globalNamed "sherd/script.forms" = some 0 by kernel_rfl).symm.trans hg')
  obtain rfl := Option.some.inj ((show (Tryd.prog.globals[0]?).map (·.type) = some 57 by kernel_rfl).symm.trans ht')
  obtain ⟨cs2, hh, _, _⟩ := hS.1 0 #[.string ByteArray.empty, .bool false, .bool false, .bool false, .bool false, .bool false, .bool false, .string ByteArray.empty, .bool false, .bool false, .bool false, .bool false, .bool false, .bool false, .string ByteArray.empty, .bool false, .bool false, .bool false, .bool false, .bool false, .bool false, .string ByteArray.empty, .bool false, .bool false, .bool false, .bool false, .bool false, .bool false, .string ByteArray.empty, .bool false, .bool false, .bool false, .bool false, .bool false, .bool false, .string ByteArray.empty, .bool false, .bool false, .bool false, .bool false, .bool false, .bool false, .string ByteArray.empty, .bool false, .bool false, .bool false, .bool false, .bool false, .bool false, .string ByteArray.empty, .bool false, .bool false, .bool false, .bool false, .bool false, .bool false, .string ByteArray.empty, .bool false, .bool false, .bool false, .bool false, .bool false, .bool false, .string ByteArray.empty, .bool false, .bool false, .bool false, .bool false, .bool false, .bool false, .string ByteArray.empty, .bool false, .bool false, .bool false, .bool false, .bool false, .bool false, .string ByteArray.empty, .bool false, .bool false, .bool false, .bool false, .bool false, .bool false, .string ByteArray.empty, .bool false, .bool false, .bool false, .bool false, .bool false, .bool false, .string ByteArray.empty, .bool false, .bool false, .bool false, .bool false, .bool false, .bool false, .string ByteArray.empty, .bool false, .bool false, .bool false, .bool false, .bool false, .bool false, .string ByteArray.empty, .bool false, .bool false, .bool false, .bool false, .bool false, .bool false, .string ByteArray.empty, .bool false, .bool false, .bool false, .bool false, .bool false, .bool false] 57 (by decide) (by kernel_rfl)
  have hcs : cs2 = cs := by
    unfold World.var? at hvar
    rw [show Tryd.prog.globalNamed "sherd/script.forms" = some 0 by kernel_rfl] at hvar
    simp [hh] at hvar; exact hvar
  subst hcs
  have hfl := arr_cells Tryd.underlying57 Tryd.underlying56 (by kernel_rfl) (by kernel_rfl) (by kernel_rfl) (by kernel_rfl) hd
  show W.heap[0]? = some (.cells (formsC).toArray 57 (0, 0))
  rw [hh]
  have he : cs2 = (formsC).toArray := Array.ext' (hfl.trans (by kernel_rfl))
  rw [he]
theorem wds {W : World} (h : laidMetH Tryd.prog Rows.scriptAllUptoRow.laid W) (hS : W.ShapedOpen Tryd.prog) : (Res.row 1 wordsC 65).holds W := by
  have h1 : laidMet Tryd.prog Rows.scriptAllUptoRow.laid W := h
  have h2 : laidMet Tryd.prog (Rows.scriptAllUptoRow.laid.drop 6) W := laidMet.tail (laidMet.tail (laidMet.tail (laidMet.tail (laidMet.tail (laidMet.tail (h1))))))
  have e : Rows.scriptAllUptoRow.laid.drop 6 = ("sherd/sherdref24.words", Rows.laid_sherd_sherdref24_words) :: Rows.scriptAllUptoRow.laid.drop 7 := by kernel_rfl
  rw [e] at h2
  obtain ⟨ps, ⟨g', t', cs, fuel, p, q, hg', ht', hvar, hd, _, _⟩, _⟩ := h2
  obtain rfl := Option.some.inj ((show Tryd.prog.globalNamed "sherd/sherdref24.words" = some 1 by kernel_rfl).symm.trans hg')
  obtain rfl := Option.some.inj ((show (Tryd.prog.globals[1]?).map (·.type) = some 65 by kernel_rfl).symm.trans ht')
  obtain ⟨cs2, hh, _, _⟩ := hS.1 1 #[.string ByteArray.empty, .string ByteArray.empty, .string ByteArray.empty, .string ByteArray.empty, .string ByteArray.empty, .string ByteArray.empty, .string ByteArray.empty, .string ByteArray.empty, .string ByteArray.empty, .string ByteArray.empty, .string ByteArray.empty, .string ByteArray.empty, .string ByteArray.empty, .string ByteArray.empty, .string ByteArray.empty, .string ByteArray.empty, .string ByteArray.empty] 65 (by decide) (by kernel_rfl)
  have hcs : cs2 = cs := by
    unfold World.var? at hvar
    rw [show Tryd.prog.globalNamed "sherd/sherdref24.words" = some 1 by kernel_rfl] at hvar
    simp [hh] at hvar; exact hvar
  subst hcs
  have hfl := arrL_cells Tryd.underlying65 (by kernel_rfl) (by kernel_rfl) (by kernel_rfl) hd
  show W.heap[1]? = some (.cells (wordsC).toArray 65 (0, 0))
  rw [hh]
  have he : cs2 = (wordsC).toArray := Array.ext' (hfl.trans (by kernel_rfl))
  rw [he]
noncomputable def low : Nat := (World.holding Tryd.prog default ⟨#[], #[], []⟩).heap.size
noncomputable def laidWorld (os : Os) : World := { World.holding Tryd.prog os ⟨#[.cells #[.string ⟨#[118, 97, 108, 117, 101, 32, 111, 117, 116, 32, 111, 102, 32, 114, 97, 110, 103, 101]⟩] 134, .cells #[.string ⟨#[105, 110, 118, 97, 108, 105, 100, 32, 115, 121, 110, 116, 97, 120]⟩] 134], #[], []⟩ with heap := ((((((((((World.holding Tryd.prog os ⟨#[.cells #[.string ⟨#[118, 97, 108, 117, 101, 32, 111, 117, 116, 32, 111, 102, 32, 114, 97, 110, 103, 101]⟩] 134, .cells #[.string ⟨#[105, 110, 118, 97, 108, 105, 100, 32, 115, 121, 110, 116, 97, 120]⟩] 134], #[], []⟩).heap.modify 8 fun | .cells _ t frozen => .cells #[.int .u8 0, .int .u8 1, .int .u8 28, .int .u8 2, .int .u8 29, .int .u8 14, .int .u8 24, .int .u8 3, .int .u8 30, .int .u8 22, .int .u8 20, .int .u8 15, .int .u8 25, .int .u8 17, .int .u8 4, .int .u8 8, .int .u8 31, .int .u8 27, .int .u8 13, .int .u8 23, .int .u8 21, .int .u8 19, .int .u8 16, .int .u8 7, .int .u8 26, .int .u8 12, .int .u8 18, .int .u8 6, .int .u8 11, .int .u8 5, .int .u8 10, .int .u8 9] t frozen | o => o).modify 9 fun | .cells _ t frozen => .cells #[.int .u8 0, .int .u8 1, .int .u8 56, .int .u8 2, .int .u8 57, .int .u8 49, .int .u8 28, .int .u8 3, .int .u8 61, .int .u8 58, .int .u8 42, .int .u8 50, .int .u8 38, .int .u8 29, .int .u8 17, .int .u8 4, .int .u8 62, .int .u8 47, .int .u8 59, .int .u8 36, .int .u8 45, .int .u8 43, .int .u8 51, .int .u8 22, .int .u8 53, .int .u8 39, .int .u8 33, .int .u8 30, .int .u8 24, .int .u8 18, .int .u8 12, .int .u8 5, .int .u8 63, .int .u8 55, .int .u8 48, .int .u8 27, .int .u8 60, .int .u8 41, .int .u8 37, .int .u8 16, .int .u8 46, .int .u8 35, .int .u8 44, .int .u8 21, .int .u8 52, .int .u8 32, .int .u8 23, .int .u8 11, .int .u8 54, .int .u8 26, .int .u8 40, .int .u8 15, .int .u8 34, .int .u8 20, .int .u8 31, .int .u8 10, .int .u8 25, .int .u8 14, .int .u8 19, .int .u8 9, .int .u8 13, .int .u8 8, .int .u8 7, .int .u8 6] t frozen | o => o).modify 2 fun | .cells _ t frozen => .cells #[.int .u64 1, .int .u64 10, .int .u64 100, .int .u64 1000, .int .u64 10000, .int .u64 100000, .int .u64 1000000, .int .u64 10000000, .int .u64 100000000, .int .u64 1000000000, .int .u64 10000000000, .int .u64 100000000000, .int .u64 1000000000000, .int .u64 10000000000000, .int .u64 100000000000000, .int .u64 1000000000000000, .int .u64 10000000000000000, .int .u64 100000000000000000, .int .u64 1000000000000000000, .int .u64 10000000000000000000] t frozen | o => o).modify 7 fun | .cells _ t frozen => .cells #[.int .u8 128, .int .u8 191, .int .u8 160, .int .u8 191, .int .u8 128, .int .u8 159, .int .u8 144, .int .u8 191, .int .u8 128, .int .u8 143, .int .u8 0, .int .u8 0, .int .u8 0, .int .u8 0, .int .u8 0, .int .u8 0, .int .u8 0, .int .u8 0, .int .u8 0, .int .u8 0, .int .u8 0, .int .u8 0, .int .u8 0, .int .u8 0, .int .u8 0, .int .u8 0, .int .u8 0, .int .u8 0, .int .u8 0, .int .u8 0, .int .u8 0, .int .u8 0] t frozen | o => o).modify 5 fun | .cells _ t frozen => .cells #[.iface 132 (.pointer (some ⟨low + 0, 0, none⟩))] t frozen | o => o).modify 4 fun | .cells _ t frozen => .cells #[.iface 132 (.pointer (some ⟨low + 1, 0, none⟩))] t frozen | o => o).modify 1 fun | .cells _ t frozen => .cells #[.string ⟨#[]⟩, .string ⟨#[112, 117, 116]⟩, .string ⟨#[103, 101, 116]⟩, .string ⟨#[99, 97, 110, 99, 101, 108]⟩, .string ⟨#[116, 105, 99, 107]⟩, .string ⟨#[115, 116, 111, 112]⟩, .string ⟨#[100, 101, 108, 105, 118, 101, 114]⟩, .string ⟨#[100, 114, 111, 112]⟩, .string ⟨#[100, 111, 117, 98, 108, 101]⟩, .string ⟨#[98, 117, 114, 115, 116]⟩, .string ⟨#[99, 117, 116]⟩, .string ⟨#[108, 111, 115, 101]⟩, .string ⟨#[99, 114, 97, 115, 104]⟩, .string ⟨#[115, 116, 97, 114, 116]⟩, .string ⟨#[100, 105, 101]⟩, .string ⟨#[99, 111, 109, 112, 97, 99, 116]⟩, .string ⟨#[114, 111, 117, 110, 100]⟩] t frozen | o => o).modify 0 fun | .cells _ t frozen => .cells #[.string ⟨#[]⟩, .bool false, .bool false, .bool false, .bool false, .bool false, .bool false, .string ⟨#[112, 117, 116]⟩, .bool true, .bool false, .bool true, .bool true, .bool false, .bool false, .string ⟨#[103, 101, 116]⟩, .bool true, .bool false, .bool true, .bool false, .bool false, .bool false, .string ⟨#[99, 97, 110, 99, 101, 108]⟩, .bool true, .bool false, .bool false, .bool false, .bool false, .bool false, .string ⟨#[116, 105, 99, 107]⟩, .bool true, .bool false, .bool false, .bool false, .bool false, .bool false, .string ⟨#[115, 116, 111, 112]⟩, .bool true, .bool false, .bool false, .bool false, .bool false, .bool false, .string ⟨#[100, 101, 108, 105, 118, 101, 114]⟩, .bool true, .bool false, .bool false, .bool false, .bool false, .bool false, .string ⟨#[100, 114, 111, 112]⟩, .bool true, .bool false, .bool false, .bool false, .bool false, .bool false, .string ⟨#[100, 111, 117, 98, 108, 101]⟩, .bool true, .bool false, .bool false, .bool false, .bool false, .bool false, .string ⟨#[98, 117, 114, 115, 116]⟩, .bool true, .bool true, .bool false, .bool false, .bool true, .bool false, .string ⟨#[99, 117, 116]⟩, .bool true, .bool true, .bool false, .bool false, .bool false, .bool false, .string ⟨#[108, 111, 115, 101]⟩, .bool true, .bool false, .bool false, .bool false, .bool false, .bool false, .string ⟨#[99, 114, 97, 115, 104]⟩, .bool true, .bool false, .bool false, .bool false, .bool false, .bool true, .string ⟨#[115, 116, 97, 114, 116]⟩, .bool true, .bool false, .bool false, .bool false, .bool false, .bool false, .string ⟨#[100, 105, 101]⟩, .bool true, .bool true, .bool false, .bool false, .bool false, .bool true, .string ⟨#[99, 111, 109, 112, 97, 99, 116]⟩, .bool true, .bool false, .bool false, .bool false, .bool false, .bool false, .string ⟨#[114, 111, 117, 110, 100]⟩, .bool false, .bool true, .bool false, .bool false, .bool false, .bool true] t frozen | o => o).modify 6 fun | .cells _ t frozen => .cells ((Go.Pinned.utf8FirstZ.map fun (n : Nat) => Value.int .u8 (n : Int)).toArray) t frozen | o => o) }
theorem laid_met (os : Os) : laidMet Tryd.prog Rows.scriptAllUptoRow.laid ((laidWorld os).forCall (fun _ _ => 0) ⟨#[], #[.slice none 0 0, .string ByteArray.empty], []⟩).memory := laidMet_of_run' 8 (by kernel_rfl) (by kernel_rfl)
theorem reads (os : Os) {H : Type} (enc : TypeId × Value → H) : ∃ places, DataW.whole enc Tryd.prog ((laidWorld os).forCall (fun _ _ => 0) ⟨#[], #[.slice none 0 0, .string ByteArray.empty], []⟩).memory Tryd.f5.params.toList Rows.scriptAllSpec.vars false (#[.slice none 0 0, .string ByteArray.empty] : Array Value).toList 8 = some ([.nil, .lit (.string [])], [], places) := ⟨[], by kernel_rfl⟩
set_option maxRecDepth 100000 in
theorem lifted (os : Os) (started : os.Started) (H : Type) (enc : TypeId × Value → H) (F : Stop.Interp) :
    ReturnsInHanded {} Tryd.checked os 5 .any ((Rows.OpenSpec.upto Rows.scriptAllSpec).preRow enc Tryd.prog Tryd.f5 Rows.scriptAllRow.domain false Rows.scriptAllRow.laid) (((Rows.OpenSpec.upto Rows.scriptAllSpec).at F).post enc Tryd.prog Tryd.f5 false true false false) := by
  obtain ⟨places, hx⟩ := reads os enc
  refine returnsInHanded_of_row (C := Tryd.checked) (s := Rows.OpenSpec.upto Rows.scriptAllSpec) own started (by kernel_rfl) Tryd.func5
    (witness_row_at (enc := enc) (C := Tryd.checked) false (laidWorld os) #[.slice none 0 0, .string ByteArray.empty] rfl (by kernel_rfl) (by kernel_rfl) (by kernel_rfl)
      (OpenSpec.preRow_of_cond 8 hx (by kernel_rfl) (fun k hk => by cases hk; kernel_rfl) (by kernel_rfl) (laid_met os))) ?_
  intro W base args ds gs before hval0 hW _ hk0 hsz0 hL hS _
  have hk : Rows.uptoSmall H (ds ++ gs) = true := hk0 _ rfl
  have hsz : (DataW.weightsEach Tryd.prog (Tryd.f5.params.toList ++ Rows.scriptAllSpec.plain.varTypes Tryd.prog) (ds ++ gs)).all (· ≤ reachBytes) = true := hsz0
  have hval : ∀ (j : Nat) t v, Tryd.f5.params[j]? = some t → args[j]? = some v → Value.okWide Tryd.prog W .any base t v := hval0
  have hW' := hW
  obtain ⟨p, q, hA0, hV, rfl, hfz, hnd⟩ := hW
  have hA : DataW.TrodAll enc Tryd.prog W 0 (fun _ => true) true Tryd.f5.params.toList args.toList ds p := hA0
  rw [Tryd.params5] at hA hval hsz
  obtain ⟨v0, vs0, d0, ds0, p0, q0, hargs, rfl, rfl, h0, r0⟩ := trodAll_cons hA
  obtain ⟨v1, vs1, d1, ds1, p1, q1, rfl, rfl, rfl, h1, r1⟩ := trodAll_cons r0
  obtain ⟨rfl, rfl, rfl⟩ := trodAll_nil r1
  obtain rfl : args = #[v0, v1] := by cases args; simp_all
  obtain ⟨rfl, rfl⟩ := trodVars_none hV
  have hWt := wt_upto (H := H) Tryd.prog
  have k0 := h0
  have lt0 : ∀ x ∈ p0, x.block < W.heap.size := by obtain ⟨m, hm⟩ := k0; exact DataW.trod_lt m _ _ _ hm
  have u0 : WtU 22 d0 := wtu_of hk (by simp)
  obtain ⟨fu0, hf0⟩ := h0
  obtain ⟨a0, n0, c0, rfl⟩ := okWide_slice Tryd.underlying22 (hval 0 22 v0 rfl rfl)
  obtain ⟨x0, e0, l0, o0⟩ := SlD.of (trod_slice (α := GStep) (sz := 6) GStep.cells (okGStep W _ _) hWt (by exact Tryd.underlying22) (by kernel_rfl) (by exact of_decide_eq_true (by kernel_rfl)) (by decide) (fun _ => rfl) (fun fu cs y h hy => open_GStep hWt h hy) hf0 u0)
  obtain rfl : x0 = ⟨a0, n0, c0⟩ := by cases x0; simp [Value.cells, SlH.v] at e0; simp [e0]
  have k1 := h1
  have lt1 : ∀ x ∈ p1, x.block < W.heap.size := by obtain ⟨m, hm⟩ := k1; exact DataW.trod_lt m _ _ _ hm
  have u1 : WtU 9 d1 := wtu_of hk (by simp)
  obtain ⟨fu1, hf1⟩ := h1
  obtain ⟨x1, rfl, _, _, _⟩ := open_string Tryd.underlying9 (hval 1 9 v1 rfl rfl) k1
  obtain ⟨s1, e1, o1⟩ := trod_str hWt Tryd.underlying9 hf1 u1
  obtain rfl : x1 = s1 := by simpa [Value.cells] using e1
  refine (ScriptAll _ _ _ _ _ x1 o1 W ⟨⟨tab hL, syn hL, rng hL, mxl hS⟩, frm hL hS⟩ (wds hL hS) o0.len (o0.len ▸ Nat.le_trans o0.cap o0.bnd) o0.rd (inputs o0.all).1 (inputs o0.all).2.1 (inputs o0.all).2.2.1 (inputs o0.all).2.2.2).mono fun e W' hh => ?_
  obtain ⟨rfl, hfr⟩ := hh
  have bel := hfr.below
  exact ⟨_, rfl, _, _, _, [], _, [], hW', trodAll_mk1 (shut_bool Tryd.underlying4 _), (trodAll_cons_mk (Below.trod laidOut (by kernel_rfl) (of_decide_eq_true (by kernel_rfl)) k0 bel lt0) (trodAll_cons_mk (Below.trod laidOut (by kernel_rfl) (of_decide_eq_true (by kernel_rfl)) k1 bel lt1) trodAll_mk0)), rfl, bel.frame _, fun h => by cases h⟩
theorem said : Rows.ScriptAllUptoSaid :=
  OpenClaim.holds_of_cond 5 Tryd.f5 rfl rfl rfl rfl rfl rfl rfl ⟨rfl, rfl, rfl, rfl, rfl⟩ rfl rfl rfl rfl rfl (by kernel_rfl) Tryd.func5 (by kernel_rfl)
    (of_decide_eq_true (by kernel_rfl)) (by unfold Func.isWrapper; first | (rw [if_pos (by decide +kernel)]; kernel_rfl) | (rw [if_neg (by decide +kernel)]; exact ⟨rfl, rfl⟩))
    (fun os started H enc _ F => by rw [OpenClaim.pre_eq_preRow]; exact lifted os started H enc F)
theorem plain (f : FuncId) (fn : Func) (hf : Tryd.pinned.checked.prog.funcNamed "sherd/sherdlaw24.ScriptAll" = some f) (hfn : Tryd.pinned.checked.prog.funcs[f]? = some fn) :
    true = Tryd.pinned.checked.prog.looks [] ∧ ∀ (j : Nat) t, fn.params[j]? = some t → Tryd.pinned.checked.prog.wantsStandIn t = false := by
  obtain rfl : f = 5 := Option.some.inj ((show Tryd.prog.funcNamed "sherd/sherdlaw24.ScriptAll" = some 5 by kernel_rfl).symm.trans hf) |>.symm
  obtain rfl : fn = Tryd.f5 := (Option.some.inj (Tryd.func5.symm.trans hfn)).symm
  refine ⟨by kernel_rfl, fun j t ht => ?_⟩
  rw [Tryd.params5] at ht
  have hm : t ∈ [22, 9] := by simpa using Array.mem_of_getElem? ht
  have ha : ([22, 9] : List TypeId).all (fun t => !Tryd.prog.wantsStandIn t) = true := by kernel_rfl
  have := List.all_eq_true.1 ha t hm
  show Tryd.prog.wantsStandIn t = false
  simpa using this
theorem card : Rows.ScriptAllUptoCardSaid :=
  Claim7.holds_tied_plain_at .later [] _ _ _ _ said (fun _ h => by cases h) (by kernel_rfl) (fun _ h => by cases h) scriptAllUpto_row_tie rfl ⟨rfl, rfl⟩ (by kernel_rfl) rfl plain (by kernel_rfl)
#print axioms card
end scriptAll
end Go.Proofs.YtbpedjefoajegaaDoor.K
namespace Go.Proofs.YtbpedjefoajegaaDoor
/-- The law, for the claim. -/
theorem scriptAll_holds : Rows.ScriptAllUptoCardSaid := K.scriptAll.card
end Go.Proofs.YtbpedjefoajegaaDoor
