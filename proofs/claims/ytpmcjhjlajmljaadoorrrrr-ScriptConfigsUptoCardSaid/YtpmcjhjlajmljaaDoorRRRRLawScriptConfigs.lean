/- It is proved that the law ScriptConfigs answers true for every input that can be read as data, and never panics; the conditions are those of the given statement: the tables that it lists hold what they hold. -/
import Derived.Test.YtpmcjhjlajmljaaDoorRRRRCards
import Derived.Test.YtpmcjhjlajmljaaDoorRRRRTie
import Derived.Test.YtpmcjhjlajmljaaDoorRRRROpen
import Derived.Test.YtpmcjhjlajmljaaDoorRRRRWScriptConfigs
import Derived.Deep.DeepHandedRow
import Derived.Lib.LaidTab
import Derived.Stop.LaidErr
import Derived.Test.YtpmcjhjlajmljaaDoorRRRRUpto
namespace Go.Proofs.YtpmcjhjlajmljaaDoorRRRR.K
open Go Go.Proofs Go.ChangeShapes Go.WideShapes Go.ChangeAt Go.RowKit
open Go.ChangeMaps (open_string shut_string)
set_option linter.unusedVariables false
set_option linter.unusedSimpArgs false
set_option maxRecDepth 100000
def okGConfig (w : World) (B : TypeId → Nat) (Bs : Nat) (x : GConfig) : Prop := (Rng .i64 x.N) ∧ (Rng .i64 x.K) ∧ (Rng .i64 x.Delta)
theorem open_GConfig {H : Type} {enc : TypeId × Value → H} {w : World} {Wt : TypeId → DataW H → Prop} {B : TypeId → Nat} {Bs : Nat} {fuel : Nat} {cs : List Value} {y : DataW H × List MemPlace} (hW : WtOk Tryd.prog Wt B Bs) (h : trodA enc Tryd.prog w fuel 40 cs = some y) (hy : Wt 40 y.1) :
    ∃ x : GConfig, cs = x.cells ∧ okGConfig w B Bs x := by
  obtain ⟨hl, hf⟩ := trod_struct hW (by exact Tryd.underlying40) h hy
  rw [show Tryd.prog.cellsOf 40 = 3 from by kernel_rfl] at hl
  clear h hy
  obtain ⟨c0, cs, rfl, hl0⟩ := len_succ (n := 2) hl
  obtain ⟨c1, cs, rfl, hl1⟩ := len_succ (n := 1) hl0
  obtain ⟨c2, cs, rfl, hl2⟩ := len_succ (n := 0) hl1
  obtain rfl := len_zero hl2
  obtain ⟨f0, z0, h0, w0⟩ := hf 0 _ rfl
  replace h0 : trodA enc Tryd.prog w f0 3 (List.take (Tryd.prog.cellsOf 3) (List.drop 0 [c0, c1, c2])) = some z0 := h0
  replace w0 : Wt 3 z0.1 := w0
  rw [show List.take (Tryd.prog.cellsOf 3) (List.drop 0 [c0, c1, c2]) = [c0] from by kernel_rfl] at h0
  obtain ⟨x0, e0, o0⟩ := trod_int (by exact Tryd.underlying3) h0
  simp only [List.cons.injEq, and_true] at e0
  obtain ⟨f1, z1, h1, w1⟩ := hf 1 _ rfl
  replace h1 : trodA enc Tryd.prog w f1 3 (List.take (Tryd.prog.cellsOf 3) (List.drop 1 [c0, c1, c2])) = some z1 := h1
  replace w1 : Wt 3 z1.1 := w1
  rw [show List.take (Tryd.prog.cellsOf 3) (List.drop 1 [c0, c1, c2]) = [c1] from by kernel_rfl] at h1
  obtain ⟨x1, e1, o1⟩ := trod_int (by exact Tryd.underlying3) h1
  simp only [List.cons.injEq, and_true] at e1
  obtain ⟨f2, z2, h2, w2⟩ := hf 2 _ rfl
  replace h2 : trodA enc Tryd.prog w f2 3 (List.take (Tryd.prog.cellsOf 3) (List.drop 2 [c0, c1, c2])) = some z2 := h2
  replace w2 : Wt 3 z2.1 := w2
  rw [show List.take (Tryd.prog.cellsOf 3) (List.drop 2 [c0, c1, c2]) = [c2] from by kernel_rfl] at h2
  obtain ⟨x2, e2, o2⟩ := trod_int (by exact Tryd.underlying3) h2
  simp only [List.cons.injEq, and_true] at e2
  subst e0
  subst e1
  subst e2
  exact ⟨⟨x0, x1, x2⟩, rfl, ⟨o0, o1, o2⟩⟩


namespace scriptConfigs
theorem own : ownKnob Tryd.prog.godebug = none := by kernel_rfl
theorem laidOut : laidOutB Tryd.prog = true := by kernel_rfl
theorem errRow (u : TypeId) (h : Tryd.prog.typeName? 3 u = some "*errors.errorString") : u = 140 :=
  typeName_ptr_named (nm := "errors.errorString") (by rw [show "*" ++ "errors.errorString" = "*errors.errorString" from by decide]; kernel_rfl) (by kernel_rfl) (by decide) u (by rw [show "*" ++ "errors.errorString" = "*errors.errorString" from by decide]; exact h)
theorem tab {W : World} (h : laidMetH Tryd.prog Rows.scriptConfigsUptoRow.laid W) : TabP W :=
  Lib.tabIs_of_head (rest := Rows.scriptConfigsUptoRow.laid.drop 3) (show Tryd.prog.globalNamed "internal/strconv.uint64pow10" = some 1 by kernel_rfl) (show (Tryd.prog.globals[1]?).map (·.type) = some 124 by kernel_rfl) Tryd.underlying124 Tryd.underlying103 (show Tryd.prog.cellsOf 103 = 1 by kernel_rfl) (show Tryd.prog.cellsOf 124 = 20 by kernel_rfl)
    (show laidMet Tryd.prog (("internal/strconv.uint64pow10", Lib.tabData .u64 _) :: Rows.scriptConfigsUptoRow.laid.drop 3) W from by
      have h1 : laidMet Tryd.prog Rows.scriptConfigsUptoRow.laid W := h
      have h2 : laidMet Tryd.prog (Rows.scriptConfigsUptoRow.laid.drop 2) W := laidMet.tail (laidMet.tail (h1))
      have e : Rows.scriptConfigsUptoRow.laid.drop 2 = ("internal/strconv.uint64pow10", Lib.tabData .u64 Lib.pow10Tab) :: Rows.scriptConfigsUptoRow.laid.drop 3 := by kernel_rfl
      rw [e] at h2; exact h2)
theorem syn {W : World} (h : laidMetH Tryd.prog Rows.scriptConfigsUptoRow.laid W) : CellV 3 errV W := by
  have h1 : laidMet Tryd.prog Rows.scriptConfigsUptoRow.laid W := h
  have h2 : laidMet Tryd.prog (Rows.scriptConfigsUptoRow.laid.drop 5) W := laidMet.tail (laidMet.tail (laidMet.tail (laidMet.tail (laidMet.tail (h1)))))
  have e : Rows.scriptConfigsUptoRow.laid.drop 5 = ("strconv.ErrSyntax", .iface "*errors.errorString" (.ptr (.agg [.lit (.string [105, 110, 118, 97, 108, 105, 100, 32, 115, 121, 110, 116, 97, 120])]))) :: Rows.scriptConfigsUptoRow.laid.drop 6 := by kernel_rfl
  rw [e] at h2
  obtain ⟨a, s, hv, _, _, _⟩ := laid_sentinel h2 (show Tryd.prog.globalNamed "strconv.ErrSyntax" = some 3 by kernel_rfl) (show (Tryd.prog.globals[3]?).map (·.type) = some 65 by kernel_rfl) Tryd.underlying65 errRow Tryd.underlying140 Tryd.underlying142 rfl rfl Tryd.underlying9 (show Tryd.prog.cellsOf 142 = 1 by kernel_rfl) (show Tryd.prog.cellsOf 9 = 1 by kernel_rfl)
  exact ⟨_, World.var?_cell (show Tryd.prog.globalNamed "strconv.ErrSyntax" = some 3 by kernel_rfl) hv 0, .inr ⟨_, _, rfl⟩⟩
theorem rng {W : World} (h : laidMetH Tryd.prog Rows.scriptConfigsUptoRow.laid W) : CellV 4 errV W := by
  have h1 : laidMet Tryd.prog Rows.scriptConfigsUptoRow.laid W := h
  have h2 : laidMet Tryd.prog (Rows.scriptConfigsUptoRow.laid.drop 4) W := laidMet.tail (laidMet.tail (laidMet.tail (laidMet.tail (h1))))
  have e : Rows.scriptConfigsUptoRow.laid.drop 4 = ("strconv.ErrRange", .iface "*errors.errorString" (.ptr (.agg [.lit (.string [118, 97, 108, 117, 101, 32, 111, 117, 116, 32, 111, 102, 32, 114, 97, 110, 103, 101])]))) :: Rows.scriptConfigsUptoRow.laid.drop 5 := by kernel_rfl
  rw [e] at h2
  obtain ⟨a, s, hv, _, _, _⟩ := laid_sentinel h2 (show Tryd.prog.globalNamed "strconv.ErrRange" = some 4 by kernel_rfl) (show (Tryd.prog.globals[4]?).map (·.type) = some 65 by kernel_rfl) Tryd.underlying65 errRow Tryd.underlying140 Tryd.underlying142 rfl rfl Tryd.underlying9 (show Tryd.prog.cellsOf 142 = 1 by kernel_rfl) (show Tryd.prog.cellsOf 9 = 1 by kernel_rfl)
  exact ⟨_, World.var?_cell (show Tryd.prog.globalNamed "strconv.ErrRange" = some 4 by kernel_rfl) hv 0, .inr ⟨_, _, rfl⟩⟩
theorem mxl {W : World} (h : W.ShapedOpen Tryd.prog) : CellV 2 intV W := by
  obtain ⟨cs, hh, hs, hr⟩ := h.1 2 #[.int .i64 0] 3 (by decide) (by kernel_rfl)
  obtain ⟨ts, hts, _, hall⟩ := hr (by kernel_rfl)
  rw [show Tryd.prog.cellTypes Tryd.prog.depth 3 = some [3] from by kernel_rfl] at hts
  cases hts
  have h1 : 0 < cs.size := by rw [hs]; decide
  obtain ⟨u, hu, hok⟩ := hall 0 cs[0] (by simp [h1])
  have : u = 3 := by simpa using hu.symm
  subst this
  have hcell : W.cell? ⟨2, 0, none⟩ = some cs[0] := by simp [World.cell?, hh, h1]
  refine ⟨cs[0], hcell, ?_⟩
  unfold Cell.ok at hok
  rw [Tryd.underlying3] at hok
  cases hv : cs[0] <;> rw [hv] at hok <;> first | (exact ⟨_, by simp at hok; rw [← hok.1]⟩) | (obtain ⟨rfl, _⟩ := hok; exact ⟨_, rfl⟩) | simp at hok
noncomputable def low : Nat := (World.holding Tryd.prog default ⟨#[], #[], []⟩).heap.size
noncomputable def laidWorld (os : Os) : World := { World.holding Tryd.prog os ⟨#[.cells #[.string ⟨#[118, 97, 108, 117, 101, 32, 111, 117, 116, 32, 111, 102, 32, 114, 97, 110, 103, 101]⟩] 142, .cells #[.string ⟨#[105, 110, 118, 97, 108, 105, 100, 32, 115, 121, 110, 116, 97, 120]⟩] 142], #[], []⟩ with heap := ((((((((World.holding Tryd.prog os ⟨#[.cells #[.string ⟨#[118, 97, 108, 117, 101, 32, 111, 117, 116, 32, 111, 102, 32, 114, 97, 110, 103, 101]⟩] 142, .cells #[.string ⟨#[105, 110, 118, 97, 108, 105, 100, 32, 115, 121, 110, 116, 97, 120]⟩] 142], #[], []⟩).heap.modify 5 fun | .cells _ t frozen => .cells #[.int .u8 0, .int .u8 1, .int .u8 28, .int .u8 2, .int .u8 29, .int .u8 14, .int .u8 24, .int .u8 3, .int .u8 30, .int .u8 22, .int .u8 20, .int .u8 15, .int .u8 25, .int .u8 17, .int .u8 4, .int .u8 8, .int .u8 31, .int .u8 27, .int .u8 13, .int .u8 23, .int .u8 21, .int .u8 19, .int .u8 16, .int .u8 7, .int .u8 26, .int .u8 12, .int .u8 18, .int .u8 6, .int .u8 11, .int .u8 5, .int .u8 10, .int .u8 9] t frozen | o => o).modify 6 fun | .cells _ t frozen => .cells #[.int .u8 0, .int .u8 1, .int .u8 56, .int .u8 2, .int .u8 57, .int .u8 49, .int .u8 28, .int .u8 3, .int .u8 61, .int .u8 58, .int .u8 42, .int .u8 50, .int .u8 38, .int .u8 29, .int .u8 17, .int .u8 4, .int .u8 62, .int .u8 47, .int .u8 59, .int .u8 36, .int .u8 45, .int .u8 43, .int .u8 51, .int .u8 22, .int .u8 53, .int .u8 39, .int .u8 33, .int .u8 30, .int .u8 24, .int .u8 18, .int .u8 12, .int .u8 5, .int .u8 63, .int .u8 55, .int .u8 48, .int .u8 27, .int .u8 60, .int .u8 41, .int .u8 37, .int .u8 16, .int .u8 46, .int .u8 35, .int .u8 44, .int .u8 21, .int .u8 52, .int .u8 32, .int .u8 23, .int .u8 11, .int .u8 54, .int .u8 26, .int .u8 40, .int .u8 15, .int .u8 34, .int .u8 20, .int .u8 31, .int .u8 10, .int .u8 25, .int .u8 14, .int .u8 19, .int .u8 9, .int .u8 13, .int .u8 8, .int .u8 7, .int .u8 6] t frozen | o => o).modify 1 fun | .cells _ t frozen => .cells #[.int .u64 1, .int .u64 10, .int .u64 100, .int .u64 1000, .int .u64 10000, .int .u64 100000, .int .u64 1000000, .int .u64 10000000, .int .u64 100000000, .int .u64 1000000000, .int .u64 10000000000, .int .u64 100000000000, .int .u64 1000000000000, .int .u64 10000000000000, .int .u64 100000000000000, .int .u64 1000000000000000, .int .u64 10000000000000000, .int .u64 100000000000000000, .int .u64 1000000000000000000, .int .u64 10000000000000000000] t frozen | o => o).modify 8 fun | .cells _ t frozen => .cells #[.int .u8 128, .int .u8 191, .int .u8 160, .int .u8 191, .int .u8 128, .int .u8 159, .int .u8 144, .int .u8 191, .int .u8 128, .int .u8 143, .int .u8 0, .int .u8 0, .int .u8 0, .int .u8 0, .int .u8 0, .int .u8 0, .int .u8 0, .int .u8 0, .int .u8 0, .int .u8 0, .int .u8 0, .int .u8 0, .int .u8 0, .int .u8 0, .int .u8 0, .int .u8 0, .int .u8 0, .int .u8 0, .int .u8 0, .int .u8 0, .int .u8 0, .int .u8 0] t frozen | o => o).modify 4 fun | .cells _ t frozen => .cells #[.iface 140 (.pointer (some ⟨low + 0, 0, none⟩))] t frozen | o => o).modify 3 fun | .cells _ t frozen => .cells #[.iface 140 (.pointer (some ⟨low + 1, 0, none⟩))] t frozen | o => o).modify 7 fun | .cells _ t frozen => .cells ((Go.Pinned.utf8FirstZ.map fun (n : Nat) => Value.int .u8 (n : Int)).toArray) t frozen | o => o) }
theorem laid_met (os : Os) : laidMet Tryd.prog Rows.scriptConfigsUptoRow.laid ((laidWorld os).forCall (fun _ _ => 0) ⟨#[], #[.agg #[.int .i64 0, .int .i64 0, .int .i64 0], .int .i64 0, .string ByteArray.empty], []⟩).memory := laidMet_of_run' 8 (by kernel_rfl) (by kernel_rfl)
theorem reads (os : Os) {H : Type} (enc : TypeId × Value → H) : ∃ places, DataW.whole enc Tryd.prog ((laidWorld os).forCall (fun _ _ => 0) ⟨#[], #[.agg #[.int .i64 0, .int .i64 0, .int .i64 0], .int .i64 0, .string ByteArray.empty], []⟩).memory Tryd.f5.params.toList Rows.scriptConfigsSpec.vars false (#[.agg #[.int .i64 0, .int .i64 0, .int .i64 0], .int .i64 0, .string ByteArray.empty] : Array Value).toList 8 = some ([.agg [.lit (.int .i64 0), .lit (.int .i64 0), .lit (.int .i64 0)], .lit (.int .i64 0), .lit (.string [])], [], places) := ⟨[], by kernel_rfl⟩
set_option maxRecDepth 100000 in
theorem lifted (os : Os) (started : os.Started) (H : Type) (enc : TypeId × Value → H) (F : Stop.Interp) :
    ReturnsInHanded {} Tryd.checked os 5 .any ((Rows.OpenSpec.upto Rows.scriptConfigsSpec).preRow enc Tryd.prog Tryd.f5 Rows.scriptConfigsRow.domain false Rows.scriptConfigsRow.laid) (((Rows.OpenSpec.upto Rows.scriptConfigsSpec).at F).post enc Tryd.prog Tryd.f5 false true false false) := by
  obtain ⟨places, hx⟩ := reads os enc
  refine returnsInHanded_of_row (C := Tryd.checked) (s := Rows.OpenSpec.upto Rows.scriptConfigsSpec) own started (by kernel_rfl) Tryd.func5
    (witness_row_at (enc := enc) (C := Tryd.checked) false (laidWorld os) #[.agg #[.int .i64 0, .int .i64 0, .int .i64 0], .int .i64 0, .string ByteArray.empty] rfl (by kernel_rfl) (by kernel_rfl) (by kernel_rfl)
      (OpenSpec.preRow_of_cond 8 hx (by kernel_rfl) (fun k hk => by cases hk; kernel_rfl) (by kernel_rfl) (laid_met os))) ?_
  intro W base args ds gs before hval0 hW _ hk0 hsz0 hL hS _
  have hk : Rows.uptoSmall H (ds ++ gs) = true := hk0 _ rfl
  have hsz : (DataW.weightsEach Tryd.prog (Tryd.f5.params.toList ++ Rows.scriptConfigsSpec.plain.varTypes Tryd.prog) (ds ++ gs)).all (· ≤ reachBytes) = true := hsz0
  have hval : ∀ (j : Nat) t v, Tryd.f5.params[j]? = some t → args[j]? = some v → Value.okWide Tryd.prog W .any base t v := hval0
  have hW' := hW
  obtain ⟨p, q, hA0, hV, rfl, hfz, hnd⟩ := hW
  have hA : DataW.TrodAll enc Tryd.prog W 0 (fun _ => true) true Tryd.f5.params.toList args.toList ds p := hA0
  rw [Tryd.params5] at hA hval hsz
  obtain ⟨v0, vs0, d0, ds0, p0, q0, hargs, rfl, rfl, h0, r0⟩ := trodAll_cons hA
  obtain ⟨v1, vs1, d1, ds1, p1, q1, rfl, rfl, rfl, h1, r1⟩ := trodAll_cons r0
  obtain ⟨v2, vs2, d2, ds2, p2, q2, rfl, rfl, rfl, h2, r2⟩ := trodAll_cons r1
  obtain ⟨rfl, rfl, rfl⟩ := trodAll_nil r2
  obtain rfl : args = #[v0, v1, v2] := by cases args; simp_all
  obtain ⟨rfl, rfl⟩ := trodVars_none hV
  have hWt := wt_upto (H := H) Tryd.prog
  have k0 := h0
  have lt0 : ∀ x ∈ p0, x.block < W.heap.size := by obtain ⟨m, hm⟩ := k0; exact DataW.trod_lt m _ _ _ hm
  have u0 : WtU 40 d0 := wtu_of hk (by simp)
  obtain ⟨fu0, hf0⟩ := h0
  obtain ⟨cs0, rfl⟩ := okWide_struct Tryd.underlying40 (hval 0 40 v0 rfl rfl)
  obtain ⟨x0, e0, o0⟩ := open_GConfig hWt hf0 u0
  obtain rfl : cs0 = x0.cells.toArray := by apply Array.ext'; exact e0
  have k1 := h1
  have lt1 : ∀ x ∈ p1, x.block < W.heap.size := by obtain ⟨m, hm⟩ := k1; exact DataW.trod_lt m _ _ _ hm
  have u1 : WtU 3 d1 := wtu_of hk (by simp)
  obtain ⟨fu1, hf1⟩ := h1
  obtain ⟨x1, rfl, _, _, o1⟩ := open_int Tryd.underlying3 (hval 1 3 v1 rfl rfl) k1
  have k2 := h2
  have lt2 : ∀ x ∈ p2, x.block < W.heap.size := by obtain ⟨m, hm⟩ := k2; exact DataW.trod_lt m _ _ _ hm
  have u2 : WtU 9 d2 := wtu_of hk (by simp)
  obtain ⟨fu2, hf2⟩ := h2
  obtain ⟨x2, rfl, _, _, _⟩ := open_string Tryd.underlying9 (hval 2 9 v2 rfl rfl) k2
  obtain ⟨s2, e2, o2⟩ := trod_str hWt Tryd.underlying9 hf2 u2
  obtain rfl : x2 = s2 := by simpa [Value.cells] using e2
  refine (ScriptConfigs x0 x1 x2 o2 W ⟨tab hL, syn hL, rng hL, mxl hS⟩).mono fun e W' hh => ?_
  obtain ⟨rfl, hfr⟩ := hh
  have bel := hfr.below
  exact ⟨_, rfl, _, _, _, [], _, [], hW', trodAll_mk1 (shut_bool Tryd.underlying4 _), (trodAll_cons_mk (Below.trod laidOut (by kernel_rfl) (of_decide_eq_true (by kernel_rfl)) k0 bel lt0) (trodAll_cons_mk (Below.trod laidOut (by kernel_rfl) (of_decide_eq_true (by kernel_rfl)) k1 bel lt1) (trodAll_cons_mk (Below.trod laidOut (by kernel_rfl) (of_decide_eq_true (by kernel_rfl)) k2 bel lt2) trodAll_mk0))), rfl, bel.frame _, fun h => by cases h⟩
theorem said : Rows.ScriptConfigsUptoSaid :=
  OpenClaim.holds_of_cond 5 Tryd.f5 rfl rfl rfl rfl rfl rfl rfl ⟨rfl, rfl, rfl, rfl, rfl⟩ rfl rfl rfl rfl rfl (by kernel_rfl) Tryd.func5 (by kernel_rfl)
    (of_decide_eq_true (by kernel_rfl)) (by unfold Func.isWrapper; first | (rw [if_pos (by decide +kernel)]; kernel_rfl) | (rw [if_neg (by decide +kernel)]; exact ⟨rfl, rfl⟩))
    (fun os started H enc _ F => by rw [OpenClaim.pre_eq_preRow]; exact lifted os started H enc F)
theorem plain (f : FuncId) (fn : Func) (hf : Tryd.pinned.checked.prog.funcNamed "sherd/sherdlaw24.ScriptConfigs" = some f) (hfn : Tryd.pinned.checked.prog.funcs[f]? = some fn) :
    true = Tryd.pinned.checked.prog.looks [] ∧ ∀ (j : Nat) t, fn.params[j]? = some t → Tryd.pinned.checked.prog.wantsStandIn t = false := by
  obtain rfl : f = 5 := Option.some.inj ((show Tryd.prog.funcNamed "sherd/sherdlaw24.ScriptConfigs" = some 5 by kernel_rfl).symm.trans hf) |>.symm
  obtain rfl : fn = Tryd.f5 := (Option.some.inj (Tryd.func5.symm.trans hfn)).symm
  refine ⟨by kernel_rfl, fun j t ht => ?_⟩
  rw [Tryd.params5] at ht
  have hm : t ∈ [40, 3, 9] := by simpa using Array.mem_of_getElem? ht
  have ha : ([40, 3, 9] : List TypeId).all (fun t => !Tryd.prog.wantsStandIn t) = true := by kernel_rfl
  have := List.all_eq_true.1 ha t hm
  show Tryd.prog.wantsStandIn t = false
  simpa using this
theorem card : Rows.ScriptConfigsUptoCardSaid :=
  Claim7.holds_tied_plain_at .later [] _ _ _ _ said (fun _ h => by cases h) (by kernel_rfl) (fun _ h => by cases h) scriptConfigsUpto_row_tie rfl ⟨rfl, rfl⟩ (by kernel_rfl) rfl plain (by kernel_rfl)
#print axioms card
end scriptConfigs
end Go.Proofs.YtpmcjhjlajmljaaDoorRRRR.K
namespace Go.Proofs.YtpmcjhjlajmljaaDoorRRRR
/-- The law, for the claim. -/
theorem scriptConfigs_holds : Rows.ScriptConfigsUptoCardSaid := K.scriptConfigs.card
end Go.Proofs.YtpmcjhjlajmljaaDoorRRRR
