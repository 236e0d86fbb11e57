/- It is proved that the law PhaseLikes answers true for every input that can be read as data, and never panics; the conditions are those of the given statement: the tables that it lists hold what they hold. -/
import Derived.Test.YtgpjpcemfaignaaDoorCards
import Derived.Test.YtgpjpcemfaignaaDoorTie
import Derived.Test.YtgpjpcemfaignaaDoorOpen
import Derived.Test.YtgpjpcemfaignaaDoorWPhaseLikes
import Derived.Deep.DeepHandedRow
import Derived.Lib.LaidTab
import Derived.Stop.LaidErr
namespace Go.Proofs.YtgpjpcemfaignaaDoor.K
open Go Go.Proofs Go.ChangeShapes Go.WideShapes Go.ChangeAt Go.RowKit
open Go.ChangeMaps (open_string shut_string)
set_option linter.unusedVariables false
set_option linter.unusedSimpArgs false
def okGConfig (w : World) (B : TypeId → Nat) (Bs : Nat) (x : GConfig) : Prop := (Rng .i64 x.N) ∧ (Rng .i64 x.K) ∧ (Rng .i64 x.Delta)
theorem open_GConfig {H : Type} {enc : TypeId × Value → H} {w : World} {Wt : TypeId → DataW H → Prop} {B : TypeId → Nat} {Bs : Nat} {fuel : Nat} {cs : List Value} {y : DataW H × List MemPlace} (hW : WtOk Tryd.prog Wt B Bs) (h : trodA enc Tryd.prog w fuel 23 cs = some y) (hy : Wt 23 y.1) :
    ∃ x : GConfig, cs = x.cells ∧ okGConfig w B Bs x := by
  obtain ⟨hl, hf⟩ := trod_struct hW (by exact Tryd.underlying23) h hy
  rw [show Tryd.prog.cellsOf 23 = 3 from by kernel_rfl] at hl
  clear h hy
  obtain ⟨c0, cs, rfl, hl0⟩ := len_succ (n := 2) hl
  obtain ⟨c1, cs, rfl, hl1⟩ := len_succ (n := 1) hl0
  obtain ⟨c2, cs, rfl, hl2⟩ := len_succ (n := 0) hl1
  obtain rfl := len_zero hl2
  obtain ⟨f0, z0, h0, w0⟩ := hf 0 _ rfl
  replace h0 : trodA enc Tryd.prog w f0 3 (List.take (Tryd.prog.cellsOf 3) (List.drop 0 [c0, c1, c2])) = some z0 := h0
  replace w0 : Wt 3 z0.1 := w0
  rw [show List.take (Tryd.prog.cellsOf 3) (List.drop 0 [c0, c1, c2]) = [c0] from by kernel_rfl] at h0
  obtain ⟨x0, e0, o0⟩ := trod_int (by exact Tryd.underlying3) h0
  simp only [List.cons.injEq, and_true] at e0
  obtain ⟨f1, z1, h1, w1⟩ := hf 1 _ rfl
  replace h1 : trodA enc Tryd.prog w f1 3 (List.take (Tryd.prog.cellsOf 3) (List.drop 1 [c0, c1, c2])) = some z1 := h1
  replace w1 : Wt 3 z1.1 := w1
  rw [show List.take (Tryd.prog.cellsOf 3) (List.drop 1 [c0, c1, c2]) = [c1] from by kernel_rfl] at h1
  obtain ⟨x1, e1, o1⟩ := trod_int (by exact Tryd.underlying3) h1
  simp only [List.cons.injEq, and_true] at e1
  obtain ⟨f2, z2, h2, w2⟩ := hf 2 _ rfl
  replace h2 : trodA enc Tryd.prog w f2 3 (List.take (Tryd.prog.cellsOf 3) (List.drop 2 [c0, c1, c2])) = some z2 := h2
  replace w2 : Wt 3 z2.1 := w2
  rw [show List.take (Tryd.prog.cellsOf 3) (List.drop 2 [c0, c1, c2]) = [c2] from by kernel_rfl] at h2
  obtain ⟨x2, e2, o2⟩ := trod_int (by exact Tryd.underlying3) h2
  simp only [List.cons.injEq, and_true] at e2
  subst e0
  subst e1
  subst e2
  exact ⟨⟨x0, x1, x2⟩, rfl, ⟨o0, o1, o2⟩⟩


namespace phaseLikes
theorem own : ownKnob Tryd.prog.godebug = none := by kernel_rfl
theorem laidOut : laidOutB Tryd.prog = true := by kernel_rfl
theorem table {W : World} (h : laidMetH Tryd.prog Rows.phaseLikesRow.laid W) : TabP W :=
  Lib.tabIs_of_head (rest := Rows.phaseLikesRow.laid.drop 3) (show Tryd.prog.globalNamed "internal/strconv.uint64pow10" = some 0 by kernel_rfl) (show (Tryd.prog.globals[0]?).map (·.type) = some 76 by kernel_rfl) Tryd.underlying76 Tryd.underlying68 (show Tryd.prog.cellsOf 68 = 1 by kernel_rfl) (show Tryd.prog.cellsOf 76 = 20 by kernel_rfl)
    (show laidMet Tryd.prog (("internal/strconv.uint64pow10", Lib.tabData .u64 _) :: Rows.phaseLikesRow.laid.drop 3) W from by
      have h1 : laidMet Tryd.prog Rows.phaseLikesRow.laid W := h
      have h2 : laidMet Tryd.prog (Rows.phaseLikesRow.laid.drop 2) W := laidMet.tail (laidMet.tail (h1))
      have e : Rows.phaseLikesRow.laid.drop 2 = ("internal/strconv.uint64pow10", Lib.tabData .u64 Lib.pow10Tab) :: Rows.phaseLikesRow.laid.drop 3 := by kernel_rfl
      rw [e] at h2; exact h2)
noncomputable def laidWorld (os : Os) : World := { World.holding Tryd.prog os ⟨#[], #[], []⟩ with heap := ((((World.holding Tryd.prog os ⟨#[], #[], []⟩).heap.modify 1 fun | .cells _ t frozen => .cells #[.int .u8 0, .int .u8 1, .int .u8 28, .int .u8 2, .int .u8 29, .int .u8 14, .int .u8 24, .int .u8 3, .int .u8 30, .int .u8 22, .int .u8 20, .int .u8 15, .int .u8 25, .int .u8 17, .int .u8 4, .int .u8 8, .int .u8 31, .int .u8 27, .int .u8 13, .int .u8 23, .int .u8 21, .int .u8 19, .int .u8 16, .int .u8 7, .int .u8 26, .int .u8 12, .int .u8 18, .int .u8 6, .int .u8 11, .int .u8 5, .int .u8 10, .int .u8 9] t frozen | o => o).modify 2 fun | .cells _ t frozen => .cells #[.int .u8 0, .int .u8 1, .int .u8 56, .int .u8 2, .int .u8 57, .int .u8 49, .int .u8 28, .int .u8 3, .int .u8 61, .int .u8 58, .int .u8 42, .int .u8 50, .int .u8 38, .int .u8 29, .int .u8 17, .int .u8 4, .int .u8 62, .int .u8 47, .int .u8 59, .int .u8 36, .int .u8 45, .int .u8 43, .int .u8 51, .int .u8 22, .int .u8 53, .int .u8 39, .int .u8 33, .int .u8 30, .int .u8 24, .int .u8 18, .int .u8 12, .int .u8 5, .int .u8 63, .int .u8 55, .int .u8 48, .int .u8 27, .int .u8 60, .int .u8 41, .int .u8 37, .int .u8 16, .int .u8 46, .int .u8 35, .int .u8 44, .int .u8 21, .int .u8 52, .int .u8 32, .int .u8 23, .int .u8 11, .int .u8 54, .int .u8 26, .int .u8 40, .int .u8 15, .int .u8 34, .int .u8 20, .int .u8 31, .int .u8 10, .int .u8 25, .int .u8 14, .int .u8 19, .int .u8 9, .int .u8 13, .int .u8 8, .int .u8 7, .int .u8 6] t frozen | o => o).modify 0 fun | .cells _ t frozen => .cells #[.int .u64 1, .int .u64 10, .int .u64 100, .int .u64 1000, .int .u64 10000, .int .u64 100000, .int .u64 1000000, .int .u64 10000000, .int .u64 100000000, .int .u64 1000000000, .int .u64 10000000000, .int .u64 100000000000, .int .u64 1000000000000, .int .u64 10000000000000, .int .u64 100000000000000, .int .u64 1000000000000000, .int .u64 10000000000000000, .int .u64 100000000000000000, .int .u64 1000000000000000000, .int .u64 10000000000000000000] t frozen | o => o) }
theorem laid_met (os : Os) : laidMet Tryd.prog Rows.phaseLikesRow.laid ((laidWorld os).forCall (fun _ _ => 0) ⟨#[], #[.agg #[.int .i64 0, .int .i64 0, .int .i64 0], .slice none 0 0, .slice none 0 0], []⟩).memory := laidMet_of_run' 8 (by kernel_rfl) (by kernel_rfl)
theorem reads (os : Os) {H : Type} (enc : TypeId × Value → H) : ∃ places, DataW.whole enc Tryd.prog ((laidWorld os).forCall (fun _ _ => 0) ⟨#[], #[.agg #[.int .i64 0, .int .i64 0, .int .i64 0], .slice none 0 0, .slice none 0 0], []⟩).memory Tryd.f3.params.toList Rows.phaseLikesSpec.vars false (#[.agg #[.int .i64 0, .int .i64 0, .int .i64 0], .slice none 0 0, .slice none 0 0] : Array Value).toList 8 = some ([.agg [.lit (.int .i64 0), .lit (.int .i64 0), .lit (.int .i64 0)], .nil, .nil], [], places) := ⟨[], by kernel_rfl⟩
set_option maxRecDepth 100000 in
theorem lifted (os : Os) (started : os.Started) (H : Type) (enc : TypeId × Value → H) (F : Stop.Interp) :
    ReturnsInHanded {} Tryd.checked os 3 .any ((OpenSpec.ofChange Rows.phaseLikesSpec).preRow enc Tryd.prog Tryd.f3 Rows.phaseLikesRow.domain false Rows.phaseLikesRow.laid) (((OpenSpec.ofChange Rows.phaseLikesSpec).at F).post enc Tryd.prog Tryd.f3 false true false false) := by
  obtain ⟨places, hx⟩ := reads os enc
  refine returnsInHanded_of_row (C := Tryd.checked) (s := OpenSpec.ofChange Rows.phaseLikesSpec) own started (by kernel_rfl) Tryd.func3
    (witness_row_at (enc := enc) (C := Tryd.checked) false (laidWorld os) #[.agg #[.int .i64 0, .int .i64 0, .int .i64 0], .slice none 0 0, .slice none 0 0] rfl (by kernel_rfl) (by kernel_rfl) (by kernel_rfl)
      (OpenSpec.preRow_of_cond 8 hx (by kernel_rfl) (fun k hk => by cases hk) (by kernel_rfl) (laid_met os))) ?_
  intro W base args ds gs before hval0 hW _ _ hsz0 hL _ _
  have hsz : (DataW.weightsEach Tryd.prog (Tryd.f3.params.toList ++ Rows.phaseLikesSpec.plain.varTypes Tryd.prog) (ds ++ gs)).all (· ≤ reachBytes) = true := hsz0
  have hval : ∀ (j : Nat) t v, Tryd.f3.params[j]? = some t → args[j]? = some v → Value.okWide Tryd.prog W .any base t v := hval0
  have hW' := hW
  obtain ⟨p, q, hA0, hV, rfl, hfz, hnd⟩ := hW
  have hA : DataW.TrodAll enc Tryd.prog W 0 (fun _ => true) true Tryd.f3.params.toList args.toList ds p := hA0
  rw [Tryd.params3] at hA hval hsz
  obtain ⟨v0, vs0, d0, ds0, p0, q0, hargs, rfl, rfl, h0, r0⟩ := trodAll_cons hA
  obtain ⟨v1, vs1, d1, ds1, p1, q1, rfl, rfl, rfl, h1, r1⟩ := trodAll_cons r0
  obtain ⟨v2, vs2, d2, ds2, p2, q2, rfl, rfl, rfl, h2, r2⟩ := trodAll_cons r1
  obtain ⟨rfl, rfl, rfl⟩ := trodAll_nil r2
  obtain rfl : args = #[v0, v1, v2] := by cases args; simp_all
  obtain ⟨rfl, rfl⟩ := trodVars_none hV
  have hWt := wt_reach (H := H) Tryd.prog
  have k0 := h0
  have lt0 : ∀ x ∈ p0, x.block < W.heap.size := by obtain ⟨m, hm⟩ := k0; exact DataW.trod_lt m _ _ _ hm
  have u0 : WtR Tryd.prog 23 d0 := fun x hx => of_decide_eq_true (List.all_eq_true.1 hsz x (weightsEach_get 0 23 d0 rfl rfl x hx))
  obtain ⟨fu0, hf0⟩ := h0
  obtain ⟨cs0, rfl⟩ := okWide_struct Tryd.underlying23 (hval 0 23 v0 rfl rfl)
  obtain ⟨x0, e0, o0⟩ := open_GConfig hWt hf0 u0
  obtain rfl : cs0 = x0.cells.toArray := by apply Array.ext'; exact e0
  have k1 := h1
  have lt1 : ∀ x ∈ p1, x.block < W.heap.size := by obtain ⟨m, hm⟩ := k1; exact DataW.trod_lt m _ _ _ hm
  have u1 : WtR Tryd.prog 24 d1 := fun x hx => of_decide_eq_true (List.all_eq_true.1 hsz x (weightsEach_get 1 24 d1 rfl rfl x hx))
  obtain ⟨fu1, hf1⟩ := h1
  obtain ⟨a1, n1, c1, rfl⟩ := okWide_slice Tryd.underlying24 (hval 1 24 v1 rfl rfl)
  obtain ⟨x1, e1, l1, o1⟩ := SlD.of (trod_slice (α := Int) (sz := 1) (fun y => [.int .i64 y]) ((fun y => Rng .i64 y)) hWt (by exact Tryd.underlying24) (by kernel_rfl) (by exact of_decide_eq_true (by kernel_rfl)) (by decide) (fun _ => rfl) (fun fu cs y h hy => trod_int (by exact Tryd.underlying3) h) hf1 u1)
  obtain rfl : x1 = ⟨a1, n1, c1⟩ := by cases x1; simp [Value.cells, SlH.v] at e1; simp [e1]
  have k2 := h2
  have lt2 : ∀ x ∈ p2, x.block < W.heap.size := by obtain ⟨m, hm⟩ := k2; exact DataW.trod_lt m _ _ _ hm
  have u2 : WtR Tryd.prog 24 d2 := fun x hx => of_decide_eq_true (List.all_eq_true.1 hsz x (weightsEach_get 2 24 d2 rfl rfl x hx))
  obtain ⟨fu2, hf2⟩ := h2
  obtain ⟨a2, n2, c2, rfl⟩ := okWide_slice Tryd.underlying24 (hval 2 24 v2 rfl rfl)
  obtain ⟨x2, e2, l2, o2⟩ := SlD.of (trod_slice (α := Int) (sz := 1) (fun y => [.int .i64 y]) ((fun y => Rng .i64 y)) hWt (by exact Tryd.underlying24) (by kernel_rfl) (by exact of_decide_eq_true (by kernel_rfl)) (by decide) (fun _ => rfl) (fun fu cs y h hy => trod_int (by exact Tryd.underlying3) h) hf2 u2)
  obtain rfl : x2 = ⟨a2, n2, c2⟩ := by cases x2; simp [Value.cells, SlH.v] at e2; simp [e2]
  refine (PhaseLikes _ (of_decide_eq_true (by kernel_rfl)) _ (of_decide_eq_true (by kernel_rfl)) W (table hL) x0 (⟨a1, n1, c1⟩ : SlH) l1 o1 (⟨a2, n2, c2⟩ : SlH) l2 o2).mono fun e W' hh => ?_
  obtain ⟨rfl, hfr⟩ := hh
  have bel := hfr.below
  exact ⟨_, rfl, _, _, _, [], _, [], hW', trodAll_mk1 (shut_bool Tryd.underlying4 _), (trodAll_cons_mk (Below.trod laidOut (by kernel_rfl) (of_decide_eq_true (by kernel_rfl)) k0 bel lt0) (trodAll_cons_mk (Below.trod laidOut (by kernel_rfl) (of_decide_eq_true (by kernel_rfl)) k1 bel lt1) (trodAll_cons_mk (Below.trod laidOut (by kernel_rfl) (of_decide_eq_true (by kernel_rfl)) k2 bel lt2) trodAll_mk0))), rfl, bel.frame _, fun h => by cases h⟩
theorem said : Rows.PhaseLikesSaid :=
  OpenClaim.holds_of_cond 3 Tryd.f3 rfl rfl rfl rfl rfl rfl rfl ⟨rfl, rfl, rfl, rfl, rfl⟩ rfl rfl rfl rfl rfl (by kernel_rfl) Tryd.func3 (by kernel_rfl)
    (of_decide_eq_true (by kernel_rfl)) (by unfold Func.isWrapper; first | (rw [if_pos (by decide +kernel)]; kernel_rfl) | (rw [if_neg (by decide +kernel)]; exact ⟨rfl, rfl⟩))
    (fun os started H enc _ F => by rw [OpenClaim.pre_eq_preRow]; exact lifted os started H enc F)
theorem plain (f : FuncId) (fn : Func) (hf : Tryd.pinned.checked.prog.funcNamed "sherd/sherdlaw17.PhaseLikes" = some f) (hfn : Tryd.pinned.checked.prog.funcs[f]? = some fn) :
    false = Tryd.pinned.checked.prog.looks [] ∧ ∀ (j : Nat) t, fn.params[j]? = some t → Tryd.pinned.checked.prog.wantsStandIn t = false := by
  obtain rfl : f = 3 := Option.some.inj ((show Tryd.prog.funcNamed "sherd/sherdlaw17.PhaseLikes" = some 3 by kernel_rfl).symm.trans hf) |>.symm
  obtain rfl : fn = Tryd.f3 := (Option.some.inj (Tryd.func3.symm.trans hfn)).symm
  refine ⟨by kernel_rfl, fun j t ht => ?_⟩
  rw [Tryd.params3] at ht
  have hm : t ∈ [23, 24, 24] := by simpa using Array.mem_of_getElem? ht
  have ha : ([23, 24, 24] : List TypeId).all (fun t => !Tryd.prog.wantsStandIn t) = true := by kernel_rfl
  have := List.all_eq_true.1 ha t hm
  show Tryd.prog.wantsStandIn t = false
  simpa using this
theorem card : Rows.PhaseLikesCardSaid :=
  Claim7.holds_tied_plain_at .later [] _ _ _ _ said (fun _ h => by cases h) (by kernel_rfl) (fun _ h => by cases h) phaseLikes_row_tie rfl ⟨rfl, rfl⟩ (by kernel_rfl) rfl plain (by kernel_rfl)
#print axioms card
end phaseLikes
end Go.Proofs.YtgpjpcemfaignaaDoor.K
namespace Go.Proofs.YtgpjpcemfaignaaDoor
/-- The law, for the claim. -/
theorem phaseLikes_holds : Rows.PhaseLikesCardSaid := K.phaseLikes.card
end Go.Proofs.YtgpjpcemfaignaaDoor
