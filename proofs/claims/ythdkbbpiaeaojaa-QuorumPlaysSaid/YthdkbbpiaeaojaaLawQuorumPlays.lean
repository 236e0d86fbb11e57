/- It is proved that the law QuorumPlays answers true for every input that can be read as data, and never panics; the conditions are those of the given statement. -/
import Derived.Test.YthdkbbpiaeaojaaRows
import Derived.Test.YthdkbbpiaeaojaaOpen
import Derived.Test.YthdkbbpiaeaojaaWQuorumPlays
namespace Go.Proofs.Ythdkbbpiaeaojaa.K
open Go Go.Proofs Go.ChangeShapes Go.WideShapes Go.ChangeAt Go.RowKit
open Go.ChangeMaps (open_string shut_string)
set_option linter.unusedVariables false
set_option linter.unusedSimpArgs false
def okGConfig (w : World) (B : TypeId → Nat) (Bs : Nat) (x : GConfig) : Prop := (Rng .i64 x.N) ∧ (Rng .i64 x.K) ∧ (Rng .i64 x.Delta)
theorem open_GConfig {H : Type} {enc : TypeId × Value → H} {w : World} {Wt : TypeId → DataW H → Prop} {B : TypeId → Nat} {Bs : Nat} {fuel : Nat} {cs : List Value} {y : DataW H × List MemPlace} (hW : WtOk Try.prog Wt B Bs) (h : trodA enc Try.prog w fuel 60 cs = some y) (hy : Wt 60 y.1) :
    ∃ x : GConfig, cs = x.cells ∧ okGConfig w B Bs x := by
  obtain ⟨hl, hf⟩ := trod_struct hW (by exact Try.underlying60) h hy
  rw [show Try.prog.cellsOf 60 = 3 from by kernel_rfl] at hl
  clear h hy
  obtain ⟨c0, cs, rfl, hl0⟩ := len_succ (n := 2) hl
  obtain ⟨c1, cs, rfl, hl1⟩ := len_succ (n := 1) hl0
  obtain ⟨c2, cs, rfl, hl2⟩ := len_succ (n := 0) hl1
  obtain rfl := len_zero hl2
  obtain ⟨f0, z0, h0, w0⟩ := hf 0 _ rfl
  replace h0 : trodA enc Try.prog w f0 3 (List.take (Try.prog.cellsOf 3) (List.drop 0 [c0, c1, c2])) = some z0 := h0
  replace w0 : Wt 3 z0.1 := w0
  rw [show List.take (Try.prog.cellsOf 3) (List.drop 0 [c0, c1, c2]) = [c0] from by kernel_rfl] at h0
  obtain ⟨x0, e0, o0⟩ := trod_int (by exact Try.underlying3) h0
  simp only [List.cons.injEq, and_true] at e0
  obtain ⟨f1, z1, h1, w1⟩ := hf 1 _ rfl
  replace h1 : trodA enc Try.prog w f1 3 (List.take (Try.prog.cellsOf 3) (List.drop 1 [c0, c1, c2])) = some z1 := h1
  replace w1 : Wt 3 z1.1 := w1
  rw [show List.take (Try.prog.cellsOf 3) (List.drop 1 [c0, c1, c2]) = [c1] from by kernel_rfl] at h1
  obtain ⟨x1, e1, o1⟩ := trod_int (by exact Try.underlying3) h1
  simp only [List.cons.injEq, and_true] at e1
  obtain ⟨f2, z2, h2, w2⟩ := hf 2 _ rfl
  replace h2 : trodA enc Try.prog w f2 3 (List.take (Try.prog.cellsOf 3) (List.drop 2 [c0, c1, c2])) = some z2 := h2
  replace w2 : Wt 3 z2.1 := w2
  rw [show List.take (Try.prog.cellsOf 3) (List.drop 2 [c0, c1, c2]) = [c2] from by kernel_rfl] at h2
  obtain ⟨x2, e2, o2⟩ := trod_int (by exact Try.underlying3) h2
  simp only [List.cons.injEq, and_true] at e2
  subst e0
  subst e1
  subst e2
  exact ⟨⟨x0, x1, x2⟩, rfl, ⟨o0, o1, o2⟩⟩
def okGsherdlaw09_Op (w : World) (B : TypeId → Nat) (Bs : Nat) (x : Gsherdlaw09_Op) : Prop := (Rng .i64 x.Kind) ∧ (okGConfig w B Bs x.Config) ∧ (Rng .i64 x.I) ∧ (Rng .i64 x.J) ∧ (Rng .i64 x.N)
theorem open_Gsherdlaw09_Op {H : Type} {enc : TypeId × Value → H} {w : World} {Wt : TypeId → DataW H → Prop} {B : TypeId → Nat} {Bs : Nat} {fuel : Nat} {cs : List Value} {y : DataW H × List MemPlace} (hW : WtOk Try.prog Wt B Bs) (h : trodA enc Try.prog w fuel 82 cs = some y) (hy : Wt 82 y.1) :
    ∃ x : Gsherdlaw09_Op, cs = x.cells ∧ okGsherdlaw09_Op w B Bs x := by
  obtain ⟨hl, hf⟩ := trod_struct hW (by exact Try.underlying82) h hy
  rw [show Try.prog.cellsOf 82 = 7 from by kernel_rfl] at hl
  clear h hy
  obtain ⟨c0, cs, rfl, hl0⟩ := len_succ (n := 6) hl
  obtain ⟨c1, cs, rfl, hl1⟩ := len_succ (n := 5) hl0
  obtain ⟨c2, cs, rfl, hl2⟩ := len_succ (n := 4) hl1
  obtain ⟨c3, cs, rfl, hl3⟩ := len_succ (n := 3) hl2
  obtain ⟨c4, cs, rfl, hl4⟩ := len_succ (n := 2) hl3
  obtain ⟨c5, cs, rfl, hl5⟩ := len_succ (n := 1) hl4
  obtain ⟨c6, cs, rfl, hl6⟩ := len_succ (n := 0) hl5
  obtain rfl := len_zero hl6
  obtain ⟨f0, z0, h0, w0⟩ := hf 0 _ rfl
  replace h0 : trodA enc Try.prog w f0 3 (List.take (Try.prog.cellsOf 3) (List.drop 0 [c0, c1, c2, c3, c4, c5, c6])) = some z0 := h0
  replace w0 : Wt 3 z0.1 := w0
  rw [show List.take (Try.prog.cellsOf 3) (List.drop 0 [c0, c1, c2, c3, c4, c5, c6]) = [c0] from by kernel_rfl] at h0
  obtain ⟨x0, e0, o0⟩ := trod_int (by exact Try.underlying3) h0
  simp only [List.cons.injEq, and_true] at e0
  obtain ⟨f1, z1, h1, w1⟩ := hf 1 _ rfl
  replace h1 : trodA enc Try.prog w f1 60 (List.take (Try.prog.cellsOf 60) (List.drop 1 [c0, c1, c2, c3, c4, c5, c6])) = some z1 := h1
  replace w1 : Wt 60 z1.1 := w1
  rw [show List.take (Try.prog.cellsOf 60) (List.drop 1 [c0, c1, c2, c3, c4, c5, c6]) = [c1, c2, c3] from by kernel_rfl] at h1
  obtain ⟨x1, e1, o1⟩ := open_GConfig hW h1 w1
  simp only [GConfig.cells, List.cons.injEq, and_true] at e1
  obtain ⟨f2, z2, h2, w2⟩ := hf 2 _ rfl
  replace h2 : trodA enc Try.prog w f2 3 (List.take (Try.prog.cellsOf 3) (List.drop 4 [c0, c1, c2, c3, c4, c5, c6])) = some z2 := h2
  replace w2 : Wt 3 z2.1 := w2
  rw [show List.take (Try.prog.cellsOf 3) (List.drop 4 [c0, c1, c2, c3, c4, c5, c6]) = [c4] from by kernel_rfl] at h2
  obtain ⟨x2, e2, o2⟩ := trod_int (by exact Try.underlying3) h2
  simp only [List.cons.injEq, and_true] at e2
  obtain ⟨f3, z3, h3, w3⟩ := hf 3 _ rfl
  replace h3 : trodA enc Try.prog w f3 3 (List.take (Try.prog.cellsOf 3) (List.drop 5 [c0, c1, c2, c3, c4, c5, c6])) = some z3 := h3
  replace w3 : Wt 3 z3.1 := w3
  rw [show List.take (Try.prog.cellsOf 3) (List.drop 5 [c0, c1, c2, c3, c4, c5, c6]) = [c5] from by kernel_rfl] at h3
  obtain ⟨x3, e3, o3⟩ := trod_int (by exact Try.underlying3) h3
  simp only [List.cons.injEq, and_true] at e3
  obtain ⟨f4, z4, h4, w4⟩ := hf 4 _ rfl
  replace h4 : trodA enc Try.prog w f4 3 (List.take (Try.prog.cellsOf 3) (List.drop 6 [c0, c1, c2, c3, c4, c5, c6])) = some z4 := h4
  replace w4 : Wt 3 z4.1 := w4
  rw [show List.take (Try.prog.cellsOf 3) (List.drop 6 [c0, c1, c2, c3, c4, c5, c6]) = [c6] from by kernel_rfl] at h4
  obtain ⟨x4, e4, o4⟩ := trod_int (by exact Try.underlying3) h4
  simp only [List.cons.injEq, and_true] at e4
  subst e0
  obtain ⟨rfl, rfl, rfl⟩ := e1
  subst e2
  subst e3
  subst e4
  exact ⟨⟨x0, x1, x2, x3, x4⟩, rfl, ⟨o0, o1, o2, o3, o4⟩⟩
namespace quorumPlays
theorem own : ownKnob Try.prog.godebug = none := by kernel_rfl
theorem laidOut : laidOutB Try.prog = true := by kernel_rfl
set_option maxRecDepth 100000 in
theorem lifted (os : Os) (started : os.Started) (H : Type) (enc : TypeId × Value → H) :
    ReturnsInHanded {} Try.checked os 11 .any (Rows.quorumPlaysSpec.pre6 enc Try.prog Try.f11 Rows.quorumPlaysRow.domain false) (Rows.quorumPlaysSpec.post enc Try.prog Try.f11 false true false false) := by
  refine returnsInHanded_of_change_sized (C := Try.checked) own started (by kernel_rfl) Try.func11
    (ChangeSpec.witness6 (enc := enc) (C := Try.checked) false ⟨#[], #[.slice none 0 0], []⟩ 8 (by kernel_rfl) (by kernel_rfl) (by kernel_rfl) (by kernel_rfl)) ?_
  intro W base args ds gs before hval0 hW hcnd hsz0 _
  have hsz : (DataW.weightsEach Try.prog (Try.f11.params.toList ++ Rows.quorumPlaysSpec.plain.varTypes Try.prog) (ds ++ gs)).all (· ≤ reachBytes) = true := hsz0
  have hval : ∀ (j : Nat) t v, Try.f11.params[j]? = some t → args[j]? = some v → Value.okWide Try.prog W .any base t v := hval0
  have hW' := hW
  obtain ⟨p, q, hA0, hV, rfl, hfz, hnd⟩ := hW
  have hA : DataW.TrodAll enc Try.prog W 0 (fun _ => true) true Try.f11.params.toList args.toList ds p := hA0
  rw [Try.params11] at hA hval hsz
  obtain ⟨v0, vs0, d0, ds0, p0, q0, hargs, rfl, rfl, h0, r0⟩ := trodAll_cons hA
  obtain ⟨rfl, rfl, rfl⟩ := trodAll_nil r0
  obtain rfl : args = #[v0] := by cases args; simp_all
  obtain ⟨rfl, rfl⟩ := trodVars_none hV
  have hWt := wt_reach (H := H) Try.prog
  have k0 := h0
  have lt0 : ∀ x ∈ p0, x.block < W.heap.size := by obtain ⟨m, hm⟩ := k0; exact DataW.trod_lt m _ _ _ hm
  have u0 : WtR Try.prog 75 d0 := fun x hx => of_decide_eq_true (List.all_eq_true.1 hsz x (weightsEach_get 0 75 d0 rfl rfl x hx))
  obtain ⟨fu0, hf0⟩ := h0
  obtain ⟨a0, n0, c0, rfl⟩ := okWide_slice Try.underlying75 (hval 0 75 v0 rfl rfl)
  obtain ⟨x0, e0, l0, o0⟩ := SlD.of (trod_slice (α := Gsherdlaw09_Op) (sz := 7) Gsherdlaw09_Op.cells (okGsherdlaw09_Op W _ _) hWt (by exact Try.underlying75) (by kernel_rfl) (by exact of_decide_eq_true (by kernel_rfl)) (by decide) (fun _ => rfl) (fun fu cs y h hy => open_Gsherdlaw09_Op hWt h hy) hf0 u0)
  obtain rfl : x0 = ⟨a0, n0, c0⟩ := by cases x0; simp [Value.cells, SlH.v] at e0; simp [e0]
  refine (QuorumPlays _ (of_decide_eq_true (by kernel_rfl)) W (⟨a0, n0, c0⟩ : SlH) l0 o0).mono fun e W' hh => ?_
  obtain ⟨rfl, hfr⟩ := hh
  have bel := hfr.below
  exact ⟨_, rfl, _, _, _, [], _, [], hW', trodAll_mk1 (shut_bool Try.underlying4 _), (trodAll_cons_mk (Below.trod laidOut (by kernel_rfl) (of_decide_eq_true (by kernel_rfl)) k0 bel lt0) trodAll_mk0), rfl, bel.frame _, fun h => by cases h⟩
theorem over : Rows.quorumPlaysRow.holds Try.pinned (OpenSpec.ofChange Rows.quorumPlaysSpec) :=
  OpenClaim.holds_of_wide 11 Try.f11 rfl rfl rfl rfl rfl rfl rfl ⟨rfl, rfl, rfl, rfl, rfl⟩ rfl rfl rfl rfl rfl (by kernel_rfl) Try.func11 (by kernel_rfl)
    (of_decide_eq_true (by kernel_rfl)) (by unfold Func.isWrapper; first | (rw [if_pos (by decide +kernel)]; kernel_rfl) | (rw [if_neg (by decide +kernel)]; exact ⟨rfl, rfl⟩))
    (fun os started H enc _ => lifted os started H enc)
theorem proved : Rows.QuorumPlaysSaid := over
#print axioms proved
end quorumPlays
end Go.Proofs.Ythdkbbpiaeaojaa.K
namespace Go.Proofs.Ythdkbbpiaeaojaa
/-- The law, for the claim. -/
theorem quorumPlays_holds : Rows.QuorumPlaysSaid := K.quorumPlays.proved
end Go.Proofs.Ythdkbbpiaeaojaa
