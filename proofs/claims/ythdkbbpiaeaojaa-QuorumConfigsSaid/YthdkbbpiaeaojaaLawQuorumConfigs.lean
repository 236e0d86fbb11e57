/- It is proved that the law QuorumConfigs answers true for every input that can be read as data, and never panics; the conditions are those of the given statement. -/
import Derived.Test.YthdkbbpiaeaojaaRows
import Derived.Test.YthdkbbpiaeaojaaOpen
import Derived.Test.YthdkbbpiaeaojaaWQuorumConfigs
namespace Go.Proofs.Ythdkbbpiaeaojaa.K
open Go Go.Proofs Go.ChangeShapes Go.WideShapes Go.ChangeAt Go.RowKit
open Go.ChangeMaps (open_string shut_string)
set_option linter.unusedVariables false
set_option linter.unusedSimpArgs false
def okGConfig (w : World) (B : TypeId → Nat) (Bs : Nat) (x : GConfig) : Prop := (Rng .i64 x.N) ∧ (Rng .i64 x.K) ∧ (Rng .i64 x.Delta)
theorem open_GConfig {H : Type} {enc : TypeId × Value → H} {w : World} {Wt : TypeId → DataW H → Prop} {B : TypeId → Nat} {Bs : Nat} {fuel : Nat} {cs : List Value} {y : DataW H × List MemPlace} (hW : WtOk Try.prog Wt B Bs) (h : trodA enc Try.prog w fuel 60 cs = some y) (hy : Wt 60 y.1) :
    ∃ x : GConfig, cs = x.cells ∧ okGConfig w B Bs x := by
  obtain ⟨hl, hf⟩ := trod_struct hW (by exact Try.underlying60) h hy
  rw [show Try.prog.cellsOf 60 = 3 from by kernel_rfl] at hl
  clear h hy
  obtain ⟨c0, cs, rfl, hl0⟩ := len_succ (n := 2) hl
  obtain ⟨c1, cs, rfl, hl1⟩ := len_succ (n := 1) hl0
  obtain ⟨c2, cs, rfl, hl2⟩ := len_succ (n := 0) hl1
  obtain rfl := len_zero hl2
  obtain ⟨f0, z0, h0, w0⟩ := hf 0 _ rfl
  replace h0 : trodA enc Try.prog w f0 3 (List.take (Try.prog.cellsOf 3) (List.drop 0 [c0, c1, c2])) = some z0 := h0
  replace w0 : Wt 3 z0.1 := w0
  rw [show List.take (Try.prog.cellsOf 3) (List.drop 0 [c0, c1, c2]) = [c0] from by kernel_rfl] at h0
  obtain ⟨x0, e0, o0⟩ := trod_int (by exact Try.underlying3) h0
  simp only [List.cons.injEq, and_true] at e0
  obtain ⟨f1, z1, h1, w1⟩ := hf 1 _ rfl
  replace h1 : trodA enc Try.prog w f1 3 (List.take (Try.prog.cellsOf 3) (List.drop 1 [c0, c1, c2])) = some z1 := h1
  replace w1 : Wt 3 z1.1 := w1
  rw [show List.take (Try.prog.cellsOf 3) (List.drop 1 [c0, c1, c2]) = [c1] from by kernel_rfl] at h1
  obtain ⟨x1, e1, o1⟩ := trod_int (by exact Try.underlying3) h1
  simp only [List.cons.injEq, and_true] at e1
  obtain ⟨f2, z2, h2, w2⟩ := hf 2 _ rfl
  replace h2 : trodA enc Try.prog w f2 3 (List.take (Try.prog.cellsOf 3) (List.drop 2 [c0, c1, c2])) = some z2 := h2
  replace w2 : Wt 3 z2.1 := w2
  rw [show List.take (Try.prog.cellsOf 3) (List.drop 2 [c0, c1, c2]) = [c2] from by kernel_rfl] at h2
  obtain ⟨x2, e2, o2⟩ := trod_int (by exact Try.underlying3) h2
  simp only [List.cons.injEq, and_true] at e2
  subst e0
  subst e1
  subst e2
  exact ⟨⟨x0, x1, x2⟩, rfl, ⟨o0, o1, o2⟩⟩
namespace quorumConfigs
theorem own : ownKnob Try.prog.godebug = none := by kernel_rfl
theorem laidOut : laidOutB Try.prog = true := by kernel_rfl
set_option maxRecDepth 100000 in
theorem lifted (os : Os) (started : os.Started) (H : Type) (enc : TypeId × Value → H) :
    ReturnsInHanded {} Try.checked os 10 .any (Rows.quorumConfigsSpec.pre6 enc Try.prog Try.f10 Rows.quorumConfigsRow.domain false) (Rows.quorumConfigsSpec.post enc Try.prog Try.f10 false true false false) := by
  refine returnsInHanded_of_change_sized (C := Try.checked) own started (by kernel_rfl) Try.func10
    (ChangeSpec.witness6 (enc := enc) (C := Try.checked) false ⟨#[], #[.agg #[.int .i64 0, .int .i64 0, .int .i64 0]], []⟩ 8 (by kernel_rfl) (by kernel_rfl) (by kernel_rfl) (by kernel_rfl)) ?_
  intro W base args ds gs before hval0 hW hcnd hsz0 _
  have hsz : (DataW.weightsEach Try.prog (Try.f10.params.toList ++ Rows.quorumConfigsSpec.plain.varTypes Try.prog) (ds ++ gs)).all (· ≤ reachBytes) = true := hsz0
  have hval : ∀ (j : Nat) t v, Try.f10.params[j]? = some t → args[j]? = some v → Value.okWide Try.prog W .any base t v := hval0
  have hW' := hW
  obtain ⟨p, q, hA0, hV, rfl, hfz, hnd⟩ := hW
  have hA : DataW.TrodAll enc Try.prog W 0 (fun _ => true) true Try.f10.params.toList args.toList ds p := hA0
  rw [Try.params10] at hA hval hsz
  obtain ⟨v0, vs0, d0, ds0, p0, q0, hargs, rfl, rfl, h0, r0⟩ := trodAll_cons hA
  obtain ⟨rfl, rfl, rfl⟩ := trodAll_nil r0
  obtain rfl : args = #[v0] := by cases args; simp_all
  obtain ⟨rfl, rfl⟩ := trodVars_none hV
  have hWt := wt_reach (H := H) Try.prog
  have k0 := h0
  have lt0 : ∀ x ∈ p0, x.block < W.heap.size := by obtain ⟨m, hm⟩ := k0; exact DataW.trod_lt m _ _ _ hm
  have u0 : WtR Try.prog 60 d0 := fun x hx => of_decide_eq_true (List.all_eq_true.1 hsz x (weightsEach_get 0 60 d0 rfl rfl x hx))
  obtain ⟨fu0, hf0⟩ := h0
  obtain ⟨cs0, rfl⟩ := okWide_struct Try.underlying60 (hval 0 60 v0 rfl rfl)
  obtain ⟨x0, e0, o0⟩ := open_GConfig hWt hf0 u0
  obtain rfl : cs0 = x0.cells.toArray := by apply Array.ext'; exact e0
  refine (QuorumConfigs x0 W).mono fun e W' hh => ?_
  obtain ⟨rfl, hfr⟩ := hh
  have bel := hfr.below
  exact ⟨_, rfl, _, _, _, [], _, [], hW', trodAll_mk1 (shut_bool Try.underlying4 _), (trodAll_cons_mk (Below.trod laidOut (by kernel_rfl) (of_decide_eq_true (by kernel_rfl)) k0 bel lt0) trodAll_mk0), rfl, bel.frame _, fun h => by cases h⟩
theorem over : Rows.quorumConfigsRow.holds Try.pinned (OpenSpec.ofChange Rows.quorumConfigsSpec) :=
  OpenClaim.holds_of_wide 10 Try.f10 rfl rfl rfl rfl rfl rfl rfl ⟨rfl, rfl, rfl, rfl, rfl⟩ rfl rfl rfl rfl rfl (by kernel_rfl) Try.func10 (by kernel_rfl)
    (of_decide_eq_true (by kernel_rfl)) (by unfold Func.isWrapper; first | (rw [if_pos (by decide +kernel)]; kernel_rfl) | (rw [if_neg (by decide +kernel)]; exact ⟨rfl, rfl⟩))
    (fun os started H enc _ => lifted os started H enc)
theorem proved : Rows.QuorumConfigsSaid := over
#print axioms proved
end quorumConfigs
end Go.Proofs.Ythdkbbpiaeaojaa.K
namespace Go.Proofs.Ythdkbbpiaeaojaa
/-- The law, for the claim. -/
theorem quorumConfigs_holds : Rows.QuorumConfigsSaid := K.quorumConfigs.proved
end Go.Proofs.Ythdkbbpiaeaojaa
