/- It is proved that the law LinearLess answers true for every input that can be read as data, and never panics; the conditions are those of the given statement. -/
import Derived.Test.YthdkbbpiaeaojaaRows
import Derived.Test.YthdkbbpiaeaojaaOpen
import Derived.Test.YthdkbbpiaeaojaaWLinearLess
namespace Go.Proofs.Ythdkbbpiaeaojaa.K
open Go Go.Proofs Go.ChangeShapes Go.WideShapes Go.ChangeAt Go.RowKit
open Go.ChangeMaps (open_string shut_string)
set_option linter.unusedVariables false
set_option linter.unusedSimpArgs false
def okGsherdlaw20_Draft (w : World) (B : TypeId → Nat) (Bs : Nat) (x : Gsherdlaw20_Draft) : Prop := (True) ∧ (Rng .i64 x.Value) ∧ (Rng .i64 x.From) ∧ (Rng .i64 x.Long) ∧ (True)
theorem open_Gsherdlaw20_Draft {H : Type} {enc : TypeId × Value → H} {w : World} {Wt : TypeId → DataW H → Prop} {B : TypeId → Nat} {Bs : Nat} {fuel : Nat} {cs : List Value} {y : DataW H × List MemPlace} (hW : WtOk Try.prog Wt B Bs) (h : trodA enc Try.prog w fuel 125 cs = some y) (hy : Wt 125 y.1) :
    ∃ x : Gsherdlaw20_Draft, cs = x.cells ∧ okGsherdlaw20_Draft w B Bs x := by
  obtain ⟨hl, hf⟩ := trod_struct hW (by exact Try.underlying125) h hy
  rw [show Try.prog.cellsOf 125 = 5 from by kernel_rfl] at hl
  clear h hy
  obtain ⟨c0, cs, rfl, hl0⟩ := len_succ (n := 4) hl
  obtain ⟨c1, cs, rfl, hl1⟩ := len_succ (n := 3) hl0
  obtain ⟨c2, cs, rfl, hl2⟩ := len_succ (n := 2) hl1
  obtain ⟨c3, cs, rfl, hl3⟩ := len_succ (n := 1) hl2
  obtain ⟨c4, cs, rfl, hl4⟩ := len_succ (n := 0) hl3
  obtain rfl := len_zero hl4
  obtain ⟨f0, z0, h0, w0⟩ := hf 0 _ rfl
  replace h0 : trodA enc Try.prog w f0 4 (List.take (Try.prog.cellsOf 4) (List.drop 0 [c0, c1, c2, c3, c4])) = some z0 := h0
  replace w0 : Wt 4 z0.1 := w0
  rw [show List.take (Try.prog.cellsOf 4) (List.drop 0 [c0, c1, c2, c3, c4]) = [c0] from by kernel_rfl] at h0
  obtain ⟨x0, e0⟩ := trod_bool (by exact Try.underlying4) h0
  simp only [List.cons.injEq, and_true] at e0
  obtain ⟨f1, z1, h1, w1⟩ := hf 1 _ rfl
  replace h1 : trodA enc Try.prog w f1 3 (List.take (Try.prog.cellsOf 3) (List.drop 1 [c0, c1, c2, c3, c4])) = some z1 := h1
  replace w1 : Wt 3 z1.1 := w1
  rw [show List.take (Try.prog.cellsOf 3) (List.drop 1 [c0, c1, c2, c3, c4]) = [c1] from by kernel_rfl] at h1
  obtain ⟨x1, e1, o1⟩ := trod_int (by exact Try.underlying3) h1
  simp only [List.cons.injEq, and_true] at e1
  obtain ⟨f2, z2, h2, w2⟩ := hf 2 _ rfl
  replace h2 : trodA enc Try.prog w f2 3 (List.take (Try.prog.cellsOf 3) (List.drop 2 [c0, c1, c2, c3, c4])) = some z2 := h2
  replace w2 : Wt 3 z2.1 := w2
  rw [show List.take (Try.prog.cellsOf 3) (List.drop 2 [c0, c1, c2, c3, c4]) = [c2] from by kernel_rfl] at h2
  obtain ⟨x2, e2, o2⟩ := trod_int (by exact Try.underlying3) h2
  simp only [List.cons.injEq, and_true] at e2
  obtain ⟨f3, z3, h3, w3⟩ := hf 3 _ rfl
  replace h3 : trodA enc Try.prog w f3 3 (List.take (Try.prog.cellsOf 3) (List.drop 3 [c0, c1, c2, c3, c4])) = some z3 := h3
  replace w3 : Wt 3 z3.1 := w3
  rw [show List.take (Try.prog.cellsOf 3) (List.drop 3 [c0, c1, c2, c3, c4]) = [c3] from by kernel_rfl] at h3
  obtain ⟨x3, e3, o3⟩ := trod_int (by exact Try.underlying3) h3
  simp only [List.cons.injEq, and_true] at e3
  obtain ⟨f4, z4, h4, w4⟩ := hf 4 _ rfl
  replace h4 : trodA enc Try.prog w f4 4 (List.take (Try.prog.cellsOf 4) (List.drop 4 [c0, c1, c2, c3, c4])) = some z4 := h4
  replace w4 : Wt 4 z4.1 := w4
  rw [show List.take (Try.prog.cellsOf 4) (List.drop 4 [c0, c1, c2, c3, c4]) = [c4] from by kernel_rfl] at h4
  obtain ⟨x4, e4⟩ := trod_bool (by exact Try.underlying4) h4
  simp only [List.cons.injEq, and_true] at e4
  subst e0
  subst e1
  subst e2
  subst e3
  subst e4
  exact ⟨⟨x0, x1, x2, x3, x4⟩, rfl, ⟨trivial, o1, o2, o3, trivial⟩⟩


namespace linearLess
theorem own : ownKnob Try.prog.godebug = none := by kernel_rfl
theorem laidOut : laidOutB Try.prog = true := by kernel_rfl
set_option maxRecDepth 100000 in
theorem lifted (os : Os) (started : os.Started) (H : Type) (enc : TypeId × Value → H) :
    ReturnsInHanded {} Try.checked os 8 .any (Rows.linearLessSpec.pre6 enc Try.prog Try.f8 Rows.linearLessRow.domain false) (Rows.linearLessSpec.post enc Try.prog Try.f8 false true false false) := by
  refine returnsInHanded_of_change_sized (C := Try.checked) own started (by kernel_rfl) Try.func8
    (ChangeSpec.witness6 (enc := enc) (C := Try.checked) false ⟨#[], #[.slice none 0 0, .int .i64 0, .int .i64 0], []⟩ 8 (by kernel_rfl) (by kernel_rfl) (by kernel_rfl) (by kernel_rfl)) ?_
  intro W base args ds gs before hval0 hW hcnd hsz0 _
  have hsz : (DataW.weightsEach Try.prog (Try.f8.params.toList ++ Rows.linearLessSpec.plain.varTypes Try.prog) (ds ++ gs)).all (· ≤ reachBytes) = true := hsz0
  have hval : ∀ (j : Nat) t v, Try.f8.params[j]? = some t → args[j]? = some v → Value.okWide Try.prog W .any base t v := hval0
  have hW' := hW
  obtain ⟨p, q, hA0, hV, rfl, hfz, hnd⟩ := hW
  have hA : DataW.TrodAll enc Try.prog W 0 (fun _ => true) true Try.f8.params.toList args.toList ds p := hA0
  rw [Try.params8] at hA hval hsz
  obtain ⟨v0, vs0, d0, ds0, p0, q0, hargs, rfl, rfl, h0, r0⟩ := trodAll_cons hA
  obtain ⟨v1, vs1, d1, ds1, p1, q1, rfl, rfl, rfl, h1, r1⟩ := trodAll_cons r0
  obtain ⟨v2, vs2, d2, ds2, p2, q2, rfl, rfl, rfl, h2, r2⟩ := trodAll_cons r1
  obtain ⟨rfl, rfl, rfl⟩ := trodAll_nil r2
  obtain rfl : args = #[v0, v1, v2] := by cases args; simp_all
  obtain ⟨rfl, rfl⟩ := trodVars_none hV
  have hWt := wt_reach (H := H) Try.prog
  have k0 := h0
  have lt0 : ∀ x ∈ p0, x.block < W.heap.size := by obtain ⟨m, hm⟩ := k0; exact DataW.trod_lt m _ _ _ hm
  have u0 : WtR Try.prog 46 d0 := fun x hx => of_decide_eq_true (List.all_eq_true.1 hsz x (weightsEach_get 0 46 d0 rfl rfl x hx))
  obtain ⟨fu0, hf0⟩ := h0
  obtain ⟨a0, n0, c0, rfl⟩ := okWide_slice Try.underlying46 (hval 0 46 v0 rfl rfl)
  obtain ⟨x0, e0, l0, o0⟩ := SlD.of (trod_slice (α := Gsherdlaw20_Draft) (sz := 5) Gsherdlaw20_Draft.cells (okGsherdlaw20_Draft W _ _) hWt (by exact Try.underlying46) (by kernel_rfl) (by exact of_decide_eq_true (by kernel_rfl)) (by decide) (fun _ => rfl) (fun fu cs y h hy => open_Gsherdlaw20_Draft hWt h hy) hf0 u0)
  obtain rfl : x0 = ⟨a0, n0, c0⟩ := by cases x0; simp [Value.cells, SlH.v] at e0; simp [e0]
  have k1 := h1
  have lt1 : ∀ x ∈ p1, x.block < W.heap.size := by obtain ⟨m, hm⟩ := k1; exact DataW.trod_lt m _ _ _ hm
  have u1 : WtR Try.prog 3 d1 := fun x hx => of_decide_eq_true (List.all_eq_true.1 hsz x (weightsEach_get 1 3 d1 rfl rfl x hx))
  obtain ⟨fu1, hf1⟩ := h1
  obtain ⟨x1, rfl, _, _, o1⟩ := open_int Try.underlying3 (hval 1 3 v1 rfl rfl) k1
  have k2 := h2
  have lt2 : ∀ x ∈ p2, x.block < W.heap.size := by obtain ⟨m, hm⟩ := k2; exact DataW.trod_lt m _ _ _ hm
  have u2 : WtR Try.prog 3 d2 := fun x hx => of_decide_eq_true (List.all_eq_true.1 hsz x (weightsEach_get 2 3 d2 rfl rfl x hx))
  obtain ⟨fu2, hf2⟩ := h2
  obtain ⟨x2, rfl, _, _, o2⟩ := open_int Try.underlying3 (hval 2 3 v2 rfl rfl) k2
  refine (LinearLess _ (of_decide_eq_true (by kernel_rfl)) x1 x2 W (⟨a0, n0, c0⟩ : SlH) l0 o0).mono fun e W' hh => ?_
  obtain ⟨rfl, hfr⟩ := hh
  have bel := hfr.below
  exact ⟨_, rfl, _, _, _, [], _, [], hW', trodAll_mk1 (shut_bool Try.underlying4 _), (trodAll_cons_mk (Below.trod laidOut (by kernel_rfl) (of_decide_eq_true (by kernel_rfl)) k0 bel lt0) (trodAll_cons_mk (Below.trod laidOut (by kernel_rfl) (of_decide_eq_true (by kernel_rfl)) k1 bel lt1) (trodAll_cons_mk (Below.trod laidOut (by kernel_rfl) (of_decide_eq_true (by kernel_rfl)) k2 bel lt2) trodAll_mk0))), rfl, bel.frame _, fun h => by cases h⟩
theorem over : Rows.linearLessRow.holds Try.pinned (OpenSpec.ofChange Rows.linearLessSpec) :=
  OpenClaim.holds_of_wide 8 Try.f8 rfl rfl rfl rfl rfl rfl rfl ⟨rfl, rfl, rfl, rfl, rfl⟩ rfl rfl rfl rfl rfl (by kernel_rfl) Try.func8 (by kernel_rfl)
    (of_decide_eq_true (by kernel_rfl)) (by unfold Func.isWrapper; first | (rw [if_pos (by decide +kernel)]; kernel_rfl) | (rw [if_neg (by decide +kernel)]; exact ⟨rfl, rfl⟩))
    (fun os started H enc _ => lifted os started H enc)
theorem proved : Rows.LinearLessSaid := over
#print axioms proved
end linearLess
end Go.Proofs.Ythdkbbpiaeaojaa.K
namespace Go.Proofs.Ythdkbbpiaeaojaa
/-- The law, for the claim. -/
theorem linearLess_holds : Rows.LinearLessSaid := K.linearLess.proved
end Go.Proofs.Ythdkbbpiaeaojaa
