/- It is proved that the law PhasePlays answers true for every input that can be read as data, and never panics; the conditions are those of the given statement. -/
import Derived.Test.YtgpjpcemfaignaaRows
import Derived.Test.YtgpjpcemfaignaaOpen
import Derived.Test.YtgpjpcemfaignaaWPhasePlays
namespace Go.Proofs.Ytgpjpcemfaignaa.K
open Go Go.Proofs Go.ChangeShapes Go.WideShapes Go.ChangeAt Go.RowKit
open Go.ChangeMaps (open_string shut_string)
set_option linter.unusedVariables false
set_option linter.unusedSimpArgs false
def okGConfig (w : World) (B : TypeId → Nat) (Bs : Nat) (x : GConfig) : Prop := (Rng .i64 x.N) ∧ (Rng .i64 x.K) ∧ (Rng .i64 x.Delta)
theorem open_GConfig {H : Type} {enc : TypeId × Value → H} {w : World} {Wt : TypeId → DataW H → Prop} {B : TypeId → Nat} {Bs : Nat} {fuel : Nat} {cs : List Value} {y : DataW H × List MemPlace} (hW : WtOk Try.prog Wt B Bs) (h : trodA enc Try.prog w fuel 23 cs = some y) (hy : Wt 23 y.1) :
    ∃ x : GConfig, cs = x.cells ∧ okGConfig w B Bs x := by
  obtain ⟨hl, hf⟩ := trod_struct hW (by exact Try.underlying23) h hy
  rw [show Try.prog.cellsOf 23 = 3 from by kernel_rfl] at hl
  clear h hy
  obtain ⟨c0, cs, rfl, hl0⟩ := len_succ (n := 2) hl
  obtain ⟨c1, cs, rfl, hl1⟩ := len_succ (n := 1) hl0
  obtain ⟨c2, cs, rfl, hl2⟩ := len_succ (n := 0) hl1
  obtain rfl := len_zero hl2
  obtain ⟨f0, z0, h0, w0⟩ := hf 0 _ rfl
  replace h0 : trodA enc Try.prog w f0 3 (List.take (Try.prog.cellsOf 3) (List.drop 0 [c0, c1, c2])) = some z0 := h0
  replace w0 : Wt 3 z0.1 := w0
  rw [show List.take (Try.prog.cellsOf 3) (List.drop 0 [c0, c1, c2]) = [c0] from by kernel_rfl] at h0
  obtain ⟨x0, e0, o0⟩ := trod_int (by exact Try.underlying3) h0
  simp only [List.cons.injEq, and_true] at e0
  obtain ⟨f1, z1, h1, w1⟩ := hf 1 _ rfl
  replace h1 : trodA enc Try.prog w f1 3 (List.take (Try.prog.cellsOf 3) (List.drop 1 [c0, c1, c2])) = some z1 := h1
  replace w1 : Wt 3 z1.1 := w1
  rw [show List.take (Try.prog.cellsOf 3) (List.drop 1 [c0, c1, c2]) = [c1] from by kernel_rfl] at h1
  obtain ⟨x1, e1, o1⟩ := trod_int (by exact Try.underlying3) h1
  simp only [List.cons.injEq, and_true] at e1
  obtain ⟨f2, z2, h2, w2⟩ := hf 2 _ rfl
  replace h2 : trodA enc Try.prog w f2 3 (List.take (Try.prog.cellsOf 3) (List.drop 2 [c0, c1, c2])) = some z2 := h2
  replace w2 : Wt 3 z2.1 := w2
  rw [show List.take (Try.prog.cellsOf 3) (List.drop 2 [c0, c1, c2]) = [c2] from by kernel_rfl] at h2
  obtain ⟨x2, e2, o2⟩ := trod_int (by exact Try.underlying3) h2
  simp only [List.cons.injEq, and_true] at e2
  subst e0
  subst e1
  subst e2
  exact ⟨⟨x0, x1, x2⟩, rfl, ⟨o0, o1, o2⟩⟩

def okGsherdlaw17_Op (w : World) (B : TypeId → Nat) (Bs : Nat) (x : Gsherdlaw17_Op) : Prop := (Rng .i64 x.Kind) ∧ (Rng .i64 x.P) ∧ (Rng .i64 x.Server) ∧ (Rng .i64 x.V) ∧ (Rng .i64 x.N)
theorem open_Gsherdlaw17_Op {H : Type} {enc : TypeId × Value → H} {w : World} {Wt : TypeId → DataW H → Prop} {B : TypeId → Nat} {Bs : Nat} {fuel : Nat} {cs : List Value} {y : DataW H × List MemPlace} (hW : WtOk Try.prog Wt B Bs) (h : trodA enc Try.prog w fuel 52 cs = some y) (hy : Wt 52 y.1) :
    ∃ x : Gsherdlaw17_Op, cs = x.cells ∧ okGsherdlaw17_Op w B Bs x := by
  obtain ⟨hl, hf⟩ := trod_struct hW (by exact Try.underlying52) h hy
  rw [show Try.prog.cellsOf 52 = 5 from by kernel_rfl] at hl
  clear h hy
  obtain ⟨c0, cs, rfl, hl0⟩ := len_succ (n := 4) hl
  obtain ⟨c1, cs, rfl, hl1⟩ := len_succ (n := 3) hl0
  obtain ⟨c2, cs, rfl, hl2⟩ := len_succ (n := 2) hl1
  obtain ⟨c3, cs, rfl, hl3⟩ := len_succ (n := 1) hl2
  obtain ⟨c4, cs, rfl, hl4⟩ := len_succ (n := 0) hl3
  obtain rfl := len_zero hl4
  obtain ⟨f0, z0, h0, w0⟩ := hf 0 _ rfl
  replace h0 : trodA enc Try.prog w f0 3 (List.take (Try.prog.cellsOf 3) (List.drop 0 [c0, c1, c2, c3, c4])) = some z0 := h0
  replace w0 : Wt 3 z0.1 := w0
  rw [show List.take (Try.prog.cellsOf 3) (List.drop 0 [c0, c1, c2, c3, c4]) = [c0] from by kernel_rfl] at h0
  obtain ⟨x0, e0, o0⟩ := trod_int (by exact Try.underlying3) h0
  simp only [List.cons.injEq, and_true] at e0
  obtain ⟨f1, z1, h1, w1⟩ := hf 1 _ rfl
  replace h1 : trodA enc Try.prog w f1 3 (List.take (Try.prog.cellsOf 3) (List.drop 1 [c0, c1, c2, c3, c4])) = some z1 := h1
  replace w1 : Wt 3 z1.1 := w1
  rw [show List.take (Try.prog.cellsOf 3) (List.drop 1 [c0, c1, c2, c3, c4]) = [c1] from by kernel_rfl] at h1
  obtain ⟨x1, e1, o1⟩ := trod_int (by exact Try.underlying3) h1
  simp only [List.cons.injEq, and_true] at e1
  obtain ⟨f2, z2, h2, w2⟩ := hf 2 _ rfl
  replace h2 : trodA enc Try.prog w f2 3 (List.take (Try.prog.cellsOf 3) (List.drop 2 [c0, c1, c2, c3, c4])) = some z2 := h2
  replace w2 : Wt 3 z2.1 := w2
  rw [show List.take (Try.prog.cellsOf 3) (List.drop 2 [c0, c1, c2, c3, c4]) = [c2] from by kernel_rfl] at h2
  obtain ⟨x2, e2, o2⟩ := trod_int (by exact Try.underlying3) h2
  simp only [List.cons.injEq, and_true] at e2
  obtain ⟨f3, z3, h3, w3⟩ := hf 3 _ rfl
  replace h3 : trodA enc Try.prog w f3 3 (List.take (Try.prog.cellsOf 3) (List.drop 3 [c0, c1, c2, c3, c4])) = some z3 := h3
  replace w3 : Wt 3 z3.1 := w3
  rw [show List.take (Try.prog.cellsOf 3) (List.drop 3 [c0, c1, c2, c3, c4]) = [c3] from by kernel_rfl] at h3
  obtain ⟨x3, e3, o3⟩ := trod_int (by exact Try.underlying3) h3
  simp only [List.cons.injEq, and_true] at e3
  obtain ⟨f4, z4, h4, w4⟩ := hf 4 _ rfl
  replace h4 : trodA enc Try.prog w f4 3 (List.take (Try.prog.cellsOf 3) (List.drop 4 [c0, c1, c2, c3, c4])) = some z4 := h4
  replace w4 : Wt 3 z4.1 := w4
  rw [show List.take (Try.prog.cellsOf 3) (List.drop 4 [c0, c1, c2, c3, c4]) = [c4] from by kernel_rfl] at h4
  obtain ⟨x4, e4, o4⟩ := trod_int (by exact Try.underlying3) h4
  simp only [List.cons.injEq, and_true] at e4
  subst e0
  subst e1
  subst e2
  subst e3
  subst e4
  exact ⟨⟨x0, x1, x2, x3, x4⟩, rfl, ⟨o0, o1, o2, o3, o4⟩⟩
namespace phasePlays
theorem own : ownKnob Try.prog.godebug = none := by kernel_rfl
theorem laidOut : laidOutB Try.prog = true := by kernel_rfl
set_option maxRecDepth 100000 in
theorem lifted (os : Os) (started : os.Started) (H : Type) (enc : TypeId × Value → H) :
    ReturnsInHanded {} Try.checked os 4 .any (Rows.phasePlaysSpec.pre6 enc Try.prog Try.f4 Rows.phasePlaysRow.domain false) (Rows.phasePlaysSpec.post enc Try.prog Try.f4 false true false false) := by
  refine returnsInHanded_of_change_sized (C := Try.checked) own started (by kernel_rfl) Try.func4
    (ChangeSpec.witness6 (enc := enc) (C := Try.checked) false ⟨#[], #[.agg #[.int .i64 0, .int .i64 0, .int .i64 0], .agg #[.int .i64 0, .int .i64 0, .int .i64 0], .slice none 0 0], []⟩ 8 (by kernel_rfl) (by kernel_rfl) (by kernel_rfl) (by kernel_rfl)) ?_
  intro W base args ds gs before hval0 hW hcnd hsz0 _
  have hsz : (DataW.weightsEach Try.prog (Try.f4.params.toList ++ Rows.phasePlaysSpec.plain.varTypes Try.prog) (ds ++ gs)).all (· ≤ reachBytes) = true := hsz0
  have hval : ∀ (j : Nat) t v, Try.f4.params[j]? = some t → args[j]? = some v → Value.okWide Try.prog W .any base t v := hval0
  have hW' := hW
  obtain ⟨p, q, hA0, hV, rfl, hfz, hnd⟩ := hW
  have hA : DataW.TrodAll enc Try.prog W 0 (fun _ => true) true Try.f4.params.toList args.toList ds p := hA0
  rw [Try.params4] at hA hval hsz
  obtain ⟨v0, vs0, d0, ds0, p0, q0, hargs, rfl, rfl, h0, r0⟩ := trodAll_cons hA
  obtain ⟨v1, vs1, d1, ds1, p1, q1, rfl, rfl, rfl, h1, r1⟩ := trodAll_cons r0
  obtain ⟨v2, vs2, d2, ds2, p2, q2, rfl, rfl, rfl, h2, r2⟩ := trodAll_cons r1
  obtain ⟨rfl, rfl, rfl⟩ := trodAll_nil r2
  obtain rfl : args = #[v0, v1, v2] := by cases args; simp_all
  obtain ⟨rfl, rfl⟩ := trodVars_none hV
  have hWt := wt_reach (H := H) Try.prog
  have k0 := h0
  have lt0 : ∀ x ∈ p0, x.block < W.heap.size := by obtain ⟨m, hm⟩ := k0; exact DataW.trod_lt m _ _ _ hm
  have u0 : WtR Try.prog 23 d0 := fun x hx => of_decide_eq_true (List.all_eq_true.1 hsz x (weightsEach_get 0 23 d0 rfl rfl x hx))
  obtain ⟨fu0, hf0⟩ := h0
  obtain ⟨cs0, rfl⟩ := okWide_struct Try.underlying23 (hval 0 23 v0 rfl rfl)
  obtain ⟨x0, e0, o0⟩ := open_GConfig hWt hf0 u0
  obtain rfl : cs0 = x0.cells.toArray := by apply Array.ext'; exact e0
  have k1 := h1
  have lt1 : ∀ x ∈ p1, x.block < W.heap.size := by obtain ⟨m, hm⟩ := k1; exact DataW.trod_lt m _ _ _ hm
  have u1 : WtR Try.prog 23 d1 := fun x hx => of_decide_eq_true (List.all_eq_true.1 hsz x (weightsEach_get 1 23 d1 rfl rfl x hx))
  obtain ⟨fu1, hf1⟩ := h1
  obtain ⟨cs1, rfl⟩ := okWide_struct Try.underlying23 (hval 1 23 v1 rfl rfl)
  obtain ⟨x1, e1, o1⟩ := open_GConfig hWt hf1 u1
  obtain rfl : cs1 = x1.cells.toArray := by apply Array.ext'; exact e1
  have k2 := h2
  have lt2 : ∀ x ∈ p2, x.block < W.heap.size := by obtain ⟨m, hm⟩ := k2; exact DataW.trod_lt m _ _ _ hm
  have u2 : WtR Try.prog 41 d2 := fun x hx => of_decide_eq_true (List.all_eq_true.1 hsz x (weightsEach_get 2 41 d2 rfl rfl x hx))
  obtain ⟨fu2, hf2⟩ := h2
  obtain ⟨a2, n2, c2, rfl⟩ := okWide_slice Try.underlying41 (hval 2 41 v2 rfl rfl)
  obtain ⟨x2, e2, l2, o2⟩ := SlD.of (trod_slice (α := Gsherdlaw17_Op) (sz := 5) Gsherdlaw17_Op.cells (okGsherdlaw17_Op W _ _) hWt (by exact Try.underlying41) (by kernel_rfl) (by exact of_decide_eq_true (by kernel_rfl)) (by decide) (fun _ => rfl) (fun fu cs y h hy => open_Gsherdlaw17_Op hWt h hy) hf2 u2)
  obtain rfl : x2 = ⟨a2, n2, c2⟩ := by cases x2; simp [Value.cells, SlH.v] at e2; simp [e2]
  refine (PhasePlays _ (of_decide_eq_true (by kernel_rfl)) x0 x1 W (⟨a2, n2, c2⟩ : SlH) l2 o2).mono fun e W' hh => ?_
  obtain ⟨rfl, hfr⟩ := hh
  have bel := hfr.below
  exact ⟨_, rfl, _, _, _, [], _, [], hW', trodAll_mk1 (shut_bool Try.underlying4 _), (trodAll_cons_mk (Below.trod laidOut (by kernel_rfl) (of_decide_eq_true (by kernel_rfl)) k0 bel lt0) (trodAll_cons_mk (Below.trod laidOut (by kernel_rfl) (of_decide_eq_true (by kernel_rfl)) k1 bel lt1) (trodAll_cons_mk (Below.trod laidOut (by kernel_rfl) (of_decide_eq_true (by kernel_rfl)) k2 bel lt2) trodAll_mk0))), rfl, bel.frame _, fun h => by cases h⟩
theorem over : Rows.phasePlaysRow.holds Try.pinned (OpenSpec.ofChange Rows.phasePlaysSpec) :=
  OpenClaim.holds_of_wide 4 Try.f4 rfl rfl rfl rfl rfl rfl rfl ⟨rfl, rfl, rfl, rfl, rfl⟩ rfl rfl rfl rfl rfl (by kernel_rfl) Try.func4 (by kernel_rfl)
    (of_decide_eq_true (by kernel_rfl)) (by unfold Func.isWrapper; first | (rw [if_pos (by decide +kernel)]; kernel_rfl) | (rw [if_neg (by decide +kernel)]; exact ⟨rfl, rfl⟩))
    (fun os started H enc _ => lifted os started H enc)
theorem proved : Rows.PhasePlaysSaid := over
#print axioms proved
end phasePlays
end Go.Proofs.Ytgpjpcemfaignaa.K
namespace Go.Proofs.Ytgpjpcemfaignaa
/-- The law, for the claim. -/
theorem phasePlays_holds : Rows.PhasePlaysSaid := K.phasePlays.proved
end Go.Proofs.Ytgpjpcemfaignaa
