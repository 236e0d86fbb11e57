/- It is proved that the law OrderMade answers true for every input that can be read as data, and never panics; the conditions are those of the given statement. -/
import Derived.Test.YtdahgdkadfdkeaaRows
import Derived.Test.YtdahgdkadfdkeaaOpen
import Derived.Test.YtdahgdkadfdkeaaWOrderMade
namespace Go.Proofs.Ytdahgdkadfdkeaa.K
open Go Go.Proofs Go.ChangeShapes Go.WideShapes Go.ChangeAt Go.RowKit
open Go.ChangeMaps (open_string shut_string)
set_option linter.unusedVariables false
set_option linter.unusedSimpArgs false
def okGsherdlaw21_Made (w : World) (B : TypeId → Nat) (Bs : Nat) (x : Gsherdlaw21_Made) : Prop := (∃ l, SlD w (α := Int) (fun y => [.int .i64 y]) ((fun y => Rng .i64 y)) (B 3) x.Who l) ∧ (∃ l, SlD w (α := SlH) (fun y => [SlH.v y]) ((fun s => ∃ l, SlD w (α := Int) (fun y => [.int .u8 y]) ((fun y => Rng .u8 y)) (B 5) s l)) (B 71) x.Values l) ∧ (∃ l, SlD w (α := Int) (fun y => [.int .i64 y]) ((fun y => Rng .i64 y)) (B 3) x.Reach l) ∧ (∃ l, SlD w (α := Int) (fun y => [.int .i64 y]) ((fun y => Rng .i64 y)) (B 3) x.Open l)
theorem open_Gsherdlaw21_Made {H : Type} {enc : TypeId × Value → H} {w : World} {Wt : TypeId → DataW H → Prop} {B : TypeId → Nat} {Bs : Nat} {fuel : Nat} {cs : List Value} {y : DataW H × List MemPlace} (hW : WtOk Try.prog Wt B Bs) (h : trodA enc Try.prog w fuel 66 cs = some y) (hy : Wt 66 y.1) :
    ∃ x : Gsherdlaw21_Made, cs = x.cells ∧ okGsherdlaw21_Made w B Bs x := by
  obtain ⟨hl, hf⟩ := trod_struct hW (by exact Try.underlying66) h hy
  rw [show Try.prog.cellsOf 66 = 4 from by kernel_rfl] at hl
  clear h hy
  obtain ⟨c0, cs, rfl, hl0⟩ := len_succ (n := 3) hl
  obtain ⟨c1, cs, rfl, hl1⟩ := len_succ (n := 2) hl0
  obtain ⟨c2, cs, rfl, hl2⟩ := len_succ (n := 1) hl1
  obtain ⟨c3, cs, rfl, hl3⟩ := len_succ (n := 0) hl2
  obtain rfl := len_zero hl3
  obtain ⟨f0, z0, h0, w0⟩ := hf 0 _ rfl
  replace h0 : trodA enc Try.prog w f0 24 (List.take (Try.prog.cellsOf 24) (List.drop 0 [c0, c1, c2, c3])) = some z0 := h0
  replace w0 : Wt 24 z0.1 := w0
  rw [show List.take (Try.prog.cellsOf 24) (List.drop 0 [c0, c1, c2, c3]) = [c0] from by kernel_rfl] at h0
  obtain ⟨x0, e0, o0⟩ := SlD.of (trod_slice (α := Int) (sz := 1) (fun y => [.int .i64 y]) ((fun y => Rng .i64 y)) hW (by exact Try.underlying24) (by kernel_rfl) (by exact of_decide_eq_true (by kernel_rfl)) (by decide) (fun _ => rfl) (fun fu cs y h hy => trod_int (by exact Try.underlying3) h) h0 w0)
  simp only [List.cons.injEq, and_true] at e0
  obtain ⟨f1, z1, h1, w1⟩ := hf 1 _ rfl
  replace h1 : trodA enc Try.prog w f1 64 (List.take (Try.prog.cellsOf 64) (List.drop 1 [c0, c1, c2, c3])) = some z1 := h1
  replace w1 : Wt 64 z1.1 := w1
  rw [show List.take (Try.prog.cellsOf 64) (List.drop 1 [c0, c1, c2, c3]) = [c1] from by kernel_rfl] at h1
  obtain ⟨x1, e1, o1⟩ := SlD.of (trod_slice (α := SlH) (sz := 1) (fun y => [SlH.v y]) ((fun s => ∃ l, SlD w (α := Int) (fun y => [.int .u8 y]) ((fun y => Rng .u8 y)) (B 5) s l)) hW (by exact Try.underlying64) (by kernel_rfl) (by exact of_decide_eq_true (by kernel_rfl)) (by decide) (fun _ => rfl) (fun fu cs y h hy => SlD.of (trod_slice (α := Int) (sz := 1) (fun y => [.int .u8 y]) ((fun y => Rng .u8 y)) hW (by exact Try.underlying71) (by kernel_rfl) (by exact of_decide_eq_true (by kernel_rfl)) (by decide) (fun _ => rfl) (fun fu cs y h hy => trod_int (by exact Try.underlying5) h) h hy)) h1 w1)
  simp only [List.cons.injEq, and_true] at e1
  obtain ⟨f2, z2, h2, w2⟩ := hf 2 _ rfl
  replace h2 : trodA enc Try.prog w f2 24 (List.take (Try.prog.cellsOf 24) (List.drop 2 [c0, c1, c2, c3])) = some z2 := h2
  replace w2 : Wt 24 z2.1 := w2
  rw [show List.take (Try.prog.cellsOf 24) (List.drop 2 [c0, c1, c2, c3]) = [c2] from by kernel_rfl] at h2
  obtain ⟨x2, e2, o2⟩ := SlD.of (trod_slice (α := Int) (sz := 1) (fun y => [.int .i64 y]) ((fun y => Rng .i64 y)) hW (by exact Try.underlying24) (by kernel_rfl) (by exact of_decide_eq_true (by kernel_rfl)) (by decide) (fun _ => rfl) (fun fu cs y h hy => trod_int (by exact Try.underlying3) h) h2 w2)
  simp only [List.cons.injEq, and_true] at e2
  obtain ⟨f3, z3, h3, w3⟩ := hf 3 _ rfl
  replace h3 : trodA enc Try.prog w f3 24 (List.take (Try.prog.cellsOf 24) (List.drop 3 [c0, c1, c2, c3])) = some z3 := h3
  replace w3 : Wt 24 z3.1 := w3
  rw [show List.take (Try.prog.cellsOf 24) (List.drop 3 [c0, c1, c2, c3]) = [c3] from by kernel_rfl] at h3
  obtain ⟨x3, e3, o3⟩ := SlD.of (trod_slice (α := Int) (sz := 1) (fun y => [.int .i64 y]) ((fun y => Rng .i64 y)) hW (by exact Try.underlying24) (by kernel_rfl) (by exact of_decide_eq_true (by kernel_rfl)) (by decide) (fun _ => rfl) (fun fu cs y h hy => trod_int (by exact Try.underlying3) h) h3 w3)
  simp only [List.cons.injEq, and_true] at e3
  subst e0
  subst e1
  subst e2
  subst e3
  exact ⟨⟨x0, x1, x2, x3⟩, rfl, ⟨o0, o1, o2, o3⟩⟩

namespace orderMade
theorem own : ownKnob Try.prog.godebug = none := by kernel_rfl
theorem laidOut : laidOutB Try.prog = true := by kernel_rfl
set_option maxRecDepth 100000 in
theorem lifted (os : Os) (started : os.Started) (H : Type) (enc : TypeId × Value → H) :
    ReturnsInHanded {} Try.checked os 6 .any (Rows.orderMadeSpec.pre6 enc Try.prog Try.f6 Rows.orderMadeRow.domain false) (Rows.orderMadeSpec.post enc Try.prog Try.f6 false true false false) := by
  refine returnsInHanded_of_change_sized (C := Try.checked) own started (by kernel_rfl) Try.func6
    (ChangeSpec.witness6 (enc := enc) (C := Try.checked) false ⟨#[], #[.agg #[.slice none 0 0, .slice none 0 0, .slice none 0 0, .slice none 0 0], .int .i64 0], []⟩ 8 (by kernel_rfl) (by kernel_rfl) (by kernel_rfl) (by kernel_rfl)) ?_
  intro W base args ds gs before hval0 hW hcnd hsz0 _
  have hsz : (DataW.weightsEach Try.prog (Try.f6.params.toList ++ Rows.orderMadeSpec.plain.varTypes Try.prog) (ds ++ gs)).all (· ≤ reachBytes) = true := hsz0
  have hval : ∀ (j : Nat) t v, Try.f6.params[j]? = some t → args[j]? = some v → Value.okWide Try.prog W .any base t v := hval0
  have hW' := hW
  obtain ⟨p, q, hA0, hV, rfl, hfz, hnd⟩ := hW
  have hA : DataW.TrodAll enc Try.prog W 0 (fun _ => true) true Try.f6.params.toList args.toList ds p := hA0
  rw [Try.params6] at hA hval hsz
  obtain ⟨v0, vs0, d0, ds0, p0, q0, hargs, rfl, rfl, h0, r0⟩ := trodAll_cons hA
  obtain ⟨v1, vs1, d1, ds1, p1, q1, rfl, rfl, rfl, h1, r1⟩ := trodAll_cons r0
  obtain ⟨rfl, rfl, rfl⟩ := trodAll_nil r1
  obtain rfl : args = #[v0, v1] := by cases args; simp_all
  obtain ⟨rfl, rfl⟩ := trodVars_none hV
  have hWt := wt_reach (H := H) Try.prog
  have k0 := h0
  have lt0 : ∀ x ∈ p0, x.block < W.heap.size := by obtain ⟨m, hm⟩ := k0; exact DataW.trod_lt m _ _ _ hm
  have u0 : WtR Try.prog 66 d0 := fun x hx => of_decide_eq_true (List.all_eq_true.1 hsz x (weightsEach_get 0 66 d0 rfl rfl x hx))
  obtain ⟨fu0, hf0⟩ := h0
  obtain ⟨cs0, rfl⟩ := okWide_struct Try.underlying66 (hval 0 66 v0 rfl rfl)
  obtain ⟨x0, e0, o0⟩ := open_Gsherdlaw21_Made hWt hf0 u0
  obtain rfl : cs0 = x0.cells.toArray := by apply Array.ext'; exact e0
  have k1 := h1
  have lt1 : ∀ x ∈ p1, x.block < W.heap.size := by obtain ⟨m, hm⟩ := k1; exact DataW.trod_lt m _ _ _ hm
  have u1 : WtR Try.prog 3 d1 := fun x hx => of_decide_eq_true (List.all_eq_true.1 hsz x (weightsEach_get 1 3 d1 rfl rfl x hx))
  obtain ⟨fu1, hf1⟩ := h1
  obtain ⟨x1, rfl, _, _, o1⟩ := open_int Try.underlying3 (hval 1 3 v1 rfl rfl) k1
  refine (OrderMade _ _ _ (of_decide_eq_true (by kernel_rfl)) (of_decide_eq_true (by kernel_rfl)) (of_decide_eq_true (by kernel_rfl)) x0 _ _ _ _ x1 W (Classical.choose_spec o0.1) (Classical.choose_spec o0.2.1) (Classical.choose_spec o0.2.2.1) (Classical.choose_spec o0.2.2.2) (rng_wf o1)).mono fun e W' hh => ?_
  obtain ⟨rfl, hfr⟩ := hh
  have bel := hfr.below
  exact ⟨_, rfl, _, _, _, [], _, [], hW', trodAll_mk1 (shut_bool Try.underlying4 _), (trodAll_cons_mk (Below.trod laidOut (by kernel_rfl) (of_decide_eq_true (by kernel_rfl)) k0 bel lt0) (trodAll_cons_mk (Below.trod laidOut (by kernel_rfl) (of_decide_eq_true (by kernel_rfl)) k1 bel lt1) trodAll_mk0)), rfl, bel.frame _, fun h => by cases h⟩
theorem over : Rows.orderMadeRow.holds Try.pinned (OpenSpec.ofChange Rows.orderMadeSpec) :=
  OpenClaim.holds_of_wide 6 Try.f6 rfl rfl rfl rfl rfl rfl rfl ⟨rfl, rfl, rfl, rfl, rfl⟩ rfl rfl rfl rfl rfl (by kernel_rfl) Try.func6 (by kernel_rfl)
    (of_decide_eq_true (by kernel_rfl)) (by unfold Func.isWrapper; first | (rw [if_pos (by decide +kernel)]; kernel_rfl) | (rw [if_neg (by decide +kernel)]; exact ⟨rfl, rfl⟩))
    (fun os started H enc _ => lifted os started H enc)
theorem proved : Rows.OrderMadeSaid := over
#print axioms proved
end orderMade
end Go.Proofs.Ytdahgdkadfdkeaa.K
namespace Go.Proofs.Ytdahgdkadfdkeaa
/-- The law, for the claim. -/
theorem orderMade_holds : Rows.OrderMadeSaid := K.orderMade.proved
end Go.Proofs.Ytdahgdkadfdkeaa
