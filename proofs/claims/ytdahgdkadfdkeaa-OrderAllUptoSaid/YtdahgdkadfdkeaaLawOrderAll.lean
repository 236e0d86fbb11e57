/- It is proved that the law OrderAll answers true for every input that can be read as data, and never panics; the conditions are those of the given statement. -/
import Derived.Test.YtdahgdkadfdkeaaRows
import Derived.Test.YtdahgdkadfdkeaaOpen
import Derived.Test.YtdahgdkadfdkeaaUpto
import Derived.Test.YtdahgdkadfdkeaaWOrderAll
namespace Go.Proofs.Ytdahgdkadfdkeaa.K
open Go Go.Proofs Go.ChangeShapes Go.WideShapes Go.ChangeAt Go.RowKit
open Go.ChangeMaps (open_string shut_string)
set_option linter.unusedVariables false
set_option linter.unusedSimpArgs false
def okGTag (w : World) (B : TypeId → Nat) (Bs : Nat) (x : GTag) : Prop := (Rng .i64 x.Count) ∧ (Rng .i64 x.Client)
theorem open_GTag {H : Type} {enc : TypeId × Value → H} {w : World} {Wt : TypeId → DataW H → Prop} {B : TypeId → Nat} {Bs : Nat} {fuel : Nat} {cs : List Value} {y : DataW H × List MemPlace} (hW : WtOk Try.prog Wt B Bs) (h : trodA enc Try.prog w fuel 70 cs = some y) (hy : Wt 70 y.1) :
    ∃ x : GTag, cs = x.cells ∧ okGTag w B Bs x := by
  obtain ⟨hl, hf⟩ := trod_struct hW (by exact Try.underlying70) h hy
  rw [show Try.prog.cellsOf 70 = 2 from by kernel_rfl] at hl
  clear h hy
  obtain ⟨c0, cs, rfl, hl0⟩ := len_succ (n := 1) hl
  obtain ⟨c1, cs, rfl, hl1⟩ := len_succ (n := 0) hl0
  obtain rfl := len_zero hl1
  obtain ⟨f0, z0, h0, w0⟩ := hf 0 _ rfl
  replace h0 : trodA enc Try.prog w f0 2 (List.take (Try.prog.cellsOf 2) (List.drop 0 [c0, c1])) = some z0 := h0
  replace w0 : Wt 2 z0.1 := w0
  rw [show List.take (Try.prog.cellsOf 2) (List.drop 0 [c0, c1]) = [c0] from by kernel_rfl] at h0
  obtain ⟨x0, e0, o0⟩ := trod_int (by exact Try.underlying2) h0
  simp only [List.cons.injEq, and_true] at e0
  obtain ⟨f1, z1, h1, w1⟩ := hf 1 _ rfl
  replace h1 : trodA enc Try.prog w f1 3 (List.take (Try.prog.cellsOf 3) (List.drop 1 [c0, c1])) = some z1 := h1
  replace w1 : Wt 3 z1.1 := w1
  rw [show List.take (Try.prog.cellsOf 3) (List.drop 1 [c0, c1]) = [c1] from by kernel_rfl] at h1
  obtain ⟨x1, e1, o1⟩ := trod_int (by exact Try.underlying3) h1
  simp only [List.cons.injEq, and_true] at e1
  subst e0
  subst e1
  exact ⟨⟨x0, x1⟩, rfl, ⟨o0, o1⟩⟩
def okGCall (w : World) (B : TypeId → Nat) (Bs : Nat) (x : GCall) : Prop := (Rng .i64 x.Client) ∧ (Rng .i64 x.Op) ∧ (True) ∧ (x.Key.size ≤ Bs) ∧ (∃ l, SlD w (α := Int) (fun y => [.int .u8 y]) ((fun y => Rng .u8 y)) (B 5) x.Value l) ∧ (Rng .i64 x.Status) ∧ (Rng .i64 x.From) ∧ (Rng .i64 x.To) ∧ (True) ∧ (okGTag w B Bs x.Tag)
theorem open_GCall {H : Type} {enc : TypeId × Value → H} {w : World} {Wt : TypeId → DataW H → Prop} {B : TypeId → Nat} {Bs : Nat} {fuel : Nat} {cs : List Value} {y : DataW H × List MemPlace} (hW : WtOk Try.prog Wt B Bs) (h : trodA enc Try.prog w fuel 73 cs = some y) (hy : Wt 73 y.1) :
    ∃ x : GCall, cs = x.cells ∧ okGCall w B Bs x := by
  obtain ⟨hl, hf⟩ := trod_struct hW (by exact Try.underlying73) h hy
  rw [show Try.prog.cellsOf 73 = 11 from by kernel_rfl] at hl
  clear h hy
  obtain ⟨c0, cs, rfl, hl0⟩ := len_succ (n := 10) hl
  obtain ⟨c1, cs, rfl, hl1⟩ := len_succ (n := 9) hl0
  obtain ⟨c2, cs, rfl, hl2⟩ := len_succ (n := 8) hl1
  obtain ⟨c3, cs, rfl, hl3⟩ := len_succ (n := 7) hl2
  obtain ⟨c4, cs, rfl, hl4⟩ := len_succ (n := 6) hl3
  obtain ⟨c5, cs, rfl, hl5⟩ := len_succ (n := 5) hl4
  obtain ⟨c6, cs, rfl, hl6⟩ := len_succ (n := 4) hl5
  obtain ⟨c7, cs, rfl, hl7⟩ := len_succ (n := 3) hl6
  obtain ⟨c8, cs, rfl, hl8⟩ := len_succ (n := 2) hl7
  obtain ⟨c9, cs, rfl, hl9⟩ := len_succ (n := 1) hl8
  obtain ⟨c10, cs, rfl, hl10⟩ := len_succ (n := 0) hl9
  obtain rfl := len_zero hl10
  obtain ⟨f0, z0, h0, w0⟩ := hf 0 _ rfl
  replace h0 : trodA enc Try.prog w f0 3 (List.take (Try.prog.cellsOf 3) (List.drop 0 [c0, c1, c2, c3, c4, c5, c6, c7, c8, c9, c10])) = some z0 := h0
  replace w0 : Wt 3 z0.1 := w0
  rw [show List.take (Try.prog.cellsOf 3) (List.drop 0 [c0, c1, c2, c3, c4, c5, c6, c7, c8, c9, c10]) = [c0] from by kernel_rfl] at h0
  obtain ⟨x0, e0, o0⟩ := trod_int (by exact Try.underlying3) h0
  simp only [List.cons.injEq, and_true] at e0
  obtain ⟨f1, z1, h1, w1⟩ := hf 1 _ rfl
  replace h1 : trodA enc Try.prog w f1 2 (List.take (Try.prog.cellsOf 2) (List.drop 1 [c0, c1, c2, c3, c4, c5, c6, c7, c8, c9, c10])) = some z1 := h1
  replace w1 : Wt 2 z1.1 := w1
  rw [show List.take (Try.prog.cellsOf 2) (List.drop 1 [c0, c1, c2, c3, c4, c5, c6, c7, c8, c9, c10]) = [c1] from by kernel_rfl] at h1
  obtain ⟨x1, e1, o1⟩ := trod_int (by exact Try.underlying2) h1
  simp only [List.cons.injEq, and_true] at e1
  obtain ⟨f2, z2, h2, w2⟩ := hf 2 _ rfl
  replace h2 : trodA enc Try.prog w f2 4 (List.take (Try.prog.cellsOf 4) (List.drop 2 [c0, c1, c2, c3, c4, c5, c6, c7, c8, c9, c10])) = some z2 := h2
  replace w2 : Wt 4 z2.1 := w2
  rw [show List.take (Try.prog.cellsOf 4) (List.drop 2 [c0, c1, c2, c3, c4, c5, c6, c7, c8, c9, c10]) = [c2] from by kernel_rfl] at h2
  obtain ⟨x2, e2⟩ := trod_bool (by exact Try.underlying4) h2
  simp only [List.cons.injEq, and_true] at e2
  obtain ⟨f3, z3, h3, w3⟩ := hf 3 _ rfl
  replace h3 : trodA enc Try.prog w f3 9 (List.take (Try.prog.cellsOf 9) (List.drop 3 [c0, c1, c2, c3, c4, c5, c6, c7, c8, c9, c10])) = some z3 := h3
  replace w3 : Wt 9 z3.1 := w3
  rw [show List.take (Try.prog.cellsOf 9) (List.drop 3 [c0, c1, c2, c3, c4, c5, c6, c7, c8, c9, c10]) = [c3] from by kernel_rfl] at h3
  obtain ⟨x3, e3, o3⟩ := trod_str hW (by exact Try.underlying9) h3 w3
  simp only [List.cons.injEq, and_true] at e3
  obtain ⟨f4, z4, h4, w4⟩ := hf 4 _ rfl
  replace h4 : trodA enc Try.prog w f4 71 (List.take (Try.prog.cellsOf 71) (List.drop 4 [c0, c1, c2, c3, c4, c5, c6, c7, c8, c9, c10])) = some z4 := h4
  replace w4 : Wt 71 z4.1 := w4
  rw [show List.take (Try.prog.cellsOf 71) (List.drop 4 [c0, c1, c2, c3, c4, c5, c6, c7, c8, c9, c10]) = [c4] from by kernel_rfl] at h4
  obtain ⟨x4, e4, o4⟩ := SlD.of (trod_slice (α := Int) (sz := 1) (fun y => [.int .u8 y]) ((fun y => Rng .u8 y)) hW (by exact Try.underlying71) (by kernel_rfl) (by exact of_decide_eq_true (by kernel_rfl)) (by decide) (fun _ => rfl) (fun fu cs y h hy => trod_int (by exact Try.underlying5) h) h4 w4)
  simp only [List.cons.injEq, and_true] at e4
  obtain ⟨f5, z5, h5, w5⟩ := hf 5 _ rfl
  replace h5 : trodA enc Try.prog w f5 25 (List.take (Try.prog.cellsOf 25) (List.drop 5 [c0, c1, c2, c3, c4, c5, c6, c7, c8, c9, c10])) = some z5 := h5
  replace w5 : Wt 25 z5.1 := w5
  rw [show List.take (Try.prog.cellsOf 25) (List.drop 5 [c0, c1, c2, c3, c4, c5, c6, c7, c8, c9, c10]) = [c5] from by kernel_rfl] at h5
  obtain ⟨x5, e5, o5⟩ := trod_int (by exact Try.underlying25) h5
  simp only [List.cons.injEq, and_true] at e5
  obtain ⟨f6, z6, h6, w6⟩ := hf 6 _ rfl
  replace h6 : trodA enc Try.prog w f6 3 (List.take (Try.prog.cellsOf 3) (List.drop 6 [c0, c1, c2, c3, c4, c5, c6, c7, c8, c9, c10])) = some z6 := h6
  replace w6 : Wt 3 z6.1 := w6
  rw [show List.take (Try.prog.cellsOf 3) (List.drop 6 [c0, c1, c2, c3, c4, c5, c6, c7, c8, c9, c10]) = [c6] from by kernel_rfl] at h6
  obtain ⟨x6, e6, o6⟩ := trod_int (by exact Try.underlying3) h6
  simp only [List.cons.injEq, and_true] at e6
  obtain ⟨f7, z7, h7, w7⟩ := hf 7 _ rfl
  replace h7 : trodA enc Try.prog w f7 3 (List.take (Try.prog.cellsOf 3) (List.drop 7 [c0, c1, c2, c3, c4, c5, c6, c7, c8, c9, c10])) = some z7 := h7
  replace w7 : Wt 3 z7.1 := w7
  rw [show List.take (Try.prog.cellsOf 3) (List.drop 7 [c0, c1, c2, c3, c4, c5, c6, c7, c8, c9, c10]) = [c7] from by kernel_rfl] at h7
  obtain ⟨x7, e7, o7⟩ := trod_int (by exact Try.underlying3) h7
  simp only [List.cons.injEq, and_true] at e7
  obtain ⟨f8, z8, h8, w8⟩ := hf 8 _ rfl
  replace h8 : trodA enc Try.prog w f8 4 (List.take (Try.prog.cellsOf 4) (List.drop 8 [c0, c1, c2, c3, c4, c5, c6, c7, c8, c9, c10])) = some z8 := h8
  replace w8 : Wt 4 z8.1 := w8
  rw [show List.take (Try.prog.cellsOf 4) (List.drop 8 [c0, c1, c2, c3, c4, c5, c6, c7, c8, c9, c10]) = [c8] from by kernel_rfl] at h8
  obtain ⟨x8, e8⟩ := trod_bool (by exact Try.underlying4) h8
  simp only [List.cons.injEq, and_true] at e8
  obtain ⟨f9, z9, h9, w9⟩ := hf 9 _ rfl
  replace h9 : trodA enc Try.prog w f9 70 (List.take (Try.prog.cellsOf 70) (List.drop 9 [c0, c1, c2, c3, c4, c5, c6, c7, c8, c9, c10])) = some z9 := h9
  replace w9 : Wt 70 z9.1 := w9
  rw [show List.take (Try.prog.cellsOf 70) (List.drop 9 [c0, c1, c2, c3, c4, c5, c6, c7, c8, c9, c10]) = [c9, c10] from by kernel_rfl] at h9
  obtain ⟨x9, e9, o9⟩ := open_GTag hW h9 w9
  simp only [GTag.cells, List.cons.injEq, and_true] at e9
  subst e0
  subst e1
  subst e2
  subst e3
  subst e4
  subst e5
  subst e6
  subst e7
  subst e8
  obtain ⟨rfl, rfl⟩ := e9
  exact ⟨⟨x0, x1, x2, x3, x4, x5, x6, x7, x8, x9⟩, rfl, ⟨o0, o1, trivial, o3, o4, o5, o6, o7, trivial, o9⟩⟩

namespace orderAll
theorem own : ownKnob Try.prog.godebug = none := by kernel_rfl
theorem laidOut : laidOutB Try.prog = true := by kernel_rfl
set_option maxRecDepth 100000 in
theorem lifted (os : Os) (started : os.Started) (H : Type) (enc : TypeId × Value → H) (F : Stop.Interp) :
    ReturnsInHanded {} Try.checked os 5 .any ((Rows.OpenSpec.upto Rows.orderAllSpec).pre6 enc Try.prog Try.f5 Rows.orderAllUptoRow.domain false) (((Rows.OpenSpec.upto Rows.orderAllSpec).at F).post enc Try.prog Try.f5 false true false false) := by
  refine returnsInHanded_of_cond (C := Try.checked) (s := Rows.OpenSpec.upto Rows.orderAllSpec) (k := Rows.uptoSmall) rfl own started (by kernel_rfl) Try.func5
    (OpenSpec.witness (enc := enc) (C := Try.checked) (s := Rows.OpenSpec.upto Rows.orderAllSpec) (k := Rows.uptoSmall) rfl false ⟨#[], #[.slice none 0 0, .slice none 0 0], []⟩ 8 (by kernel_rfl) (by kernel_rfl) (by kernel_rfl) (x := ([.nil, .nil], [], [])) (by kernel_rfl) rfl (by kernel_rfl)) ?_
  intro W base args ds gs before hval0 hW _ hk0 _
  have hk : Rows.uptoSmall H (ds ++ gs) = true := hk0
  have hval : ∀ (j : Nat) t v, Try.f5.params[j]? = some t → args[j]? = some v → Value.okWide Try.prog W .any base t v := hval0
  have hW' := hW
  obtain ⟨p, q, hA0, hV, rfl, hfz, hnd⟩ := hW
  have hA : DataW.TrodAll enc Try.prog W 0 (fun _ => true) true Try.f5.params.toList args.toList ds p := hA0
  rw [Try.params5] at hA hval
  obtain ⟨v0, vs0, d0, ds0, p0, q0, hargs, rfl, rfl, h0, r0⟩ := trodAll_cons hA
  obtain ⟨v1, vs1, d1, ds1, p1, q1, rfl, rfl, rfl, h1, r1⟩ := trodAll_cons r0
  obtain ⟨rfl, rfl, rfl⟩ := trodAll_nil r1
  obtain rfl : args = #[v0, v1] := by cases args; simp_all
  obtain ⟨rfl, rfl⟩ := trodVars_none hV
  have hWt := wt_upto (H := H) Try.prog
  have k0 := h0
  have lt0 : ∀ x ∈ p0, x.block < W.heap.size := by obtain ⟨m, hm⟩ := k0; exact DataW.trod_lt m _ _ _ hm
  have u0 : WtU 55 d0 := wtu_of hk (by simp)
  obtain ⟨fu0, hf0⟩ := h0
  obtain ⟨a0, n0, c0, rfl⟩ := okWide_slice Try.underlying55 (hval 0 55 v0 rfl rfl)
  obtain ⟨x0, e0, l0, o0⟩ := SlD.of (trod_slice (α := GCall) (sz := 11) GCall.cells (okGCall W _ _) hWt (by exact Try.underlying55) (by kernel_rfl) (by exact of_decide_eq_true (by kernel_rfl)) (by decide) (fun _ => rfl) (fun fu cs y h hy => open_GCall hWt h hy) hf0 u0)
  obtain rfl : x0 = ⟨a0, n0, c0⟩ := by cases x0; simp [Value.cells, SlH.v] at e0; simp [e0]
  have k1 := h1
  have lt1 : ∀ x ∈ p1, x.block < W.heap.size := by obtain ⟨m, hm⟩ := k1; exact DataW.trod_lt m _ _ _ hm
  have u1 : WtU 24 d1 := wtu_of hk (by simp)
  obtain ⟨fu1, hf1⟩ := h1
  obtain ⟨a1, n1, c1, rfl⟩ := okWide_slice Try.underlying24 (hval 1 24 v1 rfl rfl)
  obtain ⟨x1, e1, l1, o1⟩ := SlD.of (trod_slice (α := Int) (sz := 1) (fun y => [.int .i64 y]) ((fun y => Rng .i64 y)) hWt (by exact Try.underlying24) (by kernel_rfl) (by exact of_decide_eq_true (by kernel_rfl)) (by decide) (fun _ => rfl) (fun fu cs y h hy => trod_int (by exact Try.underlying3) h) hf1 u1)
  obtain rfl : x1 = ⟨a1, n1, c1⟩ := by cases x1; simp [Value.cells, SlH.v] at e1; simp [e1]
  refine (OrderAll _ _ (Nat.le_refl _) (Nat.le_refl _) W (⟨a0, n0, c0⟩ : SlH) (⟨a1, n1, c1⟩ : SlH) l0 l1 o0 o1 (fun y hy => by obtain ⟨lv, hlv⟩ := (o0.all y hy).2.2.2.2.1; exact VB.of hlv) (fun y hy => by obtain ⟨lv, hlv⟩ := (o0.all y hy).2.2.2.2.1; exact byr_of hlv) (fun y hy => by obtain ⟨lv, hlv⟩ := (o0.all y hy).2.2.2.2.1; exact Nat.le_trans hlv.cap (Nat.le_trans hlv.bnd (by decide)))).mono fun e W' hh => ?_
  obtain ⟨rfl, hfr⟩ := hh
  have bel := hfr.below
  exact ⟨_, rfl, _, _, _, [], _, [], hW', trodAll_mk1 (shut_bool Try.underlying4 _), (trodAll_cons_mk (Below.trod laidOut (by kernel_rfl) (of_decide_eq_true (by kernel_rfl)) k0 bel lt0) (trodAll_cons_mk (Below.trod laidOut (by kernel_rfl) (of_decide_eq_true (by kernel_rfl)) k1 bel lt1) trodAll_mk0)), rfl, bel.frame _, fun h => by cases h⟩
theorem over : Rows.orderAllUptoRow.holds Try.pinned (Rows.OpenSpec.upto Rows.orderAllSpec) :=
  OpenClaim.holds_of_cond 5 Try.f5 rfl rfl rfl rfl rfl rfl rfl ⟨rfl, rfl, rfl, rfl, rfl⟩ rfl rfl rfl rfl rfl (by kernel_rfl) Try.func5 (by kernel_rfl)
    (of_decide_eq_true (by kernel_rfl)) (by unfold Func.isWrapper; first | (rw [if_pos (by decide +kernel)]; kernel_rfl) | (rw [if_neg (by decide +kernel)]; exact ⟨rfl, rfl⟩))
    (fun os started H enc _ F => lifted os started H enc F)
theorem proved : Rows.OrderAllUptoSaid := over
#print axioms proved
end orderAll
end Go.Proofs.Ytdahgdkadfdkeaa.K
namespace Go.Proofs.Ytdahgdkadfdkeaa
/-- The law, for the claim. -/
theorem orderAll_holds : Rows.OrderAllUptoSaid := K.orderAll.proved
end Go.Proofs.Ytdahgdkadfdkeaa
