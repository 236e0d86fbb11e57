/- It is proved that the law TagSets answers true for every input that can be read as data, and never panics; the conditions are those of the given statement. -/
import Derived.Test.YtoeholipggkcaaaRows
import Derived.Test.YtoeholipggkcaaaOpen
import Derived.Test.YtoeholipggkcaaaUpto
import Derived.Test.YtoeholipggkcaaaWTagSets
namespace Go.Proofs.Ytoeholipggkcaaa.K
open Go Go.Proofs Go.ChangeShapes Go.WideShapes Go.ChangeAt Go.RowKit
open Go.ChangeMaps (open_string shut_string)
set_option linter.unusedVariables false
set_option linter.unusedSimpArgs false
def okGTag (w : World) (B : TypeId → Nat) (Bs : Nat) (x : GTag) : Prop := (Rng .i64 x.Count) ∧ (Rng .i64 x.Client)
theorem open_GTag {H : Type} {enc : TypeId × Value → H} {w : World} {Wt : TypeId → DataW H → Prop} {B : TypeId → Nat} {Bs : Nat} {fuel : Nat} {cs : List Value} {y : DataW H × List MemPlace} (hW : WtOk Try.prog Wt B Bs) (h : trodA enc Try.prog w fuel 29 cs = some y) (hy : Wt 29 y.1) :
    ∃ x : GTag, cs = x.cells ∧ okGTag w B Bs x := by
  obtain ⟨hl, hf⟩ := trod_struct hW (by exact Try.underlying29) h hy
  rw [show Try.prog.cellsOf 29 = 2 from by kernel_rfl] at hl
  clear h hy
  obtain ⟨c0, cs, rfl, hl0⟩ := len_succ (n := 1) hl
  obtain ⟨c1, cs, rfl, hl1⟩ := len_succ (n := 0) hl0
  obtain rfl := len_zero hl1
  obtain ⟨f0, z0, h0, w0⟩ := hf 0 _ rfl
  replace h0 : trodA enc Try.prog w f0 2 (List.take (Try.prog.cellsOf 2) (List.drop 0 [c0, c1])) = some z0 := h0
  replace w0 : Wt 2 z0.1 := w0
  rw [show List.take (Try.prog.cellsOf 2) (List.drop 0 [c0, c1]) = [c0] from by kernel_rfl] at h0
  obtain ⟨x0, e0, o0⟩ := trod_int (by exact Try.underlying2) h0
  simp only [List.cons.injEq, and_true] at e0
  obtain ⟨f1, z1, h1, w1⟩ := hf 1 _ rfl
  replace h1 : trodA enc Try.prog w f1 3 (List.take (Try.prog.cellsOf 3) (List.drop 1 [c0, c1])) = some z1 := h1
  replace w1 : Wt 3 z1.1 := w1
  rw [show List.take (Try.prog.cellsOf 3) (List.drop 1 [c0, c1]) = [c1] from by kernel_rfl] at h1
  obtain ⟨x1, e1, o1⟩ := trod_int (by exact Try.underlying3) h1
  simp only [List.cons.injEq, and_true] at e1
  subst e0
  subst e1
  exact ⟨⟨x0, x1⟩, rfl, ⟨o0, o1⟩⟩
def okGsherdlaw08_Op (w : World) (B : TypeId → Nat) (Bs : Nat) (x : Gsherdlaw08_Op) : Prop := (Rng .i64 x.Kind) ∧ (okGTag w B Bs x.T) ∧ (Rng .i64 x.N)
theorem open_Gsherdlaw08_Op {H : Type} {enc : TypeId × Value → H} {w : World} {Wt : TypeId → DataW H → Prop} {B : TypeId → Nat} {Bs : Nat} {fuel : Nat} {cs : List Value} {y : DataW H × List MemPlace} (hW : WtOk Try.prog Wt B Bs) (h : trodA enc Try.prog w fuel 45 cs = some y) (hy : Wt 45 y.1) :
    ∃ x : Gsherdlaw08_Op, cs = x.cells ∧ okGsherdlaw08_Op w B Bs x := by
  obtain ⟨hl, hf⟩ := trod_struct hW (by exact Try.underlying45) h hy
  rw [show Try.prog.cellsOf 45 = 4 from by kernel_rfl] at hl
  clear h hy
  obtain ⟨c0, cs, rfl, hl0⟩ := len_succ (n := 3) hl
  obtain ⟨c1, cs, rfl, hl1⟩ := len_succ (n := 2) hl0
  obtain ⟨c2, cs, rfl, hl2⟩ := len_succ (n := 1) hl1
  obtain ⟨c3, cs, rfl, hl3⟩ := len_succ (n := 0) hl2
  obtain rfl := len_zero hl3
  obtain ⟨f0, z0, h0, w0⟩ := hf 0 _ rfl
  replace h0 : trodA enc Try.prog w f0 3 (List.take (Try.prog.cellsOf 3) (List.drop 0 [c0, c1, c2, c3])) = some z0 := h0
  replace w0 : Wt 3 z0.1 := w0
  rw [show List.take (Try.prog.cellsOf 3) (List.drop 0 [c0, c1, c2, c3]) = [c0] from by kernel_rfl] at h0
  obtain ⟨x0, e0, o0⟩ := trod_int (by exact Try.underlying3) h0
  simp only [List.cons.injEq, and_true] at e0
  obtain ⟨f1, z1, h1, w1⟩ := hf 1 _ rfl
  replace h1 : trodA enc Try.prog w f1 29 (List.take (Try.prog.cellsOf 29) (List.drop 1 [c0, c1, c2, c3])) = some z1 := h1
  replace w1 : Wt 29 z1.1 := w1
  rw [show List.take (Try.prog.cellsOf 29) (List.drop 1 [c0, c1, c2, c3]) = [c1, c2] from by kernel_rfl] at h1
  obtain ⟨x1, e1, o1⟩ := open_GTag hW h1 w1
  simp only [GTag.cells, List.cons.injEq, and_true] at e1
  obtain ⟨f2, z2, h2, w2⟩ := hf 2 _ rfl
  replace h2 : trodA enc Try.prog w f2 3 (List.take (Try.prog.cellsOf 3) (List.drop 3 [c0, c1, c2, c3])) = some z2 := h2
  replace w2 : Wt 3 z2.1 := w2
  rw [show List.take (Try.prog.cellsOf 3) (List.drop 3 [c0, c1, c2, c3]) = [c3] from by kernel_rfl] at h2
  obtain ⟨x2, e2, o2⟩ := trod_int (by exact Try.underlying3) h2
  simp only [List.cons.injEq, and_true] at e2
  subst e0
  obtain ⟨rfl, rfl⟩ := e1
  subst e2
  exact ⟨⟨x0, x1, x2⟩, rfl, ⟨o0, o1, o2⟩⟩
namespace tagSets
theorem own : ownKnob Try.prog.godebug = none := by kernel_rfl
theorem laidOut : laidOutB Try.prog = true := by kernel_rfl
set_option maxRecDepth 100000 in
theorem lifted (os : Os) (started : os.Started) (H : Type) (enc : TypeId × Value → H) (F : Stop.Interp) :
    ReturnsInHanded {} Try.checked os 3 .any ((Rows.OpenSpec.upto Rows.tagSetsSpec).pre6 enc Try.prog Try.f3 Rows.tagSetsUptoRow.domain false) (((Rows.OpenSpec.upto Rows.tagSetsSpec).at F).post enc Try.prog Try.f3 false true false false) := by
  refine returnsInHanded_of_cond (C := Try.checked) (s := Rows.OpenSpec.upto Rows.tagSetsSpec) (k := Rows.uptoSmall) rfl own started (by kernel_rfl) Try.func3
    (OpenSpec.witness (enc := enc) (C := Try.checked) (s := Rows.OpenSpec.upto Rows.tagSetsSpec) (k := Rows.uptoSmall) rfl false ⟨#[], #[.slice none 0 0, .slice none 0 0], []⟩ 8 (by kernel_rfl) (by kernel_rfl) (by kernel_rfl) (x := ([.nil, .nil], [], [])) (by kernel_rfl) rfl (by kernel_rfl)) ?_
  intro W base args ds gs before hval0 hW _ hk0 _
  have hk : Rows.uptoSmall H (ds ++ gs) = true := hk0
  have hval : ∀ (j : Nat) t v, Try.f3.params[j]? = some t → args[j]? = some v → Value.okWide Try.prog W .any base t v := hval0
  have hW' := hW
  obtain ⟨p, q, hA0, hV, rfl, hfz, hnd⟩ := hW
  have hA : DataW.TrodAll enc Try.prog W 0 (fun _ => true) true Try.f3.params.toList args.toList ds p := hA0
  rw [Try.params3] at hA hval
  obtain ⟨v0, vs0, d0, ds0, p0, q0, hargs, rfl, rfl, h0, r0⟩ := trodAll_cons hA
  obtain ⟨v1, vs1, d1, ds1, p1, q1, rfl, rfl, rfl, h1, r1⟩ := trodAll_cons r0
  obtain ⟨rfl, rfl, rfl⟩ := trodAll_nil r1
  obtain rfl : args = #[v0, v1] := by cases args; simp_all
  obtain ⟨rfl, rfl⟩ := trodVars_none hV
  have hWt := wt_upto (H := H) Try.prog
  have k0 := h0
  have lt0 : ∀ x ∈ p0, x.block < W.heap.size := by obtain ⟨m, hm⟩ := k0; exact DataW.trod_lt m _ _ _ hm
  have u0 : WtU 22 d0 := wtu_of hk (by simp)
  obtain ⟨fu0, hf0⟩ := h0
  obtain ⟨a0, n0, c0, rfl⟩ := okWide_slice Try.underlying22 (hval 0 22 v0 rfl rfl)
  obtain ⟨x0, e0, l0, o0⟩ := SlD.of (trod_slice (α := GTag) (sz := 2) GTag.cells (okGTag W _ _) hWt (by exact Try.underlying22) (by kernel_rfl) (by exact of_decide_eq_true (by kernel_rfl)) (by decide) (fun _ => rfl) (fun fu cs y h hy => open_GTag hWt h hy) hf0 u0)
  obtain rfl : x0 = ⟨a0, n0, c0⟩ := by cases x0; simp [Value.cells, SlH.v] at e0; simp [e0]
  have k1 := h1
  have lt1 : ∀ x ∈ p1, x.block < W.heap.size := by obtain ⟨m, hm⟩ := k1; exact DataW.trod_lt m _ _ _ hm
  have u1 : WtU 23 d1 := wtu_of hk (by simp)
  obtain ⟨fu1, hf1⟩ := h1
  obtain ⟨a1, n1, c1, rfl⟩ := okWide_slice Try.underlying23 (hval 1 23 v1 rfl rfl)
  obtain ⟨x1, e1, l1, o1⟩ := SlD.of (trod_slice (α := Gsherdlaw08_Op) (sz := 4) Gsherdlaw08_Op.cells (okGsherdlaw08_Op W _ _) hWt (by exact Try.underlying23) (by kernel_rfl) (by exact of_decide_eq_true (by kernel_rfl)) (by decide) (fun _ => rfl) (fun fu cs y h hy => open_Gsherdlaw08_Op hWt h hy) hf1 u1)
  obtain rfl : x1 = ⟨a1, n1, c1⟩ := by cases x1; simp [Value.cells, SlH.v] at e1; simp [e1]
  refine (TagSets l0 l1 _ _ _ _ _ _ W o0.len (o0.len ▸ Nat.le_trans o0.cap o0.bnd) o0.rd o1.len (o1.len ▸ Nat.le_trans o1.cap o1.bnd) o1.rd (fun y hy => (o1.all y hy).2.2)).mono fun e W' hh => ?_
  obtain ⟨rfl, hfr⟩ := hh
  have bel := hfr.below
  exact ⟨_, rfl, _, _, _, [], _, [], hW', trodAll_mk1 (shut_bool Try.underlying4 _), (trodAll_cons_mk (Below.trod laidOut (by kernel_rfl) (of_decide_eq_true (by kernel_rfl)) k0 bel lt0) (trodAll_cons_mk (Below.trod laidOut (by kernel_rfl) (of_decide_eq_true (by kernel_rfl)) k1 bel lt1) trodAll_mk0)), rfl, bel.frame _, fun h => by cases h⟩
theorem over : Rows.tagSetsUptoRow.holds Try.pinned (Rows.OpenSpec.upto Rows.tagSetsSpec) :=
  OpenClaim.holds_of_cond 3 Try.f3 rfl rfl rfl rfl rfl rfl rfl ⟨rfl, rfl, rfl, rfl, rfl⟩ rfl rfl rfl rfl rfl (by kernel_rfl) Try.func3 (by kernel_rfl)
    (of_decide_eq_true (by kernel_rfl)) (by unfold Func.isWrapper; first | (rw [if_pos (by decide +kernel)]; kernel_rfl) | (rw [if_neg (by decide +kernel)]; exact ⟨rfl, rfl⟩))
    (fun os started H enc _ F => lifted os started H enc F)
theorem proved : Rows.TagSetsUptoSaid := over
#print axioms proved
end tagSets
end Go.Proofs.Ytoeholipggkcaaa.K
namespace Go.Proofs.Ytoeholipggkcaaa
/-- The law, for the claim. -/
theorem tagSets_holds : Rows.TagSetsUptoSaid := K.tagSets.proved
end Go.Proofs.Ytoeholipggkcaaa
