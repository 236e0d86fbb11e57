/- It is proved that the law TopTable answers true for every input that can be read as data, and never panics; the conditions are those of the given statement. -/
import Derived.Test.YtdkgdidnknojlaaRows
import Derived.Test.YtdkgdidnknojlaaZ1
import Derived.Test.YtdkgdidnknojlaaZ13
namespace Go.Proofs.Ytdkgdidnknojlaa.K
open Go Go.Proofs Go.ChangeShapes Go.WideShapes Go.ChangeAt Go.RowKit
open Go.ChangeMaps (open_string shut_string)
set_option linter.unusedVariables false
set_option linter.unusedSimpArgs false

def okGTag (w : World) (B : TypeId → Nat) (Bs : Nat) (x : GTag) : Prop := (Rng .i64 x.Count) ∧ (Rng .i64 x.Client)
theorem open_GTag {H : Type} {enc : TypeId × Value → H} {w : World} {Wt : TypeId → DataW H → Prop} {B : TypeId → Nat} {Bs : Nat} {fuel : Nat} {cs : List Value} {y : DataW H × List MemPlace} (hW : WtOk Try.prog Wt B Bs) (h : trodA enc Try.prog w fuel 31 cs = some y) (hy : Wt 31 y.1) :
    ∃ x : GTag, cs = x.cells ∧ okGTag w B Bs x := by
  obtain ⟨hl, hf⟩ := trod_struct hW (by exact Try.underlying31) h hy
  rw [show Try.prog.cellsOf 31 = 2 from by kernel_rfl] at hl
  clear h hy
  obtain ⟨c0, cs, rfl, hl0⟩ := len_succ (n := 1) hl
  obtain ⟨c1, cs, rfl, hl1⟩ := len_succ (n := 0) hl0
  obtain rfl := len_zero hl1
  obtain ⟨f0, z0, h0, w0⟩ := hf 0 _ rfl
  replace h0 : trodA enc Try.prog w f0 2 (List.take (Try.prog.cellsOf 2) (List.drop 0 [c0, c1])) = some z0 := h0
  replace w0 : Wt 2 z0.1 := w0
  rw [show List.take (Try.prog.cellsOf 2) (List.drop 0 [c0, c1]) = [c0] from by kernel_rfl] at h0
  obtain ⟨x0, e0, o0⟩ := trod_int (by exact Try.underlying2) h0
  simp only [List.cons.injEq, and_true] at e0
  obtain ⟨f1, z1, h1, w1⟩ := hf 1 _ rfl
  replace h1 : trodA enc Try.prog w f1 3 (List.take (Try.prog.cellsOf 3) (List.drop 1 [c0, c1])) = some z1 := h1
  replace w1 : Wt 3 z1.1 := w1
  rw [show List.take (Try.prog.cellsOf 3) (List.drop 1 [c0, c1]) = [c1] from by kernel_rfl] at h1
  obtain ⟨x1, e1, o1⟩ := trod_int (by exact Try.underlying3) h1
  simp only [List.cons.injEq, and_true] at e1
  subst e0
  subst e1
  exact ⟨⟨x0, x1⟩, rfl, ⟨o0, o1⟩⟩
def okGEntry (w : World) (B : TypeId → Nat) (Bs : Nat) (x : GEntry) : Prop := (okGTag w B Bs x.Tag) ∧ (True) ∧ (True) ∧ (∃ l, SlD w (α := Int) (fun y => [.int .u8 y]) ((fun y => Rng .u8 y)) (B 5) x.Data l)
theorem open_GEntry {H : Type} {enc : TypeId × Value → H} {w : World} {Wt : TypeId → DataW H → Prop} {B : TypeId → Nat} {Bs : Nat} {fuel : Nat} {cs : List Value} {y : DataW H × List MemPlace} (hW : WtOk Try.prog Wt B Bs) (h : trodA enc Try.prog w fuel 34 cs = some y) (hy : Wt 34 y.1) :
    ∃ x : GEntry, cs = x.cells ∧ okGEntry w B Bs x := by
  obtain ⟨hl, hf⟩ := trod_struct hW (by exact Try.underlying34) h hy
  rw [show Try.prog.cellsOf 34 = 5 from by kernel_rfl] at hl
  clear h hy
  obtain ⟨c0, cs, rfl, hl0⟩ := len_succ (n := 4) hl
  obtain ⟨c1, cs, rfl, hl1⟩ := len_succ (n := 3) hl0
  obtain ⟨c2, cs, rfl, hl2⟩ := len_succ (n := 2) hl1
  obtain ⟨c3, cs, rfl, hl3⟩ := len_succ (n := 1) hl2
  obtain ⟨c4, cs, rfl, hl4⟩ := len_succ (n := 0) hl3
  obtain rfl := len_zero hl4
  obtain ⟨f0, z0, h0, w0⟩ := hf 0 _ rfl
  replace h0 : trodA enc Try.prog w f0 31 (List.take (Try.prog.cellsOf 31) (List.drop 0 [c0, c1, c2, c3, c4])) = some z0 := h0
  replace w0 : Wt 31 z0.1 := w0
  rw [show List.take (Try.prog.cellsOf 31) (List.drop 0 [c0, c1, c2, c3, c4]) = [c0, c1] from by kernel_rfl] at h0
  obtain ⟨x0, e0, o0⟩ := open_GTag hW h0 w0
  simp only [GTag.cells, List.cons.injEq, and_true] at e0
  obtain ⟨f1, z1, h1, w1⟩ := hf 1 _ rfl
  replace h1 : trodA enc Try.prog w f1 4 (List.take (Try.prog.cellsOf 4) (List.drop 2 [c0, c1, c2, c3, c4])) = some z1 := h1
  replace w1 : Wt 4 z1.1 := w1
  rw [show List.take (Try.prog.cellsOf 4) (List.drop 2 [c0, c1, c2, c3, c4]) = [c2] from by kernel_rfl] at h1
  obtain ⟨x1, e1⟩ := trod_bool (by exact Try.underlying4) h1
  simp only [List.cons.injEq, and_true] at e1
  obtain ⟨f2, z2, h2, w2⟩ := hf 2 _ rfl
  replace h2 : trodA enc Try.prog w f2 4 (List.take (Try.prog.cellsOf 4) (List.drop 3 [c0, c1, c2, c3, c4])) = some z2 := h2
  replace w2 : Wt 4 z2.1 := w2
  rw [show List.take (Try.prog.cellsOf 4) (List.drop 3 [c0, c1, c2, c3, c4]) = [c3] from by kernel_rfl] at h2
  obtain ⟨x2, e2⟩ := trod_bool (by exact Try.underlying4) h2
  simp only [List.cons.injEq, and_true] at e2
  obtain ⟨f3, z3, h3, w3⟩ := hf 3 _ rfl
  replace h3 : trodA enc Try.prog w f3 32 (List.take (Try.prog.cellsOf 32) (List.drop 4 [c0, c1, c2, c3, c4])) = some z3 := h3
  replace w3 : Wt 32 z3.1 := w3
  rw [show List.take (Try.prog.cellsOf 32) (List.drop 4 [c0, c1, c2, c3, c4]) = [c4] from by kernel_rfl] at h3
  obtain ⟨x3, e3, o3⟩ := SlD.of (trod_slice (α := Int) (sz := 1) (fun y => [.int .u8 y]) ((fun y => Rng .u8 y)) hW (by exact Try.underlying32) (by kernel_rfl) (by exact of_decide_eq_true (by kernel_rfl)) (by decide) (fun _ => rfl) (fun fu cs y h hy => trod_int (by exact Try.underlying5) h) h3 w3)
  simp only [List.cons.injEq, and_true] at e3
  obtain ⟨rfl, rfl⟩ := e0
  subst e1
  subst e2
  subst e3
  exact ⟨⟨x0, x1, x2, x3⟩, rfl, ⟨o0, trivial, trivial, o3⟩⟩
def okGUpdate (w : World) (B : TypeId → Nat) (Bs : Nat) (x : GUpdate) : Prop := (Rng .i64 x.Kind) ∧ (x.Key.size ≤ Bs) ∧ (okGEntry w B Bs x.Entry)
theorem open_GUpdate {H : Type} {enc : TypeId × Value → H} {w : World} {Wt : TypeId → DataW H → Prop} {B : TypeId → Nat} {Bs : Nat} {fuel : Nat} {cs : List Value} {y : DataW H × List MemPlace} (hW : WtOk Try.prog Wt B Bs) (h : trodA enc Try.prog w fuel 36 cs = some y) (hy : Wt 36 y.1) :
    ∃ x : GUpdate, cs = x.cells ∧ okGUpdate w B Bs x := by
  obtain ⟨hl, hf⟩ := trod_struct hW (by exact Try.underlying36) h hy
  rw [show Try.prog.cellsOf 36 = 7 from by kernel_rfl] at hl
  clear h hy
  obtain ⟨c0, cs, rfl, hl0⟩ := len_succ (n := 6) hl
  obtain ⟨c1, cs, rfl, hl1⟩ := len_succ (n := 5) hl0
  obtain ⟨c2, cs, rfl, hl2⟩ := len_succ (n := 4) hl1
  obtain ⟨c3, cs, rfl, hl3⟩ := len_succ (n := 3) hl2
  obtain ⟨c4, cs, rfl, hl4⟩ := len_succ (n := 2) hl3
  obtain ⟨c5, cs, rfl, hl5⟩ := len_succ (n := 1) hl4
  obtain ⟨c6, cs, rfl, hl6⟩ := len_succ (n := 0) hl5
  obtain rfl := len_zero hl6
  obtain ⟨f0, z0, h0, w0⟩ := hf 0 _ rfl
  replace h0 : trodA enc Try.prog w f0 3 (List.take (Try.prog.cellsOf 3) (List.drop 0 [c0, c1, c2, c3, c4, c5, c6])) = some z0 := h0
  replace w0 : Wt 3 z0.1 := w0
  rw [show List.take (Try.prog.cellsOf 3) (List.drop 0 [c0, c1, c2, c3, c4, c5, c6]) = [c0] from by kernel_rfl] at h0
  obtain ⟨x0, e0, o0⟩ := trod_int (by exact Try.underlying3) h0
  simp only [List.cons.injEq, and_true] at e0
  obtain ⟨f1, z1, h1, w1⟩ := hf 1 _ rfl
  replace h1 : trodA enc Try.prog w f1 9 (List.take (Try.prog.cellsOf 9) (List.drop 1 [c0, c1, c2, c3, c4, c5, c6])) = some z1 := h1
  replace w1 : Wt 9 z1.1 := w1
  rw [show List.take (Try.prog.cellsOf 9) (List.drop 1 [c0, c1, c2, c3, c4, c5, c6]) = [c1] from by kernel_rfl] at h1
  obtain ⟨x1, e1, o1⟩ := trod_str hW (by exact Try.underlying9) h1 w1
  simp only [List.cons.injEq, and_true] at e1
  obtain ⟨f2, z2, h2, w2⟩ := hf 2 _ rfl
  replace h2 : trodA enc Try.prog w f2 34 (List.take (Try.prog.cellsOf 34) (List.drop 2 [c0, c1, c2, c3, c4, c5, c6])) = some z2 := h2
  replace w2 : Wt 34 z2.1 := w2
  rw [show List.take (Try.prog.cellsOf 34) (List.drop 2 [c0, c1, c2, c3, c4, c5, c6]) = [c2, c3, c4, c5, c6] from by kernel_rfl] at h2
  obtain ⟨x2, e2, o2⟩ := open_GEntry hW h2 w2
  simp only [GEntry.cells, List.cons.injEq, and_true] at e2
  subst e0
  subst e1
  obtain ⟨rfl, rfl, rfl, rfl, rfl⟩ := e2
  exact ⟨⟨x0, x1, x2⟩, rfl, ⟨o0, o1, o2⟩⟩
namespace topTable
theorem own : ownKnob Try.prog.godebug = none := by kernel_rfl
theorem laidOut : laidOutB Try.prog = true := by kernel_rfl
set_option maxRecDepth 100000 in
theorem lifted (os : Os) (started : os.Started) (H : Type) (enc : TypeId × Value → H) (F : Stop.Interp) :
    ReturnsInHanded {} Try.checked os 3 .any ((Rows.OpenSpec.upto Rows.topTableSpec).pre6 enc Try.prog Try.f3 Rows.topTableUptoRow.domain false) (((Rows.OpenSpec.upto Rows.topTableSpec).at F).post enc Try.prog Try.f3 false true false false) := by
  refine returnsInHanded_of_cond (C := Try.checked) (s := Rows.OpenSpec.upto Rows.topTableSpec) (k := Rows.uptoSmall) rfl own started (by kernel_rfl) Try.func3
    (OpenSpec.witness (enc := enc) (C := Try.checked) (s := Rows.OpenSpec.upto Rows.topTableSpec) (k := Rows.uptoSmall) rfl false ⟨#[], #[.int .i64 0, .slice none 0 0], []⟩ 8 (by kernel_rfl) (by kernel_rfl) (by kernel_rfl) (x := ([.lit (.int .i64 0), .nil], [], [])) (by kernel_rfl) rfl (by kernel_rfl)) ?_
  intro W base args ds gs before hval0 hW _ hk0 _
  have hk : Rows.uptoSmall H (ds ++ gs) = true := hk0
  have hval : ∀ (j : Nat) t v, Try.f3.params[j]? = some t → args[j]? = some v → Value.okWide Try.prog W .any base t v := hval0
  have hW' := hW
  obtain ⟨p, q, hA0, hV, rfl, hfz, hnd⟩ := hW
  have hA : DataW.TrodAll enc Try.prog W 0 (fun _ => true) true Try.f3.params.toList args.toList ds p := hA0
  rw [Try.params3] at hA hval
  obtain ⟨v0, vs0, d0, ds0, p0, q0, hargs, rfl, rfl, h0, r0⟩ := trodAll_cons hA
  obtain ⟨v1, vs1, d1, ds1, p1, q1, rfl, rfl, rfl, h1, r1⟩ := trodAll_cons r0
  obtain ⟨rfl, rfl, rfl⟩ := trodAll_nil r1
  obtain rfl : args = #[v0, v1] := by cases args; simp_all
  obtain ⟨rfl, rfl⟩ := trodVars_none hV
  have hWt := wt_upto (H := H) Try.prog
  have k0 := h0
  have lt0 : ∀ x ∈ p0, x.block < W.heap.size := by obtain ⟨m, hm⟩ := k0; exact DataW.trod_lt m _ _ _ hm
  have u0 : WtU 3 d0 := wtu_of hk (by simp)
  obtain ⟨fu0, hf0⟩ := h0
  obtain ⟨x0, rfl, _, _, o0⟩ := open_int Try.underlying3 (hval 0 3 v0 rfl rfl) k0
  have k1 := h1
  have lt1 : ∀ x ∈ p1, x.block < W.heap.size := by obtain ⟨m, hm⟩ := k1; exact DataW.trod_lt m _ _ _ hm
  have u1 : WtU 22 d1 := wtu_of hk (by simp)
  obtain ⟨fu1, hf1⟩ := h1
  obtain ⟨a1, n1, c1, rfl⟩ := okWide_slice Try.underlying22 (hval 1 22 v1 rfl rfl)
  obtain ⟨x1, e1, l1, o1⟩ := SlD.of (trod_slice (α := GUpdate) (sz := 7) GUpdate.cells (okGUpdate W _ _) hWt (by exact Try.underlying22) (by kernel_rfl) (by exact of_decide_eq_true (by kernel_rfl)) (by decide) (fun _ => rfl) (fun fu cs y h hy => open_GUpdate hWt h hy) hf1 u1)
  obtain rfl : x1 = ⟨a1, n1, c1⟩ := by cases x1; simp [Value.cells, SlH.v] at e1; simp [e1]
  refine (TopTable x0 l1 _ _ _ W o1.len (o1.len ▸ Nat.le_trans o1.cap o1.bnd) o1.rd (fun y hy => bt_of (o1.all y hy).2.2.2.2.2)).mono fun e W' hh => ?_
  obtain ⟨rfl, hfr⟩ := hh
  have bel := hfr.below
  exact ⟨_, rfl, _, _, _, [], _, [], hW', trodAll_mk1 (shut_bool Try.underlying4 _), (trodAll_cons_mk (Below.trod laidOut (by kernel_rfl) (of_decide_eq_true (by kernel_rfl)) k0 bel lt0) (trodAll_cons_mk (Below.trod laidOut (by kernel_rfl) (of_decide_eq_true (by kernel_rfl)) k1 bel lt1) trodAll_mk0)), rfl, bel.frame _, fun h => by cases h⟩
theorem over : Rows.topTableUptoRow.holds Try.pinned (Rows.OpenSpec.upto Rows.topTableSpec) :=
  OpenClaim.holds_of_cond 3 Try.f3 rfl rfl rfl rfl rfl rfl rfl ⟨rfl, rfl, rfl, rfl, rfl⟩ rfl rfl rfl rfl rfl (by kernel_rfl) Try.func3 (by kernel_rfl)
    (of_decide_eq_true (by kernel_rfl)) (by unfold Func.isWrapper; first | (rw [if_pos (by decide +kernel)]; kernel_rfl) | (rw [if_neg (by decide +kernel)]; exact ⟨rfl, rfl⟩))
    (fun os started H enc _ F => lifted os started H enc F)
theorem proved : Rows.TopTableUptoSaid := over
#print axioms proved
end topTable
end Go.Proofs.Ytdkgdidnknojlaa.K
namespace Go.Proofs.Ytdkgdidnknojlaa
/-- The law, for the claim. -/
theorem topTable_holds : Rows.TopTableUptoSaid := K.topTable.proved
end Go.Proofs.Ytdkgdidnknojlaa
