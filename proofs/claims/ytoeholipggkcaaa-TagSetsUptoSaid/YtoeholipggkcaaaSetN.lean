/- The walks of SetN: what each function computes. -/
import Derived.Test.YtoeholipggkcaaaProg
import Derived.Test.YtoeholipggkcaaaCoreO
import Derived.Test.YtoeholipggkcaaaSetM
namespace Go.Proofs.Ytoeholipggkcaaa.K
open Go Go.Proofs Go.RowKit
set_option linter.unusedVariables false
set_option linter.unusedSimpArgs false
set_option maxRecDepth 20000
set_option maxHeartbeats 4000000

structure Gsherdlaw08_Op where
  Kind : Int
  T : GTag
  N : Int
def Gsherdlaw08_Op.cells (x : Gsherdlaw08_Op) : List Go.Value := [.int .i64 x.Kind, .int .i64 x.T.Count, .int .i64 x.T.Client, .int .i64 x.N]
def Gsherdlaw08_Op.val (x : Gsherdlaw08_Op) : Go.Value := .agg x.cells.toArray
instance : Inhabited Gsherdlaw08_Op := ⟨⟨0, default, 0⟩⟩
theorem Gsherdlaw08_Op.len (x : Gsherdlaw08_Op) : x.cells.length = 4 := rfl
theorem add_len {xs ys : List GTag} {t : GTag} {b : Bool} {e : Int} (h : addR xs t b e ys) : ys.length ≤ xs.length + 1 := by
  rcases h with ⟨_, _, _, e1⟩ | ⟨_, _, k, f, hf, ⟨_, _, e1⟩ | ⟨_, _, e1⟩⟩
  · rw [e1]; omega
  · rw [e1]; omega
  · rw [e1]; have := hf.1; simp only [List.length_append, List.length_cons, List.length_take, List.length_drop]; omega
theorem high_one {ys : List GTag} {n n2 : Nat} {i e f : Int} {x y : GTag} (hn : n = n2) (h : ((¬ (0 ≤ i ∧ i < (n : Int)) ∧ x = tag0_ ∧ e = 50) ∨ (0 ≤ i ∧ i < (n : Int) ∧ x = ys[n - 1 - i.toNat]! ∧ e = 0))) (h2 : ((¬ (0 ≤ i ∧ i < (n2 : Int)) ∧ y = tag0_ ∧ f = 50) ∨ (0 ≤ i ∧ i < (n2 : Int) ∧ y = ys[n2 - 1 - i.toNat]! ∧ f = 0))) : x = y ∧ e = f := by
  subst hn
  rcases h with ⟨a, b, c⟩ | ⟨a, a2, b, c⟩
  · rcases h2 with ⟨p, q, r⟩ | ⟨p, p2, q, r⟩
    · exact ⟨b.trans q.symm, c.trans r.symm⟩
    · exact absurd ⟨p, p2⟩ a
  · rcases h2 with ⟨p, q, r⟩ | ⟨p, p2, q, r⟩
    · exact absurd ⟨a, a2⟩ p
    · exact ⟨b.trans q.symm, c.trans r.symm⟩
theorem law_step (w0 : World) (L : List Res) (ys rs : List GTag) (a : Option Addr) (n c sb : Nat) (a2 : Option Addr) (n2 c2 rb : Nat) (o : Gsherdlaw08_Op) (hoN : -9223372036854775808 ≤ o.N ∧ o.N ≤ 9223372036854775807) (w : World) (E : Eqv ys rs) (hb2 : n ≤ 4194304) (hp0 : Hp w0 Non (Res.row sb [.slice a n c] 52 :: Res.own 29 2 (.slice a n c) n (List.flatMap GTag.cells ys) :: Res.row rb [.slice a2 n2 c2] 55 :: Res.own 29 2 (.slice a2 n2 c2) n2 (List.flatMap GTag.cells rs) :: L) w) :
    Calls Try.prog 14 #[.pointer (some ⟨sb, 0, none⟩), .pointer (some ⟨rb, 0, none⟩), Gsherdlaw08_Op.val o] w (fun r_ w' => ∃ ys' a' n' c' rs' a2' n2' c2', r_ = .returned (.bool true) ∧ (Eqv ys' rs' ∧ ys'.length ≤ ys.length + 1) ∧ Hp w0 Non (Res.row sb [.slice a' n' c'] 52 :: Res.own 29 2 (.slice a' n' c') n' (List.flatMap GTag.cells ys') :: Res.row rb [.slice a2' n2' c2'] 55 :: Res.own 29 2 (.slice a2' n2' c2') n2' (List.flatMap GTag.cells rs') :: L) w') := by
  have hn : n = ys.length := (own_flat (sz := 2) (fun _ => rfl) (by decide) hp0.get1).symm
  have hn2 : n2 = rs.length := (own_flat (sz := 2) (fun _ => rfl) (by decide) hp0.get3).symm
  have hle := E.len
  have hnc := own_cap hp0.get1
  refine calls_of Try.func14 rfl 123 rfl (by simp) ?_
  have he0 : List.map (env0 [.pointer (some ⟨sb, 0, none⟩), .pointer (some ⟨rb, 0, none⟩), Gsherdlaw08_Op.val o]) [0, 1, 2] = [.pointer (some ⟨sb, 0, none⟩), .pointer (some ⟨rb, 0, none⟩), Gsherdlaw08_Op.val o] := by kernel_rfl
  obtain ⟨b0, he0⟩ := toMk he0
  rw [he0]
  clear he0
  refine WP.seq ?_
  refine WP.region _ rfl (by kernel_rfl) ?_
  refine OPS.cons (opStep.box hp0 [.int .i64 o.Kind, .int .i64 o.T.Count, .int .i64 o.T.Client, .int .i64 o.N] (by kernel_rfl) (fun g3 w1 hp2 => ?_))
  refine OPS.batch 1 {} [] [0, 1, 5] [.pointer (some ⟨sb, 0, none⟩), .pointer (some ⟨rb, 0, none⟩), .pointer (some ⟨g3, 0, none⟩)] .nil (by kernel_rfl) (fun b4 => ?_)
  refine OPS.nil ?_
  refine thn_n ?_
  refine WP.seq ?_
  refine WP.seq ?_
  refine WP.pure {} [.int .i64 o.Kind] [0, 1, 5, 19] [.pointer (some ⟨sb, 0, none⟩), .pointer (some ⟨rb, 0, none⟩), .pointer (some ⟨g3, 0, none⟩), .int .i64 o.Kind] (.cons (Ld.row1 (P := Try.prog) (t := 3) (o := 0) (v := .int .i64 o.Kind) hp2.get0 (by kernel_rfl)) .nil) (by kernel_rfl) (fun b5 => ?_)
  refine thn_n ?_
  refine WP.block ?_
  refine WP.seq ?_
  refine WP.pure {} [] [0, 1, 5, 19, 20] [.pointer (some ⟨sb, 0, none⟩), .pointer (some ⟨rb, 0, none⟩), .pointer (some ⟨g3, 0, none⟩), .int .i64 o.Kind, .bool (decide (o.Kind = 0))] .nil (by kernel_rfl) (fun b6 => ?_)
  refine thn_n ?_
  refine WP.test (p := o.Kind = 0) rfl Bp.dec (fun h7 => ?_) (fun h7 => ?_)
  · refine WP.seq ?_
    refine WP.region _ rfl (by kernel_rfl) ?_
    refine OPS.batch 3 {} [.agg #[.int .i64 o.T.Count, .int .i64 o.T.Client]] [1, 5, 23, 25] [.pointer (some ⟨rb, 0, none⟩), .pointer (some ⟨g3, 0, none⟩), .pointer (some ⟨sb, 0, none⟩), .agg #[.int .i64 o.T.Count, .int .i64 o.T.Client]] (.cons (show Ld Try.prog w1 29 ⟨g3, 1, none⟩ (.agg #[.int .i64 o.T.Count, .int .i64 o.T.Client]) from Ld.rowN (cs := [.int .i64 o.T.Count, .int .i64 o.T.Client]) hp2.get0 (by kernel_rfl)) .nil) (by kernel_rfl) (fun b8 => ?_)
    have hp11 := hp2.pull2
    have hp12 := hp11.pull2
    refine OPS.cons (opStep.call (some 26) [.pointer (some ⟨sb, 0, none⟩), .agg #[.int .i64 o.T.Count, .int .i64 o.T.Client]] (by kernel_rfl) (set_Add _ _ ys a n c sb o.T _ (by omega) hp12) ?_)
    rintro _ w13 ⟨b15, e16, a17, n18, c19, ys20, rfl, hq21, hp14⟩
    refine ⟨_, rfl, ?_⟩
    refine OPS.batch 5 {} [] [1, 5, 7, 8] [.pointer (some ⟨rb, 0, none⟩), .pointer (some ⟨g3, 0, none⟩), .bool b15, .int .i64 e16] .nil (by kernel_rfl) (fun b22 => ?_)
    refine OPS.nil ?_
    refine thn_n ?_
    refine WP.seq ?_
    refine WP.region _ rfl (by kernel_rfl) ?_
    refine OPS.batch 3 {} [.agg #[.int .i64 o.T.Count, .int .i64 o.T.Client]] [7, 8, 30, 32] [.bool b15, .int .i64 e16, .pointer (some ⟨rb, 0, none⟩), .agg #[.int .i64 o.T.Count, .int .i64 o.T.Client]] (.cons (show Ld Try.prog w13 29 ⟨g3, 1, none⟩ (.agg #[.int .i64 o.T.Count, .int .i64 o.T.Client]) from Ld.rowN (cs := [.int .i64 o.T.Count, .int .i64 o.T.Client]) hp14.get2 (by kernel_rfl)) .nil) (by kernel_rfl) (fun b23 => ?_)
    have hp26 := hp14.pull4
    have hp27 := hp26.pull4
    refine OPS.cons (opStep.call (some 33) [.pointer (some ⟨rb, 0, none⟩), .agg #[.int .i64 o.T.Count, .int .i64 o.T.Client]] (by kernel_rfl) (ref_Add _ _ rs a2 n2 c2 rb o.T _ (by omega) hp27) ?_)
    rintro _ w28 ⟨b30, e31, a32, n33, c34, ys35, rfl, hq36, hp29⟩
    obtain ⟨hq361, hq362, hq363⟩ := Eqv.add E hq21 hq36
    have hq36l := add_len hq21
    subst hq361
    subst hq362
    refine ⟨_, rfl, ?_⟩
    refine OPS.batch 5 {} [] [7, 8, 9, 10] [.bool b15, .int .i64 e16, .bool b15, .int .i64 e16] .nil (by kernel_rfl) (fun b37 => ?_)
    refine OPS.nil ?_
    refine thn_n ?_
    refine WP.cut (fun e47 w48 => ∃ (x45 : Bool), (True) ∧ Bp x45 (((b15 = true) ↔ (b15 = true)) ∧ (e16 = e16)) ∧ List.map e47 [6] = [.bool x45] ∧ Hp w0 Non (Res.row rb [.slice a32 n33 c34] 55 :: Res.own 29 2 (.slice a32 n33 c34) n33 (List.flatMap GTag.cells ys35) :: Res.row sb [.slice a17 n18 c19] 52 :: Res.own 29 2 (.slice a17 n18 c19) n18 (List.flatMap GTag.cells ys20) :: Res.row g3 [.int .i64 o.Kind, .int .i64 o.T.Count, .int .i64 o.T.Client, .int .i64 o.N] 45 :: L) w48) ?_ ?_
    · refine WP.region _ rfl (by kernel_rfl) ?_
      refine OPS.batch 4 {} [] [8, 10, 39] [.int .i64 e16, .int .i64 e16, .bool (b15 == b15)] .nil (by kernel_rfl) (fun b39 => ?_)
      by_cases h40 : ((b15 = true) ↔ (b15 = true))
      · refine OPS.batch 0 {} [] [8, 10, 39] [.int .i64 e16, .int .i64 e16, .bool (b15 == b15)] .nil (by kernel_rfl) (fun b41 => ?_)
        refine OPS.re [.int .i64 e16, .int .i64 e16, .bool true] (by rw [show (b15 == b15) = true from (Bp.beq Bp.var Bp.var).tt h40]) ?_
        refine OPS.batch 5 { wraps := [43] } [] [6] [.bool (decide (e16 = e16))] .nil (by kernel_rfl) (fun b42 => ?_)
        refine OPS.nil ?_
        refine thn_n ?_
        exact ⟨decide (e16 = e16), trivial, Bp.of Bp.dec (by first | (simp only [h40, iff_false, false_iff, iff_true, true_iff, Classical.not_not, and_true, true_and, and_false, false_and, or_true, true_or, or_false, false_or, not_true_eq_false, not_false_eq_true, and_self, or_self, iff_self]; done) | (simp [h40]; done) | grind | (simp_all; done)), by kernel_rfl, hp29⟩
      · refine OPS.batch 0 {} [] [8, 10, 39] [.int .i64 e16, .int .i64 e16, .bool (b15 == b15)] .nil (by kernel_rfl) (fun b43 => ?_)
        refine OPS.re [.int .i64 e16, .int .i64 e16, .bool false] (by rw [show (b15 == b15) = false from (Bp.beq Bp.var Bp.var).ff h40]) ?_
        refine OPS.batch 5 { wraps := [43] } [] [6] [.bool false] .nil (by kernel_rfl) (fun b44 => ?_)
        refine OPS.nil ?_
        refine thn_n ?_
        exact ⟨false, trivial, Bp.of Bp.f (by first | (simp only [h40, iff_false, false_iff, iff_true, true_iff, Classical.not_not, and_true, true_and, and_false, false_and, or_true, true_or, or_false, false_or, not_true_eq_false, not_false_eq_true, and_self, or_self, iff_self]; done) | (simp [h40]; done) | grind | (simp_all; done)), by kernel_rfl, hp29⟩
    rintro e47 w48 ⟨x45, hd50, hb46, hE51, hp49⟩
    obtain ⟨b52, rfl⟩ := toMk hE51
    clear hE51
    clear hd50
    refine WP.ret ?_
    refine blk_r ?_
    refine thn_r ?_
    refine bodyQ.of _ rfl [.bool x45] ⟨rfl, trivial⟩ ?_
    exact ⟨_, _, _, _, _, _, _, _, congrArg (fun b => Ending.returned (.bool b)) (Bp.tt hb46 (by first | omega | (simp; done) | exact E.2.2 _)), ⟨hq363, hq36l⟩, (((((hp49.pull1).pull1).pull3).pull3).sub (.cons_cons _ (.cons_cons _ (.cons_cons _ (.cons_cons _ (.cons _ (.refl _)))))))⟩
  · refine WP.seq ?_
    refine WP.pure {} [] [0, 1, 5, 19, 44] [.pointer (some ⟨sb, 0, none⟩), .pointer (some ⟨rb, 0, none⟩), .pointer (some ⟨g3, 0, none⟩), .int .i64 o.Kind, .bool (decide (o.Kind = 1))] .nil (by kernel_rfl) (fun b53 => ?_)
    refine thn_n ?_
    refine WP.test (p := o.Kind = 1) rfl Bp.dec (fun h54 => ?_) (fun h54 => ?_)
    · refine WP.seq ?_
      have hp57 := hp2.drew
      refine WP.quiet (fun w55 => Hp w0 Non (Res.row g3 [.int .i64 o.Kind, .int .i64 o.T.Count, .int .i64 o.T.Client, .int .i64 o.N] 45 :: Res.row sb [.slice a n c] 52 :: Res.own 29 2 (.slice a n c) n (List.flatMap GTag.cells ys) :: Res.row rb [.slice a2 n2 c2] 55 :: Res.own 29 2 (.slice a2 n2 c2) n2 (List.flatMap GTag.cells rs) :: L) w55) (by kernel_rfl) hp57 ?_
      have hnehp57 : ∃ wz_, (fun w55 => Hp w0 Non (Res.row g3 [.int .i64 o.Kind, .int .i64 o.T.Count, .int .i64 o.T.Client, .int .i64 o.N] 45 :: Res.row sb [.slice a n c] 52 :: Res.own 29 2 (.slice a n c) n (List.flatMap GTag.cells ys) :: Res.row rb [.slice a2 n2 c2] 55 :: Res.own 29 2 (.slice a2 n2 c2) n2 (List.flatMap GTag.cells rs) :: L) w55) wz_ := ⟨_, hp57⟩
      refine QOPS.batch 3 {} [.agg #[.int .i64 o.T.Count, .int .i64 o.T.Client]] [1, 5, 46, 48] [.pointer (some ⟨rb, 0, none⟩), .pointer (some ⟨g3, 0, none⟩), .pointer (some ⟨sb, 0, none⟩), .agg #[.int .i64 o.T.Count, .int .i64 o.T.Client]] hnehp57 (fun w58 hp59 => QB.mk (.cons (show Ld Try.prog w58 29 ⟨g3, 1, none⟩ (.agg #[.int .i64 o.T.Count, .int .i64 o.T.Client]) from Ld.rowN (cs := [.int .i64 o.T.Count, .int .i64 o.T.Client]) hp59.get0 (by kernel_rfl)) .nil) (by kernel_rfl)) (fun b60 => ?_)
      refine QOPS.call (some 49) [.pointer (some ⟨sb, 0, none⟩), .agg #[.int .i64 o.T.Count, .int .i64 o.T.Client]] (by kernel_rfl) (fun w61 hp62 => (set_Has ys a n c sb o.T _ (own_flat (sz := 2) (fun _ => rfl) (by decide) hp62.get2).symm (by have h_ := own_flat (sz := 2) (fun _ => rfl) (by decide) hp62.get2; omega) (SlR.own hp62.get2) hp62.get1 E.1).mono fun _ _ h => by obtain ⟨b, h1, h2, h3⟩ := h; exact ⟨by rw [h1, h2.eq_bo], hp62.step h3⟩) ?_
      refine QOPS.batch 3 {} [.agg #[.int .i64 o.T.Count, .int .i64 o.T.Client]] [49, 50, 52] [.bool (bo (o.T ∈ ys)), .pointer (some ⟨rb, 0, none⟩), .agg #[.int .i64 o.T.Count, .int .i64 o.T.Client]] hnehp57 (fun w63 hp64 => QB.mk (.cons (show Ld Try.prog w63 29 ⟨g3, 1, none⟩ (.agg #[.int .i64 o.T.Count, .int .i64 o.T.Client]) from Ld.rowN (cs := [.int .i64 o.T.Count, .int .i64 o.T.Client]) hp64.get0 (by kernel_rfl)) .nil) (by kernel_rfl)) (fun b65 => ?_)
      refine QOPS.call (some 53) [.pointer (some ⟨rb, 0, none⟩), .agg #[.int .i64 o.T.Count, .int .i64 o.T.Client]] (by kernel_rfl) (fun w66 hp67 => (ref_Has rs a2 n2 c2 rb o.T _ (own_flat (sz := 2) (fun _ => rfl) (by decide) hp67.get4).symm (by have h_ := own_flat (sz := 2) (fun _ => rfl) (by decide) hp67.get4; omega) (SlR.own hp67.get4) hp67.get3).mono fun _ _ h => by obtain ⟨b, h1, h2, h3⟩ := h; exact ⟨by rw [h1, h2.eq_bo], hp67.step h3⟩) ?_
      refine QOPS.batch 2 {} [] [6] [.bool ((bo (o.T ∈ ys)) == (bo (o.T ∈ rs)))] hnehp57 (fun w68 hp69 => QB.mk .nil (by kernel_rfl)) (fun b70 => ?_)
      refine QOPS.nil (fun w71 hp72 => ?_)
      refine thn_n ?_
      refine WP.ret ?_
      refine blk_r ?_
      refine thn_r ?_
      refine bodyQ.of _ rfl [.bool ((bo (o.T ∈ ys)) == (bo (o.T ∈ rs)))] ⟨rfl, trivial⟩ ?_
      exact ⟨_, _, _, _, _, _, _, _, congrArg (fun b => Ending.returned (.bool b)) (Bp.tt (Bp.beq Bp.bo Bp.bo) (by first | omega | (simp; done) | exact E.2.2 _)), ⟨E, by omega⟩, (hp72.sub (.cons _ (.cons_cons _ (.cons_cons _ (.cons_cons _ (.cons_cons _ (.refl _)))))))⟩
    · refine WP.seq ?_
      refine WP.pure {} [] [0, 1, 5, 19, 55] [.pointer (some ⟨sb, 0, none⟩), .pointer (some ⟨rb, 0, none⟩), .pointer (some ⟨g3, 0, none⟩), .int .i64 o.Kind, .bool (decide (o.Kind = 2))] .nil (by kernel_rfl) (fun b73 => ?_)
      refine thn_n ?_
      refine WP.test (p := o.Kind = 2) rfl Bp.dec (fun h74 => ?_) (fun h74 => ?_)
      · refine WP.seq ?_
        refine WP.region _ rfl (by kernel_rfl) ?_
        refine OPS.batch 3 {} [.int .i64 o.N] [1, 5, 58, 60] [.pointer (some ⟨rb, 0, none⟩), .pointer (some ⟨g3, 0, none⟩), .pointer (some ⟨sb, 0, none⟩), .int .i64 o.N] (.cons (Ld.row1 (P := Try.prog) (t := 3) (o := 3) (v := .int .i64 o.N) hp2.get0 (by kernel_rfl)) .nil) (by kernel_rfl) (fun b75 => ?_)
        refine OPS.cons (opStep.call (some 61) [.pointer (some ⟨sb, 0, none⟩), .int .i64 o.N] (by kernel_rfl) (set_High ys a n c sb o.N (by omega) _ (own_flat (sz := 2) (fun _ => rfl) (by decide) hp2.get2).symm (by have h_ := own_flat (sz := 2) (fun _ => rfl) (by decide) hp2.get2; omega) (SlR.own hp2.get2) hp2.get1) ?_)
        rintro _ w78 ⟨y81, e82, rfl, hh83, hf79⟩
        refine ⟨_, rfl, ?_⟩
        have hp80 := hp2.step hf79
        refine OPS.batch 3 {} [] [1, 5, 62, 63] [.pointer (some ⟨rb, 0, none⟩), .pointer (some ⟨g3, 0, none⟩), GTag.val y81, .int .i64 e82] .nil (by kernel_rfl) (fun b84 => ?_)
        refine OPS.cons (opStep.alloc hp80 [.int .i64 0, .int .i64 0] (by kernel_rfl) (fun g87 w85 hp86 => ?_))
        refine OPS.cons (opStep.store0 hp86 rfl [.int .i64 y81.Count, .int .i64 y81.Client] [.int .i64 y81.Count, .int .i64 y81.Client] (by kernel_rfl) (fun w88 hp89 => ?_))
        refine OPS.batch 1 {} [] [1, 5, 11, 12] [.pointer (some ⟨rb, 0, none⟩), .pointer (some ⟨g3, 0, none⟩), .pointer (some ⟨g87, 0, none⟩), .int .i64 e82] .nil (by kernel_rfl) (fun b90 => ?_)
        refine OPS.nil ?_
        refine thn_n ?_
        refine WP.seq ?_
        refine WP.region _ rfl (by kernel_rfl) ?_
        refine OPS.batch 3 {} [.int .i64 o.N] [11, 12, 65, 67] [.pointer (some ⟨g87, 0, none⟩), .int .i64 e82, .pointer (some ⟨rb, 0, none⟩), .int .i64 o.N] (.cons (Ld.row1 (P := Try.prog) (t := 3) (o := 3) (v := .int .i64 o.N) hp89.get1 (by kernel_rfl)) .nil) (by kernel_rfl) (fun b91 => ?_)
        refine OPS.cons (opStep.call (some 68) [.pointer (some ⟨rb, 0, none⟩), .int .i64 o.N] (by kernel_rfl) (ref_High rs a2 n2 c2 rb ys o.N (by omega) _ (own_flat (sz := 2) (fun _ => rfl) (by decide) hp89.get5).symm (by have h_ := own_flat (sz := 2) (fun _ => rfl) (by decide) hp89.get5; omega) (SlR.own hp89.get5) hp89.get4 E) ?_)
        rintro _ w94 ⟨y97, e98, rfl, hh99, hf95⟩
        refine ⟨_, rfl, ?_⟩
        have hp96 := hp89.step hf95
        refine OPS.batch 3 {} [] [11, 12, 69, 70] [.pointer (some ⟨g87, 0, none⟩), .int .i64 e82, GTag.val y97, .int .i64 e98] .nil (by kernel_rfl) (fun b100 => ?_)
        refine OPS.cons (opStep.alloc hp96 [.int .i64 0, .int .i64 0] (by kernel_rfl) (fun g103 w101 hp102 => ?_))
        refine OPS.cons (opStep.store0 hp102 rfl [.int .i64 y97.Count, .int .i64 y97.Client] [.int .i64 y97.Count, .int .i64 y97.Client] (by kernel_rfl) (fun w104 hp105 => ?_))
        refine OPS.batch 1 {} [] [11, 12, 13, 14] [.pointer (some ⟨g87, 0, none⟩), .int .i64 e82, .pointer (some ⟨g103, 0, none⟩), .int .i64 e98] .nil (by kernel_rfl) (fun b106 => ?_)
        refine OPS.nil ?_
        refine thn_n ?_
        refine WP.cut (fun e116 w117 => ∃ (x114 : Bool), (True) ∧ Bp x114 (((y81.Count = y97.Count) ∧ (y81.Client = y97.Client)) ∧ (e82 = e98)) ∧ List.map e116 [6] = [.bool x114] ∧ Hp w0 Non (Res.row g103 [.int .i64 y97.Count, .int .i64 y97.Client] 29 :: Res.row g87 [.int .i64 y81.Count, .int .i64 y81.Client] 29 :: Res.row g3 [.int .i64 o.Kind, .int .i64 o.T.Count, .int .i64 o.T.Client, .int .i64 o.N] 45 :: Res.row sb [.slice a n c] 52 :: Res.own 29 2 (.slice a n c) n (List.flatMap GTag.cells ys) :: Res.row rb [.slice a2 n2 c2] 55 :: Res.own 29 2 (.slice a2 n2 c2) n2 (List.flatMap GTag.cells rs) :: L) w117) ?_ ?_
        · refine WP.region _ rfl (by kernel_rfl) ?_
          refine OPS.batch 4 {} [GTag.val y81, GTag.val y97] [12, 14, 74] [.int .i64 e82, .int .i64 e98, .bool ((decide (y81.Count = y97.Count)) && ((decide (y81.Client = y97.Client)) && true))] (.cons (show Ld Try.prog w104 29 ⟨g87, 0, none⟩ (GTag.val y81) from Ld.rowN (cs := [.int .i64 y81.Count, .int .i64 y81.Client]) hp105.get1 (by kernel_rfl)) (.cons (show Ld Try.prog w104 29 ⟨g103, 0, none⟩ (GTag.val y97) from Ld.rowN (cs := [.int .i64 y97.Count, .int .i64 y97.Client]) hp105.get0 (by kernel_rfl)) .nil)) (by kernel_rfl) (fun b108 => ?_)
          by_cases h109 : (y81.Count = y97.Count) ∧ (y81.Client = y97.Client)
          · refine OPS.batch 0 {} [] [12, 14, 74] [.int .i64 e82, .int .i64 e98, .bool ((decide (y81.Count = y97.Count)) && ((decide (y81.Client = y97.Client)) && true))] .nil (by kernel_rfl) (fun b110 => ?_)
            refine OPS.re [.int .i64 e82, .int .i64 e98, .bool true] (by rw [show ((decide (y81.Count = y97.Count)) && ((decide (y81.Client = y97.Client)) && true)) = true from (Bp.band Bp.dec (Bp.band1 Bp.dec)).tt h109]) ?_
            refine OPS.batch 5 { wraps := [78] } [] [6] [.bool (decide (e82 = e98))] .nil (by kernel_rfl) (fun b111 => ?_)
            refine OPS.nil ?_
            refine thn_n ?_
            exact ⟨decide (e82 = e98), trivial, Bp.of Bp.dec (by first | (simp only [h109, iff_false, false_iff, iff_true, true_iff, Classical.not_not, and_true, true_and, and_false, false_and, or_true, true_or, or_false, false_or, not_true_eq_false, not_false_eq_true, and_self, or_self, iff_self]; done) | (simp [h109]; done) | grind | (simp_all; done)), by kernel_rfl, hp105⟩
          · refine OPS.batch 0 {} [] [12, 14, 74] [.int .i64 e82, .int .i64 e98, .bool ((decide (y81.Count = y97.Count)) && ((decide (y81.Client = y97.Client)) && true))] .nil (by kernel_rfl) (fun b112 => ?_)
            refine OPS.re [.int .i64 e82, .int .i64 e98, .bool false] (by rw [show ((decide (y81.Count = y97.Count)) && ((decide (y81.Client = y97.Client)) && true)) = false from (Bp.band Bp.dec (Bp.band1 Bp.dec)).ff h109]) ?_
            refine OPS.batch 5 { wraps := [78] } [] [6] [.bool false] .nil (by kernel_rfl) (fun b113 => ?_)
            refine OPS.nil ?_
            refine thn_n ?_
            exact ⟨false, trivial, Bp.of Bp.f (by first | (simp only [h109, iff_false, false_iff, iff_true, true_iff, Classical.not_not, and_true, true_and, and_false, false_and, or_true, true_or, or_false, false_or, not_true_eq_false, not_false_eq_true, and_self, or_self, iff_self]; done) | (simp [h109]; done) | grind | (simp_all; done)), by kernel_rfl, hp105⟩
        rintro e116 w117 ⟨x114, hd119, hb115, hE120, hp118⟩
        obtain ⟨b121, rfl⟩ := toMk hE120
        clear hE120
        clear hd119
        refine WP.ret ?_
        refine blk_r ?_
        refine thn_r ?_
        refine bodyQ.of _ rfl [.bool x114] ⟨rfl, trivial⟩ ?_
        obtain ⟨rfl, rfl⟩ := high_one (show n = n2 by omega) hh83 hh99
        exact ⟨_, _, _, _, _, _, _, _, congrArg (fun b => Ending.returned (.bool b)) (Bp.tt hb115 (by first | omega | (simp; done) | exact E.2.2 _)), ⟨E, by omega⟩, (hp118.sub (.cons _ (.cons _ (.cons _ (.cons_cons _ (.cons_cons _ (.cons_cons _ (.cons_cons _ (.refl _)))))))))⟩
      · refine WP.seq ?_
        refine WP.pure {} [] [0, 1, 5, 19, 79] [.pointer (some ⟨sb, 0, none⟩), .pointer (some ⟨rb, 0, none⟩), .pointer (some ⟨g3, 0, none⟩), .int .i64 o.Kind, .bool (decide (o.Kind = 3))] .nil (by kernel_rfl) (fun b122 => ?_)
        refine thn_n ?_
        refine WP.test (p := o.Kind = 3) rfl Bp.dec (fun h123 => ?_) (fun h123 => ?_)
        · refine WP.seq ?_
          refine WP.region _ rfl (by kernel_rfl) ?_
          refine OPS.batch 3 {} [.agg #[.int .i64 o.T.Count, .int .i64 o.T.Client]] [1, 5, 81, 83] [.pointer (some ⟨rb, 0, none⟩), .pointer (some ⟨g3, 0, none⟩), .pointer (some ⟨sb, 0, none⟩), .agg #[.int .i64 o.T.Count, .int .i64 o.T.Client]] (.cons (show Ld Try.prog w1 29 ⟨g3, 1, none⟩ (.agg #[.int .i64 o.T.Count, .int .i64 o.T.Client]) from Ld.rowN (cs := [.int .i64 o.T.Count, .int .i64 o.T.Client]) hp2.get0 (by kernel_rfl)) .nil) (by kernel_rfl) (fun b124 => ?_)
          refine OPS.cons (opStep.call (some 84) [.pointer (some ⟨sb, 0, none⟩), .agg #[.int .i64 o.T.Count, .int .i64 o.T.Client]] (by kernel_rfl) (set_From ys a n c sb o.T _ (own_flat (sz := 2) (fun _ => rfl) (by decide) hp2.get2).symm (by have h_ := own_flat (sz := 2) (fun _ => rfl) (by decide) hp2.get2; omega) (SlR.own hp2.get2) hp2.get1 (own_cap hp2.get2)) ?_)
          rintro _ w127 ⟨a129, c130, at131, b132, rfl, hq133, hp128⟩
          refine ⟨_, rfl, ?_⟩
          have hp134 := hp2.made hp128
          have hbl : blw rs o.T = at131 := (blw_perm E.perm).symm.trans (blw_fnd E.1 hq133)
          have hat := hq133.1
          refine OPS.batch 1 {} [] [1, 5, 15] [.pointer (some ⟨rb, 0, none⟩), .pointer (some ⟨g3, 0, none⟩), .slice a129 (n - at131) c130] .nil (by kernel_rfl) (fun b135 => ?_)
          refine OPS.nil ?_
          refine thn_n ?_
          refine WP.seq ?_
          refine WP.seq ?_
          refine WP.region _ rfl (by kernel_rfl) ?_
          refine OPS.batch 4 {} [.agg #[.int .i64 o.T.Count, .int .i64 o.T.Client]] [15, 85, 86, 88] [.slice a129 (n - at131) c130, .slice a129 (n - at131) c130, .pointer (some ⟨rb, 0, none⟩), .agg #[.int .i64 o.T.Count, .int .i64 o.T.Client]] (.cons (show Ld Try.prog w127 29 ⟨g3, 1, none⟩ (.agg #[.int .i64 o.T.Count, .int .i64 o.T.Client]) from Ld.rowN (cs := [.int .i64 o.T.Count, .int .i64 o.T.Client]) hp134.get1 (by kernel_rfl)) .nil) (by kernel_rfl) (fun b136 => ?_)
          refine OPS.cons (opStep.call (some 89) [.pointer (some ⟨rb, 0, none⟩), .agg #[.int .i64 o.T.Count, .int .i64 o.T.Client]] (by kernel_rfl) (ref_From rs a2 n2 c2 rb ys o.T _ (own_flat (sz := 2) (fun _ => rfl) (by decide) hp134.get5).symm (by have h_ := own_flat (sz := 2) (fun _ => rfl) (by decide) hp134.get5; omega) (SlR.own hp134.get5) hp134.get4 E) ?_)
          rintro _ w139 ⟨a141, n142, c143, rfl, hp140⟩
          rw [hbl] at hp140
          obtain rfl : n142 = n - at131 := by have h_ := own_flat (sz := 2) (fun _ => rfl) (by decide) hp140.get0; rw [List.length_drop] at h_; omega
          refine ⟨_, rfl, ?_⟩
          have hp144 := hp134.made hp140
          refine OPS.cons (opStep.call (some 90) [.slice a129 (n - at131) c130, .slice a141 (n - at131) c143] (by kernel_rfl) (t8_same (ys.drop at131) _ _ _ _ _ _ (by rw [List.length_drop]; omega) (by rw [List.length_drop]; omega) (SlR.own hp144.get1) (SlR.own hp144.get0)) ?_)
          rintro _ w147 ⟨rfl, hf148⟩
          refine ⟨_, rfl, ?_⟩
          have hp149 := hp144.step hf148
          refine OPS.batch 1 {} [] [15, 91] [.slice a129 (n - at131) c130, .bool false] .nil (by kernel_rfl) (fun b150 => ?_)
          refine OPS.nil ?_
          refine thn_n ?_
          refine WP.condF rfl ?_
          refine WP.skip ?_
          refine thn_n ?_
          refine WP.seq ?_
          refine WP.seq ?_
          refine WP.pure {} [] [15, 16] [.slice a129 (n - at131) c130, .int .i64 0] .nil (by kernel_rfl) (fun b151 => ?_)
          refine thn_n ?_
          refine WP.block ?_
          refine WP.loop (fun mz_ e152 w153 => ∃ (k : Nat) (zs : List GTag), mz_ = n - at131 - k ∧ (k ≤ n - at131 ∧ zs.length = n - at131) ∧ List.map e152 [15, 16] = [.slice a129 (n - at131) c130, .int .i64 (k : Int)] ∧ Hp w0 Non (Res.own 29 2 (.slice a129 (n - at131) c130) (n - at131) (List.flatMap GTag.cells zs) :: Res.row g3 [.int .i64 o.Kind, .int .i64 o.T.Count, .int .i64 o.T.Client, .int .i64 o.N] 45 :: Res.row sb [.slice a n c] 52 :: Res.own 29 2 (.slice a n c) n (List.flatMap GTag.cells ys) :: Res.row rb [.slice a2 n2 c2] 55 :: Res.own 29 2 (.slice a2 n2 c2) n2 (List.flatMap GTag.cells rs) :: L) w153) (n - at131 - (0)) ⟨0, (ys.drop at131), rfl, ⟨by omega, by rw [List.length_drop]; omega⟩, by kernel_rfl, (hp149.sub (.cons _ (.cons_cons _ (.cons_cons _ (.cons_cons _ (.cons_cons _ (.cons_cons _ (.cons_cons _ (.refl _)))))))))⟩ ?_
          rintro _ e152 w153 ⟨k, zs, rfl, hI155, hE156, hp154⟩
          obtain ⟨b157, rfl⟩ := toMk hE156
          clear hE156
          obtain ⟨pa, pb⟩ := hI155
          refine WP.seq ?_
          refine WP.seq ?_
          refine WP.pure {} [] [15, 16, 95] [.slice a129 (n - at131) c130, .int .i64 (k : Int), .bool (decide ((k : Int) < (((n - at131) : Nat) : Int)))] .nil (by kernel_rfl) (fun b158 => ?_)
          refine thn_n ?_
          refine WP.test (p := (k : Int) < (((n - at131) : Nat) : Int)) rfl Bp.dec (fun h159 => ?_) (fun h159 => ?_)
          · refine WP.skip ?_
            refine thn_n ?_
            refine WP.seq ?_
            refine WP.block ?_
            refine WP.region _ rfl (by kernel_rfl) ?_
            refine OPS.batch 4 {} [] [15, 16, 100, 101] [.slice a129 (n - at131) c130, .int .i64 (k : Int), .agg #[.int .i64 3, .int .i64 3], .pointer (some ((adr a129).add (k * 2)))] (.cons (show InB ((k : Int)) ((n - at131)) from ⟨by omega, by omega⟩) (.cons ((SlR.own (hp154.get0)).some (by omega)) .nil)) (by kernel_rfl) (fun b160 => ?_)
            have := own_flat (sz := 2) (fun _ => rfl) (by decide) hp154.get0
            try simp only [List.length_set] at this
            refine OPS.cons (opStep.storeOwn0 (k * 2) hp154 rfl [.int .i64 3, .int .i64 3] (by kernel_rfl) (by simp) (show k * 2 + 2 ≤ (n - at131) * 2 by omega) (fun w161 hp162 => ?_))
            have hp163 := hp162
            rw [show ow (List.flatMap GTag.cells zs) (k * 2) [.int .i64 3, .int .i64 3] = List.flatMap GTag.cells (zs.set k (⟨3, 3⟩ : GTag)) from ow_flat (sz := 2) (fun _ => rfl) (by first | (omega) | (simp only [List.length_set]; omega)) (⟨3, 3⟩ : GTag)] at hp163
            refine OPS.nil ?_
            refine blk_n ?_
            refine thn_n ?_
            refine WP.pure {} [] [15, 16] [.slice a129 (n - at131) c130, .int .i64 ((k : Int) + 1)] (.cons (show Rng .i64 ((k : Int) + 1) from Rng.i64 (by omega)) .nil) (by kernel_rfl) (fun b164 => ?_)
            refine thn_n ?_
            exact ⟨n - at131 - (k + 1), (by omega), k + 1, zs.set k (⟨3, 3⟩ : GTag), rfl, ⟨by omega, by rw [List.length_set]; omega⟩, by kernel_rfl, hp163⟩
          · refine WP.exit ?_
            refine thn_x ?_
            refine thn_x ?_
            refine blk_hit ?_
            refine thn_n ?_
            refine WP.seq ?_
            refine WP.region _ rfl (by kernel_rfl) ?_
            refine OPS.batch 2 {} [] [15, 102, 103] [.slice a129 (n - at131) c130, .slice a129 (n - at131) c130, .agg #[.int .i64 4, .int .i64 4]] .nil (by kernel_rfl) (fun b165 => ?_)
            refine OPS.cons (opStep.buildSlice (E := 29) hp154 [.int .i64 4, .int .i64 4] (by kernel_rfl) (fun g168 w166 hp167 => ?_))
            refine OPS.cons (opStep.append1 [.int .i64 4, .int .i64 4] hp167 16 (by kernel_rfl) rfl rfl rfl (SlR.row (n := 1) hp167.get0 rfl).rd (List.all_eq_true.1 (by kernel_rfl)) (by decide) (by omega) (by omega) (fun a171 c172 w173 hp174 hn175 => ?_))
            rw [(show List.flatMap GTag.cells zs ++ [.int .i64 4, .int .i64 4] = List.flatMap GTag.cells (zs ++ [(⟨4, 4⟩ : GTag)]) from (List.flatMap_append (xs := zs) (ys := [(⟨4, 4⟩ : GTag)])).symm)] at hp174
            refine OPS.batch 1 {} [] [15, 17] [.slice a129 (n - at131) c130, .slice a171 ((n - at131) + 1) c172] .nil (by kernel_rfl) (fun b176 => ?_)
            refine OPS.nil ?_
            refine thn_n ?_
            refine WP.seq ?_
            refine WP.pure {} [] [6] [.bool (decide ((((n - at131) + 1 : Nat) : Int) = ((((n - at131) : Nat) : Int) + 1)))] (.cons (show Rng .i64 ((((n - at131) : Nat) : Int) + 1) from Rng.i64 (by omega)) .nil) (by kernel_rfl) (fun b177 => ?_)
            refine thn_n ?_
            refine WP.ret ?_
            refine blk_r ?_
            refine thn_r ?_
            refine bodyQ.of _ rfl [.bool (decide ((((n - at131) + 1 : Nat) : Int) = ((((n - at131) : Nat) : Int) + 1)))] ⟨rfl, trivial⟩ ?_
            exact ⟨_, _, _, _, _, _, _, _, congrArg (fun b => Ending.returned (.bool b)) (Bp.tt Bp.dec (by first | omega | (simp; done) | exact E.2.2 _)), ⟨E, by omega⟩, (hp174.sub (.cons _ (.cons _ (.cons _ (.cons_cons _ (.cons_cons _ (.cons_cons _ (.cons_cons _ (.refl _)))))))))⟩
        · refine WP.seq ?_
          refine WP.pure {} [] [0, 1, 5, 112] [.pointer (some ⟨sb, 0, none⟩), .pointer (some ⟨rb, 0, none⟩), .pointer (some ⟨g3, 0, none⟩), .bool (decide (o.Kind = 4))] .nil (by kernel_rfl) (fun b178 => ?_)
          refine thn_n ?_
          refine WP.test (p := o.Kind = 4) rfl Bp.dec (fun h179 => ?_) (fun h179 => ?_)
          · refine WP.seq ?_
            have hp180 := hp2.drew
            refine WP.held (fun w181 => Ld Try.prog w181 29 ⟨g3, 1, none⟩ (.agg #[.int .i64 o.T.Count, .int .i64 o.T.Client]) ∧ True) [] [(0, true), (1, true), (2, true), (4, true), (5, true), (6, true), (3, false), (7, false), (8, true), (9, true)] (np_thn (np_blk (np_thn np_body))) (by kernel_rfl) ?_
            refine HOPS.take 6 {} [.agg #[.int .i64 o.T.Count, .int .i64 o.T.Client], .agg #[.int .i64 o.T.Count, .int .i64 o.T.Client]] [114, 116, 118, 120] [.pointer (some ⟨sb, 0, none⟩), .agg #[.int .i64 o.T.Count, .int .i64 o.T.Client], .pointer (some ⟨rb, 0, none⟩), .agg #[.int .i64 o.T.Count, .int .i64 o.T.Client]] (by kernel_rfl) ⟨(show Ld Try.prog w1.drew 29 ⟨g3, 1, none⟩ (.agg #[.int .i64 o.T.Count, .int .i64 o.T.Client]) from (show Ld Try.prog w1.drew 29 ⟨g3, 1, none⟩ (.agg #[.int .i64 o.T.Count, .int .i64 o.T.Client]) from Ld.rowN (cs := [.int .i64 o.T.Count, .int .i64 o.T.Client]) hp180.get0 (by kernel_rfl))), trivial⟩ (fun w182 hS183 => QB.mk (.cons (hS183.1) (.cons (hS183.1) .nil)) (by kernel_rfl)) (fun b184 => ?_)
            have hp187 := hp180.pull2
            have hp188 := hp187.pull2
            refine HOPS.eff _ rfl (opStep.call (some 117) [.pointer (some ⟨sb, 0, none⟩), .agg #[.int .i64 o.T.Count, .int .i64 o.T.Client]] (by kernel_rfl) (set_Cut _ _ ys a n c sb o.T _ (by omega) hp188) ?_)
            rintro _ w189 ⟨at191, b192, rfl, hq193, hp190⟩
            refine ⟨_, rfl, ?_⟩
            have hbl : blw rs o.T = at191 := (blw_perm E.perm).symm.trans (blw_fnd E.1 hq193)
            refine ⟨.inr ⟨(show Ld Try.prog w189 29 ⟨g3, 1, none⟩ (.agg #[.int .i64 o.T.Count, .int .i64 o.T.Client]) from (show Ld Try.prog w189 29 ⟨g3, 1, none⟩ (.agg #[.int .i64 o.T.Count, .int .i64 o.T.Client]) from Ld.rowN (cs := [.int .i64 o.T.Count, .int .i64 o.T.Client]) hp190.get2 (by kernel_rfl))), trivial⟩, ?_⟩
            have hp196 := hp190.pull4
            have hp197 := hp196.pull4
            refine HOPS.eff _ rfl (opStep.call (some 121) [.pointer (some ⟨rb, 0, none⟩), .agg #[.int .i64 o.T.Count, .int .i64 o.T.Client]] (by kernel_rfl) (ref_Cut _ _ rs a2 n2 c2 rb ys o.T _ E (by omega) hp197) ?_)
            rintro _ w198 ⟨a200, n201, c202, rfl, hp199⟩
            rw [hbl] at hp199 ⊢
            refine ⟨_, rfl, ?_⟩
            refine ⟨.inr ⟨(show Ld Try.prog w198 29 ⟨g3, 1, none⟩ (.agg #[.int .i64 o.T.Count, .int .i64 o.T.Client]) from (show Ld Try.prog w198 29 ⟨g3, 1, none⟩ (.agg #[.int .i64 o.T.Count, .int .i64 o.T.Client]) from Ld.rowN (cs := [.int .i64 o.T.Count, .int .i64 o.T.Client]) hp199.get4 (by kernel_rfl))), trivial⟩, ?_⟩
            refine HOPS.take 2 {} [] [6] [.bool (decide (((at191 : Nat) : Int) = ((at191 : Nat) : Int)))] (by kernel_rfl) ⟨(show Ld Try.prog w198 29 ⟨g3, 1, none⟩ (.agg #[.int .i64 o.T.Count, .int .i64 o.T.Client]) from (show Ld Try.prog w198 29 ⟨g3, 1, none⟩ (.agg #[.int .i64 o.T.Count, .int .i64 o.T.Client]) from Ld.rowN (cs := [.int .i64 o.T.Count, .int .i64 o.T.Client]) hp199.get4 (by kernel_rfl))), trivial⟩ (fun w203 hS204 => QB.mk .nil (by kernel_rfl)) (fun b205 => ?_)
            refine HOPS.nil ?_
            refine thn_n ?_
            refine WP.ret ?_
            refine blk_r ?_
            refine thn_r ?_
            refine bodyQ.of _ rfl [.bool (decide (((at191 : Nat) : Int) = ((at191 : Nat) : Int)))] ⟨rfl, trivial⟩ ?_
            exact ⟨_, _, _, _, _, _, _, _, congrArg (fun b => Ending.returned (.bool b)) (Bp.tt Bp.dec (by first | omega | (simp; done) | exact E.2.2 _)), ⟨E.cut at191, by rw [List.length_drop]; omega⟩, (((((hp199.pull1).pull1).pull3).pull3).sub (.cons_cons _ (.cons_cons _ (.cons_cons _ (.cons_cons _ (.cons _ (.refl _)))))))⟩
          · refine WP.skip ?_
            refine blk_n ?_
            refine thn_n ?_
            refine WP.seq ?_
            refine WP.pure {} [] [6] [.bool true] .nil (by kernel_rfl) (fun b206 => ?_)
            refine thn_n ?_
            refine WP.ret ?_
            refine bodyQ.of _ rfl [.bool true] ⟨rfl, trivial⟩ ?_
            exact ⟨_, _, _, _, _, _, _, _, rfl, ⟨E, by omega⟩, (hp2.sub (.cons _ (.cons_cons _ (.cons_cons _ (.cons_cons _ (.cons_cons _ (.refl _)))))))⟩

end Go.Proofs.Ytoeholipggkcaaa.K
