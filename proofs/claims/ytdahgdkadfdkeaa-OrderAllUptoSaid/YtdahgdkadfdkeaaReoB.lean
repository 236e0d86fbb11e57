/- The walks of ReoB: what each function computes. -/
import Derived.Test.YtdahgdkadfdkeaaProg
import Derived.Test.YtdahgdkadfdkeaaCoreO
import Derived.Test.YtdahgdkadfdkeaaReoA
import Derived.Test.YtdahgdkadfdkeaaOrdH
import Derived.Test.YtdahgdkadfdkeaaOpen
namespace Go.Proofs.Ytdahgdkadfdkeaa.K
open Go Go.Proofs Go.RowKit
set_option linter.unusedVariables false
set_option linter.unusedSimpArgs false
set_option maxRecDepth 20000
set_option maxHeartbeats 4000000

theorem r8_Zero (t : GTag) (w : World) :
    Calls Try.prog 120 #[GTag.val t] w (fun r_ w' => ∃ f_, r_ = .returned (.bool f_) ∧ Bp f_ (tagZero t) ∧ Fram Non w w') := by
  refine calls_of Try.func120 rfl 6 rfl (by simp) ?_
  have hp0 := Hp.init w
  have he0 : List.map (env0 [GTag.val t]) [0] = [GTag.val t] := by kernel_rfl
  obtain ⟨b0, he0⟩ := toMk he0
  rw [he0]
  clear he0
  refine WP.seq ?_
  refine WP.region _ rfl (by kernel_rfl) ?_
  refine OPS.cons (opStep.box hp0 [.int .i64 t.Count, .int .i64 t.Client] (by kernel_rfl) (fun g3 w1 hp2 => ?_))
  refine OPS.batch 1 {} [] [1] [.pointer (some ⟨g3, 0, none⟩)] .nil (by kernel_rfl) (fun b4 => ?_)
  refine OPS.nil ?_
  refine thn_n ?_
  refine WP.seq ?_
  refine WP.pure {} [GTag.val t] [2] [.bool ((decide (t.Count = 0)) && ((decide (t.Client = 0)) && true))] (.cons (show Ld Try.prog w1 70 ⟨g3, 0, none⟩ (GTag.val t) from Ld.rowN (cs := [.int .i64 t.Count, .int .i64 t.Client]) hp2.get0 (by kernel_rfl)) .nil) (by kernel_rfl) (fun b5 => ?_)
  refine thn_n ?_
  refine WP.ret ?_
  refine bodyQ.of _ rfl [.bool ((decide (t.Count = 0)) && ((decide (t.Client = 0)) && true))] ⟨rfl, trivial⟩ ?_
  exact ⟨_, rfl, Bp.of (Bp.band Bp.dec (Bp.band1 Bp.dec)) (by simp [tagZero]), hp2.fr⟩

theorem r8_proper (t : GTag) (w : World) :
    Calls Try.prog 107 #[GTag.val t] w (fun r_ w' => ∃ f_, r_ = .returned (.bool f_) ∧ Bp f_ (tagProper t) ∧ Fram Non w w') := by
  refine calls_of Try.func107 rfl 21 rfl (by simp) ?_
  have hp0 := Hp.init w
  have he0 : List.map (env0 [GTag.val t]) [0] = [GTag.val t] := by kernel_rfl
  obtain ⟨b0, he0⟩ := toMk he0
  rw [he0]
  clear he0
  refine WP.seq ?_
  refine WP.region _ rfl (by kernel_rfl) ?_
  refine OPS.cons (opStep.box hp0 [.int .i64 t.Count, .int .i64 t.Client] (by kernel_rfl) (fun g3 w1 hp2 => ?_))
  refine OPS.batch 1 {} [] [1] [.pointer (some ⟨g3, 0, none⟩)] .nil (by kernel_rfl) (fun b4 => ?_)
  refine OPS.nil ?_
  refine thn_n ?_
  refine WP.cut (fun e24 w25 => ∃ (x22 : Bool), (True) ∧ Bp x22 ((1 ≤ t.Count) ∧ (t.Count ≤ 4611686018427387903) ∧ (1 ≤ t.Client) ∧ (t.Client ≤ 65535)) ∧ List.map e24 [2] = [.bool x22] ∧ Hp w Non [Res.row g3 [.int .i64 t.Count, .int .i64 t.Client] 70] w25) ?_ ?_
  · refine WP.region _ rfl (by kernel_rfl) ?_
    refine OPS.batch 4 {} [.int .i64 t.Count] [1, 6] [.pointer (some ⟨g3, 0, none⟩), .bool (decide (1 ≤ t.Count))] (.cons (Ld.row1 (P := Try.prog) (t := 2) (o := 0) (v := .int .i64 t.Count) hp2.get0 (by kernel_rfl)) .nil) (by kernel_rfl) (fun b6 => ?_)
    by_cases h7 : 1 ≤ t.Count
    · refine OPS.batch 0 {} [] [1, 6] [.pointer (some ⟨g3, 0, none⟩), .bool (decide (1 ≤ t.Count))] .nil (by kernel_rfl) (fun b8 => ?_)
      refine OPS.re [.pointer (some ⟨g3, 0, none⟩), .bool true] (by rw [show (decide (1 ≤ t.Count)) = true from Bp.dec.tt h7]) ?_
      refine OPS.batch 5 { wraps := [10] } [.int .i64 t.Count] [1, 11] [.pointer (some ⟨g3, 0, none⟩), .bool (decide (t.Count ≤ 4611686018427387903))] (.cons (Ld.row1 (P := Try.prog) (t := 2) (o := 0) (v := .int .i64 t.Count) hp2.get0 (by kernel_rfl)) .nil) (by kernel_rfl) (fun b9 => ?_)
      by_cases h10 : t.Count ≤ 4611686018427387903
      · refine OPS.batch 0 {} [] [1, 11] [.pointer (some ⟨g3, 0, none⟩), .bool (decide (t.Count ≤ 4611686018427387903))] .nil (by kernel_rfl) (fun b11 => ?_)
        refine OPS.re [.pointer (some ⟨g3, 0, none⟩), .bool true] (by rw [show (decide (t.Count ≤ 4611686018427387903)) = true from Bp.dec.tt h10]) ?_
        refine OPS.batch 5 { wraps := [15] } [.int .i64 t.Client] [1, 16] [.pointer (some ⟨g3, 0, none⟩), .bool (decide (1 ≤ t.Client))] (.cons (Ld.row1 (P := Try.prog) (t := 3) (o := 1) (v := .int .i64 t.Client) hp2.get0 (by kernel_rfl)) .nil) (by kernel_rfl) (fun b12 => ?_)
        by_cases h13 : 1 ≤ t.Client
        · refine OPS.batch 0 {} [] [1, 16] [.pointer (some ⟨g3, 0, none⟩), .bool (decide (1 ≤ t.Client))] .nil (by kernel_rfl) (fun b14 => ?_)
          refine OPS.re [.pointer (some ⟨g3, 0, none⟩), .bool true] (by rw [show (decide (1 ≤ t.Client)) = true from Bp.dec.tt h13]) ?_
          refine OPS.batch 5 { wraps := [20] } [.int .i64 t.Client] [2] [.bool (decide (t.Client ≤ 65535))] (.cons (Ld.row1 (P := Try.prog) (t := 3) (o := 1) (v := .int .i64 t.Client) hp2.get0 (by kernel_rfl)) .nil) (by kernel_rfl) (fun b15 => ?_)
          refine OPS.nil ?_
          refine thn_n ?_
          exact ⟨decide (t.Client ≤ 65535), trivial, Bp.of Bp.dec (by first | (simp only [h7, h10, h13, iff_false, false_iff, iff_true, true_iff, Classical.not_not, and_true, true_and, and_false, false_and, or_true, true_or, or_false, false_or, not_true_eq_false, not_false_eq_true, and_self, or_self, iff_self]; done) | (simp [h7, h10, h13]; done) | grind | (simp_all; done)), by kernel_rfl, hp2⟩
        · refine OPS.batch 0 {} [] [1, 16] [.pointer (some ⟨g3, 0, none⟩), .bool (decide (1 ≤ t.Client))] .nil (by kernel_rfl) (fun b16 => ?_)
          refine OPS.re [.pointer (some ⟨g3, 0, none⟩), .bool false] (by rw [show (decide (1 ≤ t.Client)) = false from Bp.dec.ff h13]) ?_
          refine OPS.batch 5 { wraps := [20] } [] [2] [.bool false] .nil (by kernel_rfl) (fun b17 => ?_)
          refine OPS.nil ?_
          refine thn_n ?_
          exact ⟨false, trivial, Bp.of Bp.f (by first | (simp only [h7, h10, h13, iff_false, false_iff, iff_true, true_iff, Classical.not_not, and_true, true_and, and_false, false_and, or_true, true_or, or_false, false_or, not_true_eq_false, not_false_eq_true, and_self, or_self, iff_self]; done) | (simp [h7, h10, h13]; done) | grind | (simp_all; done)), by kernel_rfl, hp2⟩
      · refine OPS.batch 0 {} [] [1, 11] [.pointer (some ⟨g3, 0, none⟩), .bool (decide (t.Count ≤ 4611686018427387903))] .nil (by kernel_rfl) (fun b18 => ?_)
        refine OPS.re [.pointer (some ⟨g3, 0, none⟩), .bool false] (by rw [show (decide (t.Count ≤ 4611686018427387903)) = false from Bp.dec.ff h10]) ?_
        refine OPS.batch 10 { wraps := [15, 20] } [] [2] [.bool false] .nil (by kernel_rfl) (fun b19 => ?_)
        refine OPS.nil ?_
        refine thn_n ?_
        exact ⟨false, trivial, Bp.of Bp.f (by first | (simp only [h7, h10, iff_false, false_iff, iff_true, true_iff, Classical.not_not, and_true, true_and, and_false, false_and, or_true, true_or, or_false, false_or, not_true_eq_false, not_false_eq_true, and_self, or_self, iff_self]; done) | (simp [h7, h10]; done) | grind | (simp_all; done)), by kernel_rfl, hp2⟩
    · refine OPS.batch 0 {} [] [1, 6] [.pointer (some ⟨g3, 0, none⟩), .bool (decide (1 ≤ t.Count))] .nil (by kernel_rfl) (fun b20 => ?_)
      refine OPS.re [.pointer (some ⟨g3, 0, none⟩), .bool false] (by rw [show (decide (1 ≤ t.Count)) = false from Bp.dec.ff h7]) ?_
      refine OPS.batch 15 { wraps := [10, 15, 20] } [] [2] [.bool false] .nil (by kernel_rfl) (fun b21 => ?_)
      refine OPS.nil ?_
      refine thn_n ?_
      exact ⟨false, trivial, Bp.of Bp.f (by first | (simp only [h7, iff_false, false_iff, iff_true, true_iff, Classical.not_not, and_true, true_and, and_false, false_and, or_true, true_or, or_false, false_or, not_true_eq_false, not_false_eq_true, and_self, or_self, iff_self]; done) | (simp [h7]; done) | grind | (simp_all; done)), by kernel_rfl, hp2⟩
  rintro e24 w25 ⟨x22, hd27, hb23, hE28, hp26⟩
  obtain ⟨b29, rfl⟩ := toMk hE28
  clear hE28
  clear hd27
  refine WP.ret ?_
  refine bodyQ.of _ rfl [.bool x22] ⟨rfl, trivial⟩ ?_
  exact ⟨_, rfl, Bp.of hb23 (by first | (simp only [tagProper, false_iff, true_iff]; done) | (simp only [tagProper, false_iff, true_iff]; omega)), hp26.fr⟩

theorem r8_Proper (t : GTag) (w : World) :
    Calls Try.prog 79 #[GTag.val t] w (fun r_ w' => ∃ f_, r_ = .returned (.bool f_) ∧ Bp f_ (tagProper t) ∧ Fram Non w w') := by
  refine calls_of Try.func79 rfl 5 rfl (by simp) ?_
  have hp0 := Hp.init w
  have he0 : List.map (env0 [GTag.val t]) [0] = [GTag.val t] := by kernel_rfl
  obtain ⟨b0, he0⟩ := toMk he0
  rw [he0]
  clear he0
  refine WP.seq ?_
  refine WP.region _ rfl (by kernel_rfl) ?_
  refine OPS.cons (opStep.box hp0 [.int .i64 t.Count, .int .i64 t.Client] (by kernel_rfl) (fun g3 w1 hp2 => ?_))
  refine OPS.batch 1 {} [] [1] [.pointer (some ⟨g3, 0, none⟩)] .nil (by kernel_rfl) (fun b4 => ?_)
  refine OPS.nil ?_
  refine thn_n ?_
  refine WP.seq ?_
  refine WP.region _ rfl (by kernel_rfl) ?_
  refine OPS.batch 1 {} [GTag.val t] [3] [GTag.val t] (.cons (show Ld Try.prog w1 70 ⟨g3, 0, none⟩ (GTag.val t) from Ld.rowN (cs := [.int .i64 t.Count, .int .i64 t.Client]) hp2.get0 (by kernel_rfl)) .nil) (by kernel_rfl) (fun b5 => ?_)
  refine OPS.cons (opStep.call (some 4) [GTag.val t] (by kernel_rfl) (r8_proper t _) ?_)
  rintro _ w8 ⟨b11, rfl, hb12, hf9⟩
  refine ⟨_, rfl, ?_⟩
  have hp10 := hp2.step hf9
  refine OPS.batch 1 {} [] [2] [.bool b11] .nil (by kernel_rfl) (fun b13 => ?_)
  refine OPS.nil ?_
  refine thn_n ?_
  refine WP.ret ?_
  refine bodyQ.of _ rfl [.bool b11] ⟨rfl, trivial⟩ ?_
  exact ⟨_, rfl, Bp.of hb12 (by first | exact Iff.rfl | (simp_all; done) | grind), hp10.fr⟩

theorem r8_Compare (a b : GTag) (w : World) :
    Calls Try.prog 81 #[GTag.val a, GTag.val b] w (fun r_ w' => r_ = .returned (.int .i64 (tagCmp a b)) ∧ Fram Non w w') := by
  refine calls_of Try.func81 rfl 29 rfl (by simp) ?_
  have hp0 := Hp.init w
  have he0 : List.map (env0 [GTag.val a, GTag.val b]) [0, 1] = [GTag.val a, GTag.val b] := by kernel_rfl
  obtain ⟨b0, he0⟩ := toMk he0
  rw [he0]
  clear he0
  refine WP.seq ?_
  refine WP.region _ rfl (by kernel_rfl) ?_
  refine OPS.cons (opStep.box hp0 [.int .i64 a.Count, .int .i64 a.Client] (by kernel_rfl) (fun g3 w1 hp2 => ?_))
  refine OPS.cons (opStep.box hp2 [.int .i64 b.Count, .int .i64 b.Client] (by kernel_rfl) (fun g6 w4 hp5 => ?_))
  refine OPS.batch 1 {} [] [2, 3] [.pointer (some ⟨g3, 0, none⟩), .pointer (some ⟨g6, 0, none⟩)] .nil (by kernel_rfl) (fun b7 => ?_)
  refine OPS.nil ?_
  refine thn_n ?_
  refine WP.seq ?_
  refine WP.block ?_
  refine WP.cut (fun e22 w23 => ∃ (x20 : Bool), (True) ∧ Bp x20 (((a.Count < b.Count)) ∨ ((¬ (a.Count < b.Count)) ∧ (a.Count = b.Count) ∧ (a.Client < b.Client))) ∧ List.map e22 [2, 3, 5] = [.pointer (some ⟨g3, 0, none⟩), .pointer (some ⟨g6, 0, none⟩), .bool x20] ∧ Hp w Non [Res.row g6 [.int .i64 b.Count, .int .i64 b.Client] 70, Res.row g3 [.int .i64 a.Count, .int .i64 a.Client] 70] w23) ?_ ?_
  · refine WP.region _ rfl (by kernel_rfl) ?_
    refine OPS.batch 6 {} [.int .i64 a.Count, .int .i64 b.Count] [2, 3, 11] [.pointer (some ⟨g3, 0, none⟩), .pointer (some ⟨g6, 0, none⟩), .bool (decide (a.Count < b.Count))] (.cons (Ld.row1 (P := Try.prog) (t := 2) (o := 0) (v := .int .i64 a.Count) hp5.get1 (by kernel_rfl)) (.cons (Ld.row1 (P := Try.prog) (t := 2) (o := 0) (v := .int .i64 b.Count) hp5.get0 (by kernel_rfl)) .nil)) (by kernel_rfl) (fun b9 => ?_)
    by_cases h10 : a.Count < b.Count
    · refine OPS.batch 0 {} [] [2, 3, 11] [.pointer (some ⟨g3, 0, none⟩), .pointer (some ⟨g6, 0, none⟩), .bool (decide (a.Count < b.Count))] .nil (by kernel_rfl) (fun b11 => ?_)
      refine OPS.re [.pointer (some ⟨g3, 0, none⟩), .pointer (some ⟨g6, 0, none⟩), .bool true] (by rw [show (decide (a.Count < b.Count)) = true from Bp.dec.tt h10]) ?_
      refine OPS.batch 14 { wraps := [24] } [] [2, 3, 5] [.pointer (some ⟨g3, 0, none⟩), .pointer (some ⟨g6, 0, none⟩), .bool true] .nil (by kernel_rfl) (fun b12 => ?_)
      refine OPS.nil ?_
      refine thn_n ?_
      exact ⟨true, trivial, Bp.of Bp.t (by first | (simp only [h10, iff_false, false_iff, iff_true, true_iff, Classical.not_not, and_true, true_and, and_false, false_and, or_true, true_or, or_false, false_or, not_true_eq_false, not_false_eq_true, and_self, or_self, iff_self]; done) | (simp [h10]; done) | grind | (simp_all; done)), by kernel_rfl, hp5⟩
    · refine OPS.batch 0 {} [] [2, 3, 11] [.pointer (some ⟨g3, 0, none⟩), .pointer (some ⟨g6, 0, none⟩), .bool (decide (a.Count < b.Count))] .nil (by kernel_rfl) (fun b13 => ?_)
      refine OPS.re [.pointer (some ⟨g3, 0, none⟩), .pointer (some ⟨g6, 0, none⟩), .bool false] (by rw [show (decide (a.Count < b.Count)) = false from Bp.dec.ff h10]) ?_
      refine OPS.batch 6 {} [.int .i64 a.Count, .int .i64 b.Count] [2, 3, 11, 17] [.pointer (some ⟨g3, 0, none⟩), .pointer (some ⟨g6, 0, none⟩), .bool false, .bool (decide (a.Count = b.Count))] (.cons (Ld.row1 (P := Try.prog) (t := 2) (o := 0) (v := .int .i64 a.Count) hp5.get1 (by kernel_rfl)) (.cons (Ld.row1 (P := Try.prog) (t := 2) (o := 0) (v := .int .i64 b.Count) hp5.get0 (by kernel_rfl)) .nil)) (by kernel_rfl) (fun b14 => ?_)
      by_cases h15 : a.Count = b.Count
      · refine OPS.batch 0 {} [] [2, 3, 11, 17] [.pointer (some ⟨g3, 0, none⟩), .pointer (some ⟨g6, 0, none⟩), .bool false, .bool (decide (a.Count = b.Count))] .nil (by kernel_rfl) (fun b16 => ?_)
        refine OPS.re [.pointer (some ⟨g3, 0, none⟩), .pointer (some ⟨g6, 0, none⟩), .bool false, .bool true] (by rw [show (decide (a.Count = b.Count)) = true from Bp.dec.tt h15]) ?_
        refine OPS.batch 8 { wraps := [23, 24] } [.int .i64 a.Client, .int .i64 b.Client] [2, 3, 5] [.pointer (some ⟨g3, 0, none⟩), .pointer (some ⟨g6, 0, none⟩), .bool (decide (a.Client < b.Client))] (.cons (Ld.row1 (P := Try.prog) (t := 3) (o := 1) (v := .int .i64 a.Client) hp5.get1 (by kernel_rfl)) (.cons (Ld.row1 (P := Try.prog) (t := 3) (o := 1) (v := .int .i64 b.Client) hp5.get0 (by kernel_rfl)) .nil)) (by kernel_rfl) (fun b17 => ?_)
        refine OPS.nil ?_
        refine thn_n ?_
        exact ⟨decide (a.Client < b.Client), trivial, Bp.of Bp.dec (by first | (simp only [h10, h15, iff_false, false_iff, iff_true, true_iff, Classical.not_not, and_true, true_and, and_false, false_and, or_true, true_or, or_false, false_or, not_true_eq_false, not_false_eq_true, and_self, or_self, iff_self]; done) | (simp [h10, h15]; done) | grind | (simp_all; done)), by kernel_rfl, hp5⟩
      · refine OPS.batch 0 {} [] [2, 3, 11, 17] [.pointer (some ⟨g3, 0, none⟩), .pointer (some ⟨g6, 0, none⟩), .bool false, .bool (decide (a.Count = b.Count))] .nil (by kernel_rfl) (fun b18 => ?_)
        refine OPS.re [.pointer (some ⟨g3, 0, none⟩), .pointer (some ⟨g6, 0, none⟩), .bool false, .bool false] (by rw [show (decide (a.Count = b.Count)) = false from Bp.dec.ff h15]) ?_
        refine OPS.batch 8 { wraps := [23, 24] } [] [2, 3, 5] [.pointer (some ⟨g3, 0, none⟩), .pointer (some ⟨g6, 0, none⟩), .bool false] .nil (by kernel_rfl) (fun b19 => ?_)
        refine OPS.nil ?_
        refine thn_n ?_
        exact ⟨false, trivial, Bp.of Bp.f (by first | (simp only [h10, h15, iff_false, false_iff, iff_true, true_iff, Classical.not_not, and_true, true_and, and_false, false_and, or_true, true_or, or_false, false_or, not_true_eq_false, not_false_eq_true, and_self, or_self, iff_self]; done) | (simp [h10, h15]; done) | grind | (simp_all; done)), by kernel_rfl, hp5⟩
  rintro e22 w23 ⟨x20, hd25, hb21, hE26, hp24⟩
  obtain ⟨b27, rfl⟩ := toMk hE26
  clear hE26
  clear hd25
  refine WP.test (p := ((a.Count < b.Count)) ∨ ((¬ (a.Count < b.Count)) ∧ (a.Count = b.Count) ∧ (a.Client < b.Client))) rfl hb21 (fun h28 => ?_) (fun h28 => ?_)
  · refine WP.seq ?_
    refine WP.pure {} [] [4] [.int .i64 (-1)] .nil (by kernel_rfl) (fun b29 => ?_)
    refine thn_n ?_
    refine WP.ret ?_
    refine blk_r ?_
    refine thn_r ?_
    refine bodyQ.of _ rfl [.int .i64 (-1)] ⟨rfl, trivial⟩ ?_
    have hq := tagCmp_cases a b
    exact ⟨by simp only [pack]; rw [show tagCmp a b = (-1) from by omega], hp24.fr⟩
  · refine WP.seq ?_
    refine WP.pure {} [GTag.val a, GTag.val b] [25] [.bool ((decide (a.Count = b.Count)) && ((decide (a.Client = b.Client)) && true))] (.cons (show Ld Try.prog w23 70 ⟨g3, 0, none⟩ (GTag.val a) from Ld.rowN (cs := [.int .i64 a.Count, .int .i64 a.Client]) hp24.get1 (by kernel_rfl)) (.cons (show Ld Try.prog w23 70 ⟨g6, 0, none⟩ (GTag.val b) from Ld.rowN (cs := [.int .i64 b.Count, .int .i64 b.Client]) hp24.get0 (by kernel_rfl)) .nil)) (by kernel_rfl) (fun b30 => ?_)
    refine thn_n ?_
    refine WP.test (p := (a.Count = b.Count) ∧ (a.Client = b.Client)) rfl (Bp.band Bp.dec (Bp.band1 Bp.dec)) (fun h31 => ?_) (fun h31 => ?_)
    · refine WP.seq ?_
      refine WP.pure {} [] [4] [.int .i64 0] .nil (by kernel_rfl) (fun b32 => ?_)
      refine thn_n ?_
      refine WP.ret ?_
      refine blk_r ?_
      refine thn_r ?_
      refine bodyQ.of _ rfl [.int .i64 0] ⟨rfl, trivial⟩ ?_
      have hq := tagCmp_cases a b
      exact ⟨by simp only [pack]; rw [show tagCmp a b = 0 from by omega], hp24.fr⟩
    · refine WP.skip ?_
      refine blk_n ?_
      refine thn_n ?_
      refine WP.seq ?_
      refine WP.pure {} [] [4] [.int .i64 1] .nil (by kernel_rfl) (fun b33 => ?_)
      refine thn_n ?_
      refine WP.ret ?_
      refine bodyQ.of _ rfl [.int .i64 1] ⟨rfl, trivial⟩ ?_
      have hq := tagCmp_cases a b
      exact ⟨by simp only [pack]; rw [show tagCmp a b = 1 from by omega], hp24.fr⟩

theorem r21_Fit (l : List GCall) (a : Option Addr) (n c : Nat) (w : World) (hn : n = l.length) (hb : l.length ≤ 8796093022207) (hs : SlR w a n (l.flatMap GCall.cells)) :
    Calls Try.prog 74 #[.slice a n c] w (fun r_ w' => ∃ f_, r_ = .returned (.bool f_) ∧ Bp f_ (fitP l) ∧ Fram Non w w') := by
  refine calls_of Try.func74 rfl 66 rfl (by simp) ?_
  have hp0 := Hp.init w
  have he0 : List.map (env0 [.slice a n c]) [0] = [.slice a n c] := by kernel_rfl
  obtain ⟨b0, he0⟩ := toMk he0
  rw [he0]
  clear he0
  refine WP.seq ?_
  refine WP.pure {} [] [0] [.slice a n c] .nil (by kernel_rfl) (fun b1 => ?_)
  refine thn_n ?_
  refine WP.seq ?_
  refine WP.seq ?_
  refine WP.pure {} [] [0, 3] [.slice a n c, .int .i64 0] .nil (by kernel_rfl) (fun b2 => ?_)
  refine thn_n ?_
  refine WP.block ?_
  refine WP.loop (fun mz_ e3 w4 => ∃ (k : Nat), mz_ = l.length - k ∧ (k ≤ l.length ∧ ∀ i, i < k → fitC l[0]!.Key l[i]!) ∧ List.map e3 [0, 3] = [.slice a n c, .int .i64 (k : Int)] ∧ Hp w Non [] w4) (l.length - (0)) ⟨0, rfl, ⟨by omega, fun i hi => by omega⟩, by kernel_rfl, hp0⟩ ?_
  rintro _ e3 w4 ⟨k, rfl, hI6, hE7, hp5⟩
  obtain ⟨b8, rfl⟩ := toMk hE7
  clear hE7
  obtain ⟨pa, pb⟩ := hI6
  refine WP.seq ?_
  refine WP.seq ?_
  refine WP.pure {} [] [0, 3, 9] [.slice a n c, .int .i64 (k : Int), .bool (decide ((k : Int) < ((n : Nat) : Int)))] .nil (by kernel_rfl) (fun b9 => ?_)
  refine thn_n ?_
  refine WP.test (p := (k : Int) < ((n : Nat) : Int)) rfl Bp.dec (fun h10 => ?_) (fun h10 => ?_)
  · refine WP.skip ?_
    refine thn_n ?_
    refine WP.seq ?_
    refine WP.block ?_
    refine WP.seq ?_
    refine WP.region _ rfl (by kernel_rfl) ?_
    have hy14 : (l)[k]? = some l[k]! := get_bang (by first | (omega) | (simp only [List.length_append, List.length_cons, List.length_nil]; omega) | (simp only [List.length_take, List.length_append, List.length_cons, List.length_nil]; omega))
    refine OPS.batch 4 {} [GCall.val (l[k]!)] [0, 3, 15] [.slice a n c, .int .i64 (k : Int), GCall.val (l[k]!)] (.cons (show InB ((k : Int)) (n) from ⟨by omega, by omega⟩) (.cons ((hs.at hp5).some (by omega)) (.cons (Ld.add0 (Ld.elN (P := Try.prog) (t := 73) (hs.at hp5).rd 11 (fun _ => rfl) hy14 (o := 0) (cs := [.int .i64 (l[k]!.Client), .int .i64 (l[k]!.Op), .bool (l[k]!.Put), .string (l[k]!.Key), .slice (l[k]!.Value.a) (l[k]!.Value.n) (l[k]!.Value.c), .int .i64 (l[k]!.Status), .int .i64 (l[k]!.From), .int .i64 (l[k]!.To), .bool (l[k]!.Open), .int .i64 (l[k]!.Tag.Count), .int .i64 (l[k]!.Tag.Client)]) (by kernel_rfl))) .nil))) (by kernel_rfl) (fun b15 => ?_)
    refine OPS.cons (opStep.alloc hp5 [.int .i64 0, .int .i64 0, .bool false, .string ByteArray.empty, .slice none 0 0, .int .i64 0, .int .i64 0, .int .i64 0, .bool false, .int .i64 0, .int .i64 0] (by kernel_rfl) (fun g18 w16 hp17 => ?_))
    refine OPS.cons (opStep.store0 hp17 rfl [.int .i64 (l[k]!.Client), .int .i64 (l[k]!.Op), .bool (l[k]!.Put), .string (l[k]!.Key), .slice (l[k]!.Value.a) (l[k]!.Value.n) (l[k]!.Value.c), .int .i64 (l[k]!.Status), .int .i64 (l[k]!.From), .int .i64 (l[k]!.To), .bool (l[k]!.Open), .int .i64 (l[k]!.Tag.Count), .int .i64 (l[k]!.Tag.Client)] [.int .i64 (l[k]!.Client), .int .i64 (l[k]!.Op), .bool (l[k]!.Put), .string (l[k]!.Key), .slice (l[k]!.Value.a) (l[k]!.Value.n) (l[k]!.Value.c), .int .i64 (l[k]!.Status), .int .i64 (l[k]!.From), .int .i64 (l[k]!.To), .bool (l[k]!.Open), .int .i64 (l[k]!.Tag.Count), .int .i64 (l[k]!.Tag.Client)] (by kernel_rfl) (fun w19 hp20 => ?_))
    refine OPS.nil ?_
    refine thn_n ?_
    refine WP.cut (fun e35 w36 => ∃ (x33 : Bool), (True) ∧ Bp x33 ((((l[k]!.Put) = true) ∧ ((l[k]!.To) = (-1))) ∨ (((l[k]!.Put) = true) ∧ (¬ ((l[k]!.To) = (-1))) ∧ (¬ ((l[k]!.Status) = 0)))) ∧ List.map e35 [0, 3, 4, 5] = [.slice a n c, .int .i64 (k : Int), .pointer (some ⟨g18, 0, none⟩), .bool x33] ∧ Hp w Non [Res.row g18 [.int .i64 (l[k]!.Client), .int .i64 (l[k]!.Op), .bool (l[k]!.Put), .string (l[k]!.Key), .slice (l[k]!.Value.a) (l[k]!.Value.n) (l[k]!.Value.c), .int .i64 (l[k]!.Status), .int .i64 (l[k]!.From), .int .i64 (l[k]!.To), .bool (l[k]!.Open), .int .i64 (l[k]!.Tag.Count), .int .i64 (l[k]!.Tag.Client)] 73] w36) ?_ ?_
    · refine WP.region _ rfl (by kernel_rfl) ?_
      refine OPS.batch 3 {} [.bool (l[k]!.Put)] [0, 3, 4, 18] [.slice a n c, .int .i64 (k : Int), .pointer (some ⟨g18, 0, none⟩), .bool (l[k]!.Put)] (.cons (Ld.row1 (P := Try.prog) (t := 4) (o := 2) (v := .bool (l[k]!.Put)) hp20.get0 (by kernel_rfl)) .nil) (by kernel_rfl) (fun b22 => ?_)
      by_cases h23 : (l[k]!.Put) = true
      · refine OPS.batch 0 {} [] [0, 3, 4, 18] [.slice a n c, .int .i64 (k : Int), .pointer (some ⟨g18, 0, none⟩), .bool (l[k]!.Put)] .nil (by kernel_rfl) (fun b24 => ?_)
        refine OPS.re [.slice a n c, .int .i64 (k : Int), .pointer (some ⟨g18, 0, none⟩), .bool true] (by rw [show (l[k]!.Put) = true from Bp.var.tt h23]) ?_
        refine OPS.batch 4 {} [.int .i64 (l[k]!.To)] [0, 3, 4, 18, 22] [.slice a n c, .int .i64 (k : Int), .pointer (some ⟨g18, 0, none⟩), .bool true, .bool (decide ((l[k]!.To) = (-1)))] (.cons (Ld.row1 (P := Try.prog) (t := 3) (o := 7) (v := .int .i64 (l[k]!.To)) hp20.get0 (by kernel_rfl)) .nil) (by kernel_rfl) (fun b25 => ?_)
        by_cases h26 : (l[k]!.To) = (-1)
        · refine OPS.batch 0 {} [] [0, 3, 4, 18, 22] [.slice a n c, .int .i64 (k : Int), .pointer (some ⟨g18, 0, none⟩), .bool true, .bool (decide ((l[k]!.To) = (-1)))] .nil (by kernel_rfl) (fun b27 => ?_)
          refine OPS.re [.slice a n c, .int .i64 (k : Int), .pointer (some ⟨g18, 0, none⟩), .bool true, .bool true] (by rw [show (decide ((l[k]!.To) = (-1))) = true from Bp.dec.tt h26]) ?_
          refine OPS.batch 6 { wraps := [26, 27] } [] [0, 3, 4, 5] [.slice a n c, .int .i64 (k : Int), .pointer (some ⟨g18, 0, none⟩), .bool true] .nil (by kernel_rfl) (fun b28 => ?_)
          refine OPS.nil ?_
          refine thn_n ?_
          exact ⟨true, trivial, Bp.of Bp.t (by first | (simp only [h23, h26, iff_false, false_iff, iff_true, true_iff, Classical.not_not, and_true, true_and, and_false, false_and, or_true, true_or, or_false, false_or, not_true_eq_false, not_false_eq_true, and_self, or_self, iff_self]; done) | (simp [h23, h26]; done) | grind | (simp_all; done)), by kernel_rfl, hp20⟩
        · refine OPS.batch 0 {} [] [0, 3, 4, 18, 22] [.slice a n c, .int .i64 (k : Int), .pointer (some ⟨g18, 0, none⟩), .bool true, .bool (decide ((l[k]!.To) = (-1)))] .nil (by kernel_rfl) (fun b29 => ?_)
          refine OPS.re [.slice a n c, .int .i64 (k : Int), .pointer (some ⟨g18, 0, none⟩), .bool true, .bool false] (by rw [show (decide ((l[k]!.To) = (-1))) = false from Bp.dec.ff h26]) ?_
          refine OPS.batch 6 { wraps := [26, 27] } [.int .i64 (l[k]!.Status)] [0, 3, 4, 5] [.slice a n c, .int .i64 (k : Int), .pointer (some ⟨g18, 0, none⟩), .bool (decide (¬ ((l[k]!.Status) = 0)))] (.cons (Ld.row1 (P := Try.prog) (t := 25) (o := 5) (v := .int .i64 (l[k]!.Status)) hp20.get0 (by kernel_rfl)) .nil) (by kernel_rfl) (fun b30 => ?_)
          refine OPS.nil ?_
          refine thn_n ?_
          exact ⟨decide (¬ ((l[k]!.Status) = 0)), trivial, Bp.of Bp.dec (by first | (simp only [h23, h26, iff_false, false_iff, iff_true, true_iff, Classical.not_not, and_true, true_and, and_false, false_and, or_true, true_or, or_false, false_or, not_true_eq_false, not_false_eq_true, and_self, or_self, iff_self]; done) | (simp [h23, h26]; done) | grind | (simp_all; done)), by kernel_rfl, hp20⟩
      · refine OPS.batch 0 {} [] [0, 3, 4, 18] [.slice a n c, .int .i64 (k : Int), .pointer (some ⟨g18, 0, none⟩), .bool (l[k]!.Put)] .nil (by kernel_rfl) (fun b31 => ?_)
        refine OPS.re [.slice a n c, .int .i64 (k : Int), .pointer (some ⟨g18, 0, none⟩), .bool false] (by rw [show (l[k]!.Put) = false from Bp.var.ff h23]) ?_
        refine OPS.batch 10 { wraps := [27] } [] [0, 3, 4, 5] [.slice a n c, .int .i64 (k : Int), .pointer (some ⟨g18, 0, none⟩), .bool false] .nil (by kernel_rfl) (fun b32 => ?_)
        refine OPS.nil ?_
        refine thn_n ?_
        exact ⟨false, trivial, Bp.of Bp.f (by first | (simp only [h23, iff_false, false_iff, iff_true, true_iff, Classical.not_not, and_true, true_and, and_false, false_and, or_true, true_or, or_false, false_or, not_true_eq_false, not_false_eq_true, and_self, or_self, iff_self]; done) | (simp [h23]; done) | grind | (simp_all; done)), by kernel_rfl, hp20⟩
    rintro e35 w36 ⟨x33, hd38, hb34, hE39, hp37⟩
    obtain ⟨b40, rfl⟩ := toMk hE39
    clear hE39
    clear hd38
    refine WP.cut (fun e138 w139 => ∃ (x136 : Bool), (True) ∧ Bp x136 (((¬ ((l[k]!.Key) = (l[0]!.Key)))) ∨ (((l[k]!.Key) = (l[0]!.Key)) ∧ ((l[k]!.From) < 0)) ∨ (((l[k]!.Key) = (l[0]!.Key)) ∧ (¬ ((l[k]!.From) < 0)) ∧ (¬ ((l[k]!.To) = (-1))) ∧ ((l[k]!.To) ≤ (l[k]!.From))) ∨ (((l[k]!.Key) = (l[0]!.Key)) ∧ (¬ ((l[k]!.From) < 0)) ∧ (¬ ((l[k]!.To) = (-1))) ∧ (¬ ((l[k]!.To) ≤ (l[k]!.From))) ∧ (¬ ((((l[k]!.Open) = true) ↔ ((((l[k]!.Put) = true) ∧ ((l[k]!.To) = (-1))) ∨ (((l[k]!.Put) = true) ∧ (¬ ((l[k]!.To) = (-1))) ∧ (¬ ((l[k]!.Status) = 0)))))))) ∨ (((l[k]!.Key) = (l[0]!.Key)) ∧ (¬ ((l[k]!.From) < 0)) ∧ (¬ ((l[k]!.To) = (-1))) ∧ (¬ ((l[k]!.To) ≤ (l[k]!.From))) ∧ (((l[k]!.Open) = true) ↔ ((((l[k]!.Put) = true) ∧ ((l[k]!.To) = (-1))) ∨ (((l[k]!.Put) = true) ∧ (¬ ((l[k]!.To) = (-1))) ∧ (¬ ((l[k]!.Status) = 0))))) ∧ ((((l[k]!.Put) = true) ∧ ((l[k]!.To) = (-1))) ∨ (((l[k]!.Put) = true) ∧ (¬ ((l[k]!.To) = (-1))) ∧ (¬ ((l[k]!.Status) = 0)))) ∧ (¬ ((l[k]!.To) = (-1)))) ∨ (((l[k]!.Key) = (l[0]!.Key)) ∧ (¬ ((l[k]!.From) < 0)) ∧ ((l[k]!.To) = (-1)) ∧ (¬ ((((l[k]!.Open) = true) ↔ ((((l[k]!.Put) = true) ∧ ((l[k]!.To) = (-1))) ∨ (((l[k]!.Put) = true) ∧ (¬ ((l[k]!.To) = (-1))) ∧ (¬ ((l[k]!.Status) = 0)))))))) ∨ (((l[k]!.Key) = (l[0]!.Key)) ∧ (¬ ((l[k]!.From) < 0)) ∧ ((l[k]!.To) = (-1)) ∧ (((l[k]!.Open) = true) ↔ ((((l[k]!.Put) = true) ∧ ((l[k]!.To) = (-1))) ∨ (((l[k]!.Put) = true) ∧ (¬ ((l[k]!.To) = (-1))) ∧ (¬ ((l[k]!.Status) = 0))))) ∧ ((((l[k]!.Put) = true) ∧ ((l[k]!.To) = (-1))) ∨ (((l[k]!.Put) = true) ∧ (¬ ((l[k]!.To) = (-1))) ∧ (¬ ((l[k]!.Status) = 0)))) ∧ (¬ ((l[k]!.To) = (-1))))) ∧ List.map e138 [0, 3, 65] = [.slice a n c, .int .i64 (k : Int), .bool x136] ∧ Hp w Non [Res.row g18 [.int .i64 (l[k]!.Client), .int .i64 (l[k]!.Op), .bool (l[k]!.Put), .string (l[k]!.Key), .slice (l[k]!.Value.a) (l[k]!.Value.n) (l[k]!.Value.c), .int .i64 (l[k]!.Status), .int .i64 (l[k]!.From), .int .i64 (l[k]!.To), .bool (l[k]!.Open), .int .i64 (l[k]!.Tag.Count), .int .i64 (l[k]!.Tag.Client)] 73] w139) ?_ ?_
    · have hp44 := hp37.drew
      refine WP.quiet (fun w42 => Hp w Non [Res.row g18 [.int .i64 (l[k]!.Client), .int .i64 (l[k]!.Op), .bool (l[k]!.Put), .string (l[k]!.Key), .slice (l[k]!.Value.a) (l[k]!.Value.n) (l[k]!.Value.c), .int .i64 (l[k]!.Status), .int .i64 (l[k]!.From), .int .i64 (l[k]!.To), .bool (l[k]!.Open), .int .i64 (l[k]!.Tag.Count), .int .i64 (l[k]!.Tag.Client)] 73] w42) (by kernel_rfl) hp44 ?_
      have hnehp44 : ∃ wz_, (fun w42 => Hp w Non [Res.row g18 [.int .i64 (l[k]!.Client), .int .i64 (l[k]!.Op), .bool (l[k]!.Put), .string (l[k]!.Key), .slice (l[k]!.Value.a) (l[k]!.Value.n) (l[k]!.Value.c), .int .i64 (l[k]!.Status), .int .i64 (l[k]!.From), .int .i64 (l[k]!.To), .bool (l[k]!.Open), .int .i64 (l[k]!.Tag.Count), .int .i64 (l[k]!.Tag.Client)] 73] w42) wz_ := ⟨_, hp44⟩
      have hy48 : (l)[0]? = some l[0]! := get_bang (by first | (omega) | (simp only [List.length_append, List.length_cons, List.length_nil]; omega) | (simp only [List.length_take, List.length_append, List.length_cons, List.length_nil]; omega))
      refine QOPS.batch 8 {} [.string (l[k]!.Key), .string (l[0]!.Key)] [0, 3, 4, 5, 35] [.slice a n c, .int .i64 (k : Int), .pointer (some ⟨g18, 0, none⟩), .bool x33, .bool (decide (¬ ((l[k]!.Key) = (l[0]!.Key))))] hnehp44 (fun w45 hp46 => QB.mk (.cons (Ld.row1 (P := Try.prog) (t := 9) (o := 3) (v := .string (l[k]!.Key)) hp46.get0 (by kernel_rfl)) (.cons (show InB (0) (n) from ⟨by omega, by omega⟩) (.cons ((hs.at hp46).some (by omega)) (.cons (Ld.el1 (P := Try.prog) (t := 9) (hs.at hp46).rd 11 (fun _ => rfl) hy48 (o := 3) (v := .string (l[0]!.Key)) (by kernel_rfl)) .nil)))) (by kernel_rfl)) (fun b49 => ?_)
      by_cases h50 : (l[k]!.Key) = (l[0]!.Key)
      · refine QOPS.batch 0 {} [] [0, 3, 4, 5, 35] [.slice a n c, .int .i64 (k : Int), .pointer (some ⟨g18, 0, none⟩), .bool x33, .bool (decide (¬ ((l[k]!.Key) = (l[0]!.Key))))] hnehp44 (fun _ _ => QB.mk .nil (by kernel_rfl)) (fun b57 => ?_)
        refine QOPS.re [.slice a n c, .int .i64 (k : Int), .pointer (some ⟨g18, 0, none⟩), .bool x33, .bool false] (by rw [show (decide (¬ ((l[k]!.Key) = (l[0]!.Key)))) = false from Bp.dec.ff (fun k => k h50)]) ?_
        refine QOPS.batch 5 { wraps := [39] } [.int .i64 (l[k]!.From)] [0, 3, 4, 5, 40] [.slice a n c, .int .i64 (k : Int), .pointer (some ⟨g18, 0, none⟩), .bool x33, .bool (decide ((l[k]!.From) < 0))] hnehp44 (fun w58 hp59 => QB.mk (.cons (Ld.row1 (P := Try.prog) (t := 3) (o := 6) (v := .int .i64 (l[k]!.From)) hp59.get0 (by kernel_rfl)) .nil) (by kernel_rfl)) (fun b60 => ?_)
        by_cases h61 : (l[k]!.From) < 0
        · refine QOPS.batch 0 {} [] [0, 3, 4, 5, 40] [.slice a n c, .int .i64 (k : Int), .pointer (some ⟨g18, 0, none⟩), .bool x33, .bool (decide ((l[k]!.From) < 0))] hnehp44 (fun _ _ => QB.mk .nil (by kernel_rfl)) (fun b62 => ?_)
          refine QOPS.re [.slice a n c, .int .i64 (k : Int), .pointer (some ⟨g18, 0, none⟩), .bool x33, .bool true] (by rw [show (decide ((l[k]!.From) < 0)) = true from Bp.dec.tt h61]) ?_
          refine QOPS.batch 25 { wraps := [51, 57, 65] } [] [0, 3, 65] [.slice a n c, .int .i64 (k : Int), .bool true] hnehp44 (fun w63 hp64 => QB.mk .nil (by kernel_rfl)) (fun b65 => ?_)
          refine QOPS.nil (fun w66 hp67 => ?_)
          refine thn_n ?_
          exact ⟨true, trivial, Bp.of Bp.t (by first | (simp only [h50, h61, iff_false, false_iff, iff_true, true_iff, Classical.not_not, and_true, true_and, and_false, false_and, or_true, true_or, or_false, false_or, not_true_eq_false, not_false_eq_true, and_self, or_self, iff_self]; done) | (simp [h50, h61]; done) | grind | (simp_all; done)), by kernel_rfl, hp67⟩
        · refine QOPS.batch 0 {} [] [0, 3, 4, 5, 40] [.slice a n c, .int .i64 (k : Int), .pointer (some ⟨g18, 0, none⟩), .bool x33, .bool (decide ((l[k]!.From) < 0))] hnehp44 (fun _ _ => QB.mk .nil (by kernel_rfl)) (fun b68 => ?_)
          refine QOPS.re [.slice a n c, .int .i64 (k : Int), .pointer (some ⟨g18, 0, none⟩), .bool x33, .bool false] (by rw [show (decide ((l[k]!.From) < 0)) = false from Bp.dec.ff h61]) ?_
          refine QOPS.batch 4 {} [.int .i64 (l[k]!.To)] [0, 3, 4, 5, 40, 44] [.slice a n c, .int .i64 (k : Int), .pointer (some ⟨g18, 0, none⟩), .bool x33, .bool false, .bool (decide (¬ ((l[k]!.To) = (-1))))] hnehp44 (fun w69 hp70 => QB.mk (.cons (Ld.row1 (P := Try.prog) (t := 3) (o := 7) (v := .int .i64 (l[k]!.To)) hp70.get0 (by kernel_rfl)) .nil) (by kernel_rfl)) (fun b71 => ?_)
          by_cases h72 : (l[k]!.To) = (-1)
          · refine QOPS.batch 0 {} [] [0, 3, 4, 5, 40, 44] [.slice a n c, .int .i64 (k : Int), .pointer (some ⟨g18, 0, none⟩), .bool x33, .bool false, .bool (decide (¬ ((l[k]!.To) = (-1))))] hnehp44 (fun _ _ => QB.mk .nil (by kernel_rfl)) (fun b110 => ?_)
            refine QOPS.re [.slice a n c, .int .i64 (k : Int), .pointer (some ⟨g18, 0, none⟩), .bool x33, .bool false, .bool false] (by rw [show (decide (¬ ((l[k]!.To) = (-1)))) = false from Bp.dec.ff (fun k => k h72)]) ?_
            refine QOPS.batch 14 { wraps := [50, 51, 57] } [.bool (l[k]!.Open)] [0, 3, 4, 5, 58] [.slice a n c, .int .i64 (k : Int), .pointer (some ⟨g18, 0, none⟩), .bool x33, .bool (!((l[k]!.Open) == x33))] hnehp44 (fun w111 hp112 => QB.mk (.cons (Ld.row1 (P := Try.prog) (t := 4) (o := 8) (v := .bool (l[k]!.Open)) hp112.get0 (by kernel_rfl)) .nil) (by kernel_rfl)) (fun b113 => ?_)
            by_cases h114 : (((l[k]!.Open) = true) ↔ ((((l[k]!.Put) = true) ∧ ((l[k]!.To) = (-1))) ∨ (((l[k]!.Put) = true) ∧ (¬ ((l[k]!.To) = (-1))) ∧ (¬ ((l[k]!.Status) = 0)))))
            · refine QOPS.batch 0 {} [] [0, 3, 4, 5, 58] [.slice a n c, .int .i64 (k : Int), .pointer (some ⟨g18, 0, none⟩), .bool x33, .bool (!((l[k]!.Open) == x33))] hnehp44 (fun _ _ => QB.mk .nil (by kernel_rfl)) (fun b121 => ?_)
              refine QOPS.re [.slice a n c, .int .i64 (k : Int), .pointer (some ⟨g18, 0, none⟩), .bool x33, .bool false] (by rw [show (!((l[k]!.Open) == x33)) = false from (Bp.not (Bp.beq Bp.var hb34)).ff (fun k => k h114)]) ?_
              refine QOPS.batch 2 {} [] [0, 3, 4, 58, 60] [.slice a n c, .int .i64 (k : Int), .pointer (some ⟨g18, 0, none⟩), .bool false, .bool x33] hnehp44 (fun w122 hp123 => QB.mk .nil (by kernel_rfl)) (fun b124 => ?_)
              by_cases h125 : (((l[k]!.Put) = true) ∧ ((l[k]!.To) = (-1))) ∨ (((l[k]!.Put) = true) ∧ (¬ ((l[k]!.To) = (-1))) ∧ (¬ ((l[k]!.Status) = 0)))
              · rw [show x33 = true from hb34.tt h125]
                refine QOPS.batch 5 { wraps := [64, 65] } [.int .i64 (l[k]!.To)] [0, 3, 65] [.slice a n c, .int .i64 (k : Int), .bool (decide (¬ ((l[k]!.To) = (-1))))] hnehp44 (fun w126 hp127 => QB.mk (.cons (Ld.row1 (P := Try.prog) (t := 3) (o := 7) (v := .int .i64 (l[k]!.To)) hp127.get0 (by kernel_rfl)) .nil) (by kernel_rfl)) (fun b128 => ?_)
                refine QOPS.nil (fun w129 hp130 => ?_)
                refine thn_n ?_
                exact ⟨decide (¬ ((l[k]!.To) = (-1))), trivial, Bp.of Bp.dec (by first | (simp only [h50, h61, h72, h114, h125, iff_false, false_iff, iff_true, true_iff, Classical.not_not, and_true, true_and, and_false, false_and, or_true, true_or, or_false, false_or, not_true_eq_false, not_false_eq_true, and_self, or_self, iff_self]; done) | (simp [h50, h61, h72, h114, h125]; done) | grind | (simp_all; done)), by kernel_rfl, hp130⟩
              · rw [show x33 = false from hb34.ff h125]
                refine QOPS.batch 5 { wraps := [64, 65] } [] [0, 3, 65] [.slice a n c, .int .i64 (k : Int), .bool false] hnehp44 (fun w131 hp132 => QB.mk .nil (by kernel_rfl)) (fun b133 => ?_)
                refine QOPS.nil (fun w134 hp135 => ?_)
                refine thn_n ?_
                exact ⟨false, trivial, Bp.of Bp.f (by first | (simp only [h50, h61, h72, h114, h125, iff_false, false_iff, iff_true, true_iff, Classical.not_not, and_true, true_and, and_false, false_and, or_true, true_or, or_false, false_or, not_true_eq_false, not_false_eq_true, and_self, or_self, iff_self]; done) | (simp [h50, h61, h72, h114, h125]; done) | grind | (simp_all; done)), by kernel_rfl, hp135⟩
            · refine QOPS.batch 0 {} [] [0, 3, 4, 5, 58] [.slice a n c, .int .i64 (k : Int), .pointer (some ⟨g18, 0, none⟩), .bool x33, .bool (!((l[k]!.Open) == x33))] hnehp44 (fun _ _ => QB.mk .nil (by kernel_rfl)) (fun b115 => ?_)
              refine QOPS.re [.slice a n c, .int .i64 (k : Int), .pointer (some ⟨g18, 0, none⟩), .bool x33, .bool true] (by rw [show (!((l[k]!.Open) == x33)) = true from (Bp.not (Bp.beq Bp.var hb34)).tt h114]) ?_
              refine QOPS.batch 7 { wraps := [65] } [] [0, 3, 65] [.slice a n c, .int .i64 (k : Int), .bool true] hnehp44 (fun w116 hp117 => QB.mk .nil (by kernel_rfl)) (fun b118 => ?_)
              refine QOPS.nil (fun w119 hp120 => ?_)
              refine thn_n ?_
              exact ⟨true, trivial, Bp.of Bp.t (by first | (simp only [h50, h61, h72, h114, iff_false, false_iff, iff_true, true_iff, Classical.not_not, and_true, true_and, and_false, false_and, or_true, true_or, or_false, false_or, not_true_eq_false, not_false_eq_true, and_self, or_self, iff_self]; done) | (simp [h50, h61, h72, h114]; done) | grind | (simp_all; done)), by kernel_rfl, hp120⟩
          · refine QOPS.batch 0 {} [] [0, 3, 4, 5, 40, 44] [.slice a n c, .int .i64 (k : Int), .pointer (some ⟨g18, 0, none⟩), .bool x33, .bool false, .bool (decide (¬ ((l[k]!.To) = (-1))))] hnehp44 (fun _ _ => QB.mk .nil (by kernel_rfl)) (fun b73 => ?_)
            refine QOPS.re [.slice a n c, .int .i64 (k : Int), .pointer (some ⟨g18, 0, none⟩), .bool x33, .bool false, .bool true] (by rw [show (decide (¬ ((l[k]!.To) = (-1)))) = true from Bp.dec.tt h72]) ?_
            refine QOPS.batch 8 { wraps := [50, 51] } [.int .i64 (l[k]!.To), .int .i64 (l[k]!.From)] [0, 3, 4, 5, 52] [.slice a n c, .int .i64 (k : Int), .pointer (some ⟨g18, 0, none⟩), .bool x33, .bool (decide ((l[k]!.To) ≤ (l[k]!.From)))] hnehp44 (fun w74 hp75 => QB.mk (.cons (Ld.row1 (P := Try.prog) (t := 3) (o := 7) (v := .int .i64 (l[k]!.To)) hp75.get0 (by kernel_rfl)) (.cons (Ld.row1 (P := Try.prog) (t := 3) (o := 6) (v := .int .i64 (l[k]!.From)) hp75.get0 (by kernel_rfl)) .nil)) (by kernel_rfl)) (fun b76 => ?_)
            by_cases h77 : (l[k]!.To) ≤ (l[k]!.From)
            · refine QOPS.batch 0 {} [] [0, 3, 4, 5, 52] [.slice a n c, .int .i64 (k : Int), .pointer (some ⟨g18, 0, none⟩), .bool x33, .bool (decide ((l[k]!.To) ≤ (l[k]!.From)))] hnehp44 (fun _ _ => QB.mk .nil (by kernel_rfl)) (fun b78 => ?_)
              refine QOPS.re [.slice a n c, .int .i64 (k : Int), .pointer (some ⟨g18, 0, none⟩), .bool x33, .bool true] (by rw [show (decide ((l[k]!.To) ≤ (l[k]!.From))) = true from Bp.dec.tt h77]) ?_
              refine QOPS.batch 13 { wraps := [57, 65] } [] [0, 3, 65] [.slice a n c, .int .i64 (k : Int), .bool true] hnehp44 (fun w79 hp80 => QB.mk .nil (by kernel_rfl)) (fun b81 => ?_)
              refine QOPS.nil (fun w82 hp83 => ?_)
              refine thn_n ?_
              exact ⟨true, trivial, Bp.of Bp.t (by first | (simp only [h50, h61, h72, h77, iff_false, false_iff, iff_true, true_iff, Classical.not_not, and_true, true_and, and_false, false_and, or_true, true_or, or_false, false_or, not_true_eq_false, not_false_eq_true, and_self, or_self, iff_self]; done) | (simp [h50, h61, h72, h77]; done) | grind | (simp_all; done)), by kernel_rfl, hp83⟩
            · refine QOPS.batch 0 {} [] [0, 3, 4, 5, 52] [.slice a n c, .int .i64 (k : Int), .pointer (some ⟨g18, 0, none⟩), .bool x33, .bool (decide ((l[k]!.To) ≤ (l[k]!.From)))] hnehp44 (fun _ _ => QB.mk .nil (by kernel_rfl)) (fun b84 => ?_)
              refine QOPS.re [.slice a n c, .int .i64 (k : Int), .pointer (some ⟨g18, 0, none⟩), .bool x33, .bool false] (by rw [show (decide ((l[k]!.To) ≤ (l[k]!.From))) = false from Bp.dec.ff h77]) ?_
              refine QOPS.batch 6 { wraps := [57] } [.bool (l[k]!.Open)] [0, 3, 4, 5, 58] [.slice a n c, .int .i64 (k : Int), .pointer (some ⟨g18, 0, none⟩), .bool x33, .bool (!((l[k]!.Open) == x33))] hnehp44 (fun w85 hp86 => QB.mk (.cons (Ld.row1 (P := Try.prog) (t := 4) (o := 8) (v := .bool (l[k]!.Open)) hp86.get0 (by kernel_rfl)) .nil) (by kernel_rfl)) (fun b87 => ?_)
              by_cases h88 : (((l[k]!.Open) = true) ↔ ((((l[k]!.Put) = true) ∧ ((l[k]!.To) = (-1))) ∨ (((l[k]!.Put) = true) ∧ (¬ ((l[k]!.To) = (-1))) ∧ (¬ ((l[k]!.Status) = 0)))))
              · refine QOPS.batch 0 {} [] [0, 3, 4, 5, 58] [.slice a n c, .int .i64 (k : Int), .pointer (some ⟨g18, 0, none⟩), .bool x33, .bool (!((l[k]!.Open) == x33))] hnehp44 (fun _ _ => QB.mk .nil (by kernel_rfl)) (fun b95 => ?_)
                refine QOPS.re [.slice a n c, .int .i64 (k : Int), .pointer (some ⟨g18, 0, none⟩), .bool x33, .bool false] (by rw [show (!((l[k]!.Open) == x33)) = false from (Bp.not (Bp.beq Bp.var hb34)).ff (fun k => k h88)]) ?_
                refine QOPS.batch 2 {} [] [0, 3, 4, 58, 60] [.slice a n c, .int .i64 (k : Int), .pointer (some ⟨g18, 0, none⟩), .bool false, .bool x33] hnehp44 (fun w96 hp97 => QB.mk .nil (by kernel_rfl)) (fun b98 => ?_)
                by_cases h99 : (((l[k]!.Put) = true) ∧ ((l[k]!.To) = (-1))) ∨ (((l[k]!.Put) = true) ∧ (¬ ((l[k]!.To) = (-1))) ∧ (¬ ((l[k]!.Status) = 0)))
                · rw [show x33 = true from hb34.tt h99]
                  refine QOPS.batch 5 { wraps := [64, 65] } [.int .i64 (l[k]!.To)] [0, 3, 65] [.slice a n c, .int .i64 (k : Int), .bool (decide (¬ ((l[k]!.To) = (-1))))] hnehp44 (fun w100 hp101 => QB.mk (.cons (Ld.row1 (P := Try.prog) (t := 3) (o := 7) (v := .int .i64 (l[k]!.To)) hp101.get0 (by kernel_rfl)) .nil) (by kernel_rfl)) (fun b102 => ?_)
                  refine QOPS.nil (fun w103 hp104 => ?_)
                  refine thn_n ?_
                  exact ⟨decide (¬ ((l[k]!.To) = (-1))), trivial, Bp.of Bp.dec (by first | (simp only [h50, h61, h72, h77, h88, h99, iff_false, false_iff, iff_true, true_iff, Classical.not_not, and_true, true_and, and_false, false_and, or_true, true_or, or_false, false_or, not_true_eq_false, not_false_eq_true, and_self, or_self, iff_self]; done) | (simp [h50, h61, h72, h77, h88, h99]; done) | grind | (simp_all; done)), by kernel_rfl, hp104⟩
                · rw [show x33 = false from hb34.ff h99]
                  refine QOPS.batch 5 { wraps := [64, 65] } [] [0, 3, 65] [.slice a n c, .int .i64 (k : Int), .bool false] hnehp44 (fun w105 hp106 => QB.mk .nil (by kernel_rfl)) (fun b107 => ?_)
                  refine QOPS.nil (fun w108 hp109 => ?_)
                  refine thn_n ?_
                  exact ⟨false, trivial, Bp.of Bp.f (by first | (simp only [h50, h61, h72, h77, h88, h99, iff_false, false_iff, iff_true, true_iff, Classical.not_not, and_true, true_and, and_false, false_and, or_true, true_or, or_false, false_or, not_true_eq_false, not_false_eq_true, and_self, or_self, iff_self]; done) | (simp [h50, h61, h72, h77, h88, h99]; done) | grind | (simp_all; done)), by kernel_rfl, hp109⟩
              · refine QOPS.batch 0 {} [] [0, 3, 4, 5, 58] [.slice a n c, .int .i64 (k : Int), .pointer (some ⟨g18, 0, none⟩), .bool x33, .bool (!((l[k]!.Open) == x33))] hnehp44 (fun _ _ => QB.mk .nil (by kernel_rfl)) (fun b89 => ?_)
                refine QOPS.re [.slice a n c, .int .i64 (k : Int), .pointer (some ⟨g18, 0, none⟩), .bool x33, .bool true] (by rw [show (!((l[k]!.Open) == x33)) = true from (Bp.not (Bp.beq Bp.var hb34)).tt h88]) ?_
                refine QOPS.batch 7 { wraps := [65] } [] [0, 3, 65] [.slice a n c, .int .i64 (k : Int), .bool true] hnehp44 (fun w90 hp91 => QB.mk .nil (by kernel_rfl)) (fun b92 => ?_)
                refine QOPS.nil (fun w93 hp94 => ?_)
                refine thn_n ?_
                exact ⟨true, trivial, Bp.of Bp.t (by first | (simp only [h50, h61, h72, h77, h88, iff_false, false_iff, iff_true, true_iff, Classical.not_not, and_true, true_and, and_false, false_and, or_true, true_or, or_false, false_or, not_true_eq_false, not_false_eq_true, and_self, or_self, iff_self]; done) | (simp [h50, h61, h72, h77, h88]; done) | grind | (simp_all; done)), by kernel_rfl, hp94⟩
      · refine QOPS.batch 0 {} [] [0, 3, 4, 5, 35] [.slice a n c, .int .i64 (k : Int), .pointer (some ⟨g18, 0, none⟩), .bool x33, .bool (decide (¬ ((l[k]!.Key) = (l[0]!.Key))))] hnehp44 (fun _ _ => QB.mk .nil (by kernel_rfl)) (fun b51 => ?_)
        refine QOPS.re [.slice a n c, .int .i64 (k : Int), .pointer (some ⟨g18, 0, none⟩), .bool x33, .bool true] (by rw [show (decide (¬ ((l[k]!.Key) = (l[0]!.Key)))) = true from Bp.dec.tt h50]) ?_
        refine QOPS.batch 30 { wraps := [39, 51, 57, 65] } [] [0, 3, 65] [.slice a n c, .int .i64 (k : Int), .bool true] hnehp44 (fun w52 hp53 => QB.mk .nil (by kernel_rfl)) (fun b54 => ?_)
        refine QOPS.nil (fun w55 hp56 => ?_)
        refine thn_n ?_
        exact ⟨true, trivial, Bp.of Bp.t (by first | (simp only [h50, iff_false, false_iff, iff_true, true_iff, Classical.not_not, and_true, true_and, and_false, false_and, or_true, true_or, or_false, false_or, not_true_eq_false, not_false_eq_true, and_self, or_self, iff_self]; done) | (simp [h50]; done) | grind | (simp_all; done)), by kernel_rfl, hp56⟩
    rintro e138 w139 ⟨x136, hd141, hb137, hE142, hp140⟩
    obtain ⟨b143, rfl⟩ := toMk hE142
    clear hE142
    clear hd141
    refine WP.test (p := ((¬ ((l[k]!.Key) = (l[0]!.Key)))) ∨ (((l[k]!.Key) = (l[0]!.Key)) ∧ ((l[k]!.From) < 0)) ∨ (((l[k]!.Key) = (l[0]!.Key)) ∧ (¬ ((l[k]!.From) < 0)) ∧ (¬ ((l[k]!.To) = (-1))) ∧ ((l[k]!.To) ≤ (l[k]!.From))) ∨ (((l[k]!.Key) = (l[0]!.Key)) ∧ (¬ ((l[k]!.From) < 0)) ∧ (¬ ((l[k]!.To) = (-1))) ∧ (¬ ((l[k]!.To) ≤ (l[k]!.From))) ∧ (¬ ((((l[k]!.Open) = true) ↔ ((((l[k]!.Put) = true) ∧ ((l[k]!.To) = (-1))) ∨ (((l[k]!.Put) = true) ∧ (¬ ((l[k]!.To) = (-1))) ∧ (¬ ((l[k]!.Status) = 0)))))))) ∨ (((l[k]!.Key) = (l[0]!.Key)) ∧ (¬ ((l[k]!.From) < 0)) ∧ (¬ ((l[k]!.To) = (-1))) ∧ (¬ ((l[k]!.To) ≤ (l[k]!.From))) ∧ (((l[k]!.Open) = true) ↔ ((((l[k]!.Put) = true) ∧ ((l[k]!.To) = (-1))) ∨ (((l[k]!.Put) = true) ∧ (¬ ((l[k]!.To) = (-1))) ∧ (¬ ((l[k]!.Status) = 0))))) ∧ ((((l[k]!.Put) = true) ∧ ((l[k]!.To) = (-1))) ∨ (((l[k]!.Put) = true) ∧ (¬ ((l[k]!.To) = (-1))) ∧ (¬ ((l[k]!.Status) = 0)))) ∧ (¬ ((l[k]!.To) = (-1)))) ∨ (((l[k]!.Key) = (l[0]!.Key)) ∧ (¬ ((l[k]!.From) < 0)) ∧ ((l[k]!.To) = (-1)) ∧ (¬ ((((l[k]!.Open) = true) ↔ ((((l[k]!.Put) = true) ∧ ((l[k]!.To) = (-1))) ∨ (((l[k]!.Put) = true) ∧ (¬ ((l[k]!.To) = (-1))) ∧ (¬ ((l[k]!.Status) = 0)))))))) ∨ (((l[k]!.Key) = (l[0]!.Key)) ∧ (¬ ((l[k]!.From) < 0)) ∧ ((l[k]!.To) = (-1)) ∧ (((l[k]!.Open) = true) ↔ ((((l[k]!.Put) = true) ∧ ((l[k]!.To) = (-1))) ∨ (((l[k]!.Put) = true) ∧ (¬ ((l[k]!.To) = (-1))) ∧ (¬ ((l[k]!.Status) = 0))))) ∧ ((((l[k]!.Put) = true) ∧ ((l[k]!.To) = (-1))) ∨ (((l[k]!.Put) = true) ∧ (¬ ((l[k]!.To) = (-1))) ∧ (¬ ((l[k]!.Status) = 0)))) ∧ (¬ ((l[k]!.To) = (-1))))) rfl hb137 (fun h144 => ?_) (fun h144 => ?_)
    · refine WP.seq ?_
      refine WP.pure {} [] [2] [.bool false] .nil (by kernel_rfl) (fun b145 => ?_)
      refine thn_n ?_
      refine WP.ret ?_
      refine blk_r ?_
      refine thn_r ?_
      refine thn_r ?_
      refine blk_r ?_
      refine thn_r ?_
      refine bodyQ.of _ rfl [.bool false] ⟨rfl, trivial⟩ ?_
      exact ⟨_, rfl, Bp.of Bp.f (by simp only [false_iff]; intro q; have q_ := q k (by omega); simp only [fitC, openP] at q_; have h_ := h144; grind), hp140.fr⟩
    · refine WP.skip ?_
      refine blk_n ?_
      refine thn_n ?_
      refine WP.pure {} [] [0, 3] [.slice a n c, .int .i64 ((k : Int) + 1)] (.cons (show Rng .i64 ((k : Int) + 1) from Rng.i64 (by omega)) .nil) (by kernel_rfl) (fun b146 => ?_)
      refine thn_n ?_
      exact ⟨l.length - (k + 1), (by omega), k + 1, rfl, ⟨by omega, fun i hi => by by_cases e : i = k; subst e; exact (by simp only [fitC, openP]; have h_ := h144; grind); exact pb i (by omega)⟩, by kernel_rfl, (hp140.sub (.cons _ (.slnil)))⟩
  · refine WP.exit ?_
    refine thn_x ?_
    refine thn_x ?_
    refine blk_hit ?_
    refine thn_n ?_
    refine WP.seq ?_
    refine WP.pure {} [] [2] [.bool true] .nil (by kernel_rfl) (fun b147 => ?_)
    refine thn_n ?_
    refine WP.ret ?_
    refine bodyQ.of _ rfl [.bool true] ⟨rfl, trivial⟩ ?_
    exact ⟨_, rfl, Bp.of Bp.t (by simp only [true_iff]; exact fun i hi => pb i (by omega)), hp5.fr⟩

theorem r21_read (c : GCall) (w : World) :
    Calls Try.prog 77 #[GCall.val c] w (fun r_ w' => ∃ f_, r_ = .returned (.bool f_) ∧ Bp f_ (rdC c) ∧ Fram Non w w') := by
  refine calls_of Try.func77 rfl 16 rfl (by simp) ?_
  have hp0 := Hp.init w
  have he0 : List.map (env0 [GCall.val c]) [0] = [GCall.val c] := by kernel_rfl
  obtain ⟨b0, he0⟩ := toMk he0
  rw [he0]
  clear he0
  refine WP.seq ?_
  refine WP.region _ rfl (by kernel_rfl) ?_
  refine OPS.cons (opStep.box hp0 [.int .i64 c.Client, .int .i64 c.Op, .bool c.Put, .string c.Key, .slice c.Value.a c.Value.n c.Value.c, .int .i64 c.Status, .int .i64 c.From, .int .i64 c.To, .bool c.Open, .int .i64 c.Tag.Count, .int .i64 c.Tag.Client] (by kernel_rfl) (fun g3 w1 hp2 => ?_))
  refine OPS.batch 1 {} [] [1] [.pointer (some ⟨g3, 0, none⟩)] .nil (by kernel_rfl) (fun b4 => ?_)
  refine OPS.nil ?_
  refine thn_n ?_
  refine WP.cut (fun e19 w20 => ∃ (x17 : Bool), (True) ∧ Bp x17 ((¬ (c.Put = true)) ∧ (0 ≤ c.To) ∧ (c.Status = 0)) ∧ List.map e19 [2] = [.bool x17] ∧ Hp w Non [Res.row g3 [.int .i64 c.Client, .int .i64 c.Op, .bool c.Put, .string c.Key, .slice c.Value.a c.Value.n c.Value.c, .int .i64 c.Status, .int .i64 c.From, .int .i64 c.To, .bool c.Open, .int .i64 c.Tag.Count, .int .i64 c.Tag.Client] 73] w20) ?_ ?_
  · refine WP.region _ rfl (by kernel_rfl) ?_
    refine OPS.batch 4 {} [.bool c.Put] [1, 6] [.pointer (some ⟨g3, 0, none⟩), .bool (!c.Put)] (.cons (Ld.row1 (P := Try.prog) (t := 4) (o := 2) (v := .bool c.Put) hp2.get0 (by kernel_rfl)) .nil) (by kernel_rfl) (fun b6 => ?_)
    by_cases h7 : c.Put = true
    · refine OPS.batch 0 {} [] [1, 6] [.pointer (some ⟨g3, 0, none⟩), .bool (!c.Put)] .nil (by kernel_rfl) (fun b15 => ?_)
      refine OPS.re [.pointer (some ⟨g3, 0, none⟩), .bool false] (by rw [show (!c.Put) = false from (Bp.not Bp.var).ff (fun k => k h7)]) ?_
      refine OPS.batch 10 { wraps := [10, 15] } [] [2] [.bool false] .nil (by kernel_rfl) (fun b16 => ?_)
      refine OPS.nil ?_
      refine thn_n ?_
      exact ⟨false, trivial, Bp.of Bp.f (by first | (simp only [h7, iff_false, false_iff, iff_true, true_iff, Classical.not_not, and_true, true_and, and_false, false_and, or_true, true_or, or_false, false_or, not_true_eq_false, not_false_eq_true, and_self, or_self, iff_self]; done) | (simp [h7]; done) | grind | (simp_all; done)), by kernel_rfl, hp2⟩
    · refine OPS.batch 0 {} [] [1, 6] [.pointer (some ⟨g3, 0, none⟩), .bool (!c.Put)] .nil (by kernel_rfl) (fun b8 => ?_)
      refine OPS.re [.pointer (some ⟨g3, 0, none⟩), .bool true] (by rw [show (!c.Put) = true from (Bp.not Bp.var).tt h7]) ?_
      refine OPS.batch 5 { wraps := [10] } [.int .i64 c.To] [1, 11] [.pointer (some ⟨g3, 0, none⟩), .bool (decide (0 ≤ c.To))] (.cons (Ld.row1 (P := Try.prog) (t := 3) (o := 7) (v := .int .i64 c.To) hp2.get0 (by kernel_rfl)) .nil) (by kernel_rfl) (fun b9 => ?_)
      by_cases h10 : 0 ≤ c.To
      · refine OPS.batch 0 {} [] [1, 11] [.pointer (some ⟨g3, 0, none⟩), .bool (decide (0 ≤ c.To))] .nil (by kernel_rfl) (fun b11 => ?_)
        refine OPS.re [.pointer (some ⟨g3, 0, none⟩), .bool true] (by rw [show (decide (0 ≤ c.To)) = true from Bp.dec.tt h10]) ?_
        refine OPS.batch 5 { wraps := [15] } [.int .i64 c.Status] [2] [.bool (decide (c.Status = 0))] (.cons (Ld.row1 (P := Try.prog) (t := 25) (o := 5) (v := .int .i64 c.Status) hp2.get0 (by kernel_rfl)) .nil) (by kernel_rfl) (fun b12 => ?_)
        refine OPS.nil ?_
        refine thn_n ?_
        exact ⟨decide (c.Status = 0), trivial, Bp.of Bp.dec (by first | (simp only [h7, h10, iff_false, false_iff, iff_true, true_iff, Classical.not_not, and_true, true_and, and_false, false_and, or_true, true_or, or_false, false_or, not_true_eq_false, not_false_eq_true, and_self, or_self, iff_self]; done) | (simp [h7, h10]; done) | grind | (simp_all; done)), by kernel_rfl, hp2⟩
      · refine OPS.batch 0 {} [] [1, 11] [.pointer (some ⟨g3, 0, none⟩), .bool (decide (0 ≤ c.To))] .nil (by kernel_rfl) (fun b13 => ?_)
        refine OPS.re [.pointer (some ⟨g3, 0, none⟩), .bool false] (by rw [show (decide (0 ≤ c.To)) = false from Bp.dec.ff h10]) ?_
        refine OPS.batch 5 { wraps := [15] } [] [2] [.bool false] .nil (by kernel_rfl) (fun b14 => ?_)
        refine OPS.nil ?_
        refine thn_n ?_
        exact ⟨false, trivial, Bp.of Bp.f (by first | (simp only [h7, h10, iff_false, false_iff, iff_true, true_iff, Classical.not_not, and_true, true_and, and_false, false_and, or_true, true_or, or_false, false_or, not_true_eq_false, not_false_eq_true, and_self, or_self, iff_self]; done) | (simp [h7, h10]; done) | grind | (simp_all; done)), by kernel_rfl, hp2⟩
  rintro e19 w20 ⟨x17, hd22, hb18, hE23, hp21⟩
  obtain ⟨b24, rfl⟩ := toMk hE23
  clear hE23
  clear hd22
  refine WP.ret ?_
  refine bodyQ.of _ rfl [.bool x17] ⟨rfl, trivial⟩ ?_
  exact ⟨_, rfl, Bp.of hb18 (by simp only [rdC, abC, dueP] at *; first | grind | (simp_all; done) | (simp_all; grind)), hp21.fr⟩

theorem r21_absent (c : GCall) (w : World) :
    Calls Try.prog 76 #[GCall.val c] w (fun r_ w' => ∃ f_, r_ = .returned (.bool f_) ∧ Bp f_ (abC c) ∧ Fram Non w w') := by
  refine calls_of Try.func76 rfl 16 rfl (by simp) ?_
  have hp0 := Hp.init w
  have he0 : List.map (env0 [GCall.val c]) [0] = [GCall.val c] := by kernel_rfl
  obtain ⟨b0, he0⟩ := toMk he0
  rw [he0]
  clear he0
  refine WP.seq ?_
  refine WP.region _ rfl (by kernel_rfl) ?_
  refine OPS.cons (opStep.box hp0 [.int .i64 c.Client, .int .i64 c.Op, .bool c.Put, .string c.Key, .slice c.Value.a c.Value.n c.Value.c, .int .i64 c.Status, .int .i64 c.From, .int .i64 c.To, .bool c.Open, .int .i64 c.Tag.Count, .int .i64 c.Tag.Client] (by kernel_rfl) (fun g3 w1 hp2 => ?_))
  refine OPS.batch 1 {} [] [1] [.pointer (some ⟨g3, 0, none⟩)] .nil (by kernel_rfl) (fun b4 => ?_)
  refine OPS.nil ?_
  refine thn_n ?_
  refine WP.cut (fun e19 w20 => ∃ (x17 : Bool), (True) ∧ Bp x17 ((¬ (c.Put = true)) ∧ (0 ≤ c.To) ∧ (c.Status = 76)) ∧ List.map e19 [2] = [.bool x17] ∧ Hp w Non [Res.row g3 [.int .i64 c.Client, .int .i64 c.Op, .bool c.Put, .string c.Key, .slice c.Value.a c.Value.n c.Value.c, .int .i64 c.Status, .int .i64 c.From, .int .i64 c.To, .bool c.Open, .int .i64 c.Tag.Count, .int .i64 c.Tag.Client] 73] w20) ?_ ?_
  · refine WP.region _ rfl (by kernel_rfl) ?_
    refine OPS.batch 4 {} [.bool c.Put] [1, 6] [.pointer (some ⟨g3, 0, none⟩), .bool (!c.Put)] (.cons (Ld.row1 (P := Try.prog) (t := 4) (o := 2) (v := .bool c.Put) hp2.get0 (by kernel_rfl)) .nil) (by kernel_rfl) (fun b6 => ?_)
    by_cases h7 : c.Put = true
    · refine OPS.batch 0 {} [] [1, 6] [.pointer (some ⟨g3, 0, none⟩), .bool (!c.Put)] .nil (by kernel_rfl) (fun b15 => ?_)
      refine OPS.re [.pointer (some ⟨g3, 0, none⟩), .bool false] (by rw [show (!c.Put) = false from (Bp.not Bp.var).ff (fun k => k h7)]) ?_
      refine OPS.batch 10 { wraps := [10, 15] } [] [2] [.bool false] .nil (by kernel_rfl) (fun b16 => ?_)
      refine OPS.nil ?_
      refine thn_n ?_
      exact ⟨false, trivial, Bp.of Bp.f (by first | (simp only [h7, iff_false, false_iff, iff_true, true_iff, Classical.not_not, and_true, true_and, and_false, false_and, or_true, true_or, or_false, false_or, not_true_eq_false, not_false_eq_true, and_self, or_self, iff_self]; done) | (simp [h7]; done) | grind | (simp_all; done)), by kernel_rfl, hp2⟩
    · refine OPS.batch 0 {} [] [1, 6] [.pointer (some ⟨g3, 0, none⟩), .bool (!c.Put)] .nil (by kernel_rfl) (fun b8 => ?_)
      refine OPS.re [.pointer (some ⟨g3, 0, none⟩), .bool true] (by rw [show (!c.Put) = true from (Bp.not Bp.var).tt h7]) ?_
      refine OPS.batch 5 { wraps := [10] } [.int .i64 c.To] [1, 11] [.pointer (some ⟨g3, 0, none⟩), .bool (decide (0 ≤ c.To))] (.cons (Ld.row1 (P := Try.prog) (t := 3) (o := 7) (v := .int .i64 c.To) hp2.get0 (by kernel_rfl)) .nil) (by kernel_rfl) (fun b9 => ?_)
      by_cases h10 : 0 ≤ c.To
      · refine OPS.batch 0 {} [] [1, 11] [.pointer (some ⟨g3, 0, none⟩), .bool (decide (0 ≤ c.To))] .nil (by kernel_rfl) (fun b11 => ?_)
        refine OPS.re [.pointer (some ⟨g3, 0, none⟩), .bool true] (by rw [show (decide (0 ≤ c.To)) = true from Bp.dec.tt h10]) ?_
        refine OPS.batch 5 { wraps := [15] } [.int .i64 c.Status] [2] [.bool (decide (c.Status = 76))] (.cons (Ld.row1 (P := Try.prog) (t := 25) (o := 5) (v := .int .i64 c.Status) hp2.get0 (by kernel_rfl)) .nil) (by kernel_rfl) (fun b12 => ?_)
        refine OPS.nil ?_
        refine thn_n ?_
        exact ⟨decide (c.Status = 76), trivial, Bp.of Bp.dec (by first | (simp only [h7, h10, iff_false, false_iff, iff_true, true_iff, Classical.not_not, and_true, true_and, and_false, false_and, or_true, true_or, or_false, false_or, not_true_eq_false, not_false_eq_true, and_self, or_self, iff_self]; done) | (simp [h7, h10]; done) | grind | (simp_all; done)), by kernel_rfl, hp2⟩
      · refine OPS.batch 0 {} [] [1, 11] [.pointer (some ⟨g3, 0, none⟩), .bool (decide (0 ≤ c.To))] .nil (by kernel_rfl) (fun b13 => ?_)
        refine OPS.re [.pointer (some ⟨g3, 0, none⟩), .bool false] (by rw [show (decide (0 ≤ c.To)) = false from Bp.dec.ff h10]) ?_
        refine OPS.batch 5 { wraps := [15] } [] [2] [.bool false] .nil (by kernel_rfl) (fun b14 => ?_)
        refine OPS.nil ?_
        refine thn_n ?_
        exact ⟨false, trivial, Bp.of Bp.f (by first | (simp only [h7, h10, iff_false, false_iff, iff_true, true_iff, Classical.not_not, and_true, true_and, and_false, false_and, or_true, true_or, or_false, false_or, not_true_eq_false, not_false_eq_true, and_self, or_self, iff_self]; done) | (simp [h7, h10]; done) | grind | (simp_all; done)), by kernel_rfl, hp2⟩
  rintro e19 w20 ⟨x17, hd22, hb18, hE23, hp21⟩
  obtain ⟨b24, rfl⟩ := toMk hE23
  clear hE23
  clear hd22
  refine WP.ret ?_
  refine bodyQ.of _ rfl [.bool x17] ⟨rfl, trivial⟩ ?_
  exact ⟨_, rfl, Bp.of hb18 (by simp only [rdC, abC, dueP] at *; first | grind | (simp_all; done) | (simp_all; grind)), hp21.fr⟩

theorem r21_due (c : GCall) (w : World) :
    Calls Try.prog 103 #[GCall.val c] w (fun r_ w' => ∃ f_, r_ = .returned (.bool f_) ∧ Bp f_ (dueP c) ∧ Fram Non w w') := by
  refine calls_of Try.func103 rfl 18 rfl (by simp) ?_
  have hp0 := Hp.init w
  have he0 : List.map (env0 [GCall.val c]) [0] = [GCall.val c] := by kernel_rfl
  obtain ⟨b0, he0⟩ := toMk he0
  rw [he0]
  clear he0
  refine WP.seq ?_
  refine WP.region _ rfl (by kernel_rfl) ?_
  refine OPS.cons (opStep.box hp0 [.int .i64 c.Client, .int .i64 c.Op, .bool c.Put, .string c.Key, .slice c.Value.a c.Value.n c.Value.c, .int .i64 c.Status, .int .i64 c.From, .int .i64 c.To, .bool c.Open, .int .i64 c.Tag.Count, .int .i64 c.Tag.Client] (by kernel_rfl) (fun g3 w1 hp2 => ?_))
  refine OPS.batch 1 {} [] [1] [.pointer (some ⟨g3, 0, none⟩)] .nil (by kernel_rfl) (fun b4 => ?_)
  refine OPS.nil ?_
  refine thn_n ?_
  refine WP.cut (fun e57 w58 => ∃ (x55 : Bool), (True) ∧ Bp x55 (((c.Put = true) ∧ (¬ (c.Open = true))) ∨ ((c.Put = true) ∧ (c.Open = true) ∧ (rdC c)) ∨ ((c.Put = true) ∧ (c.Open = true) ∧ (¬ (rdC c)) ∧ (abC c)) ∨ ((¬ (c.Put = true)) ∧ (rdC c)) ∨ ((¬ (c.Put = true)) ∧ (¬ (rdC c)) ∧ (abC c))) ∧ List.map e57 [2] = [.bool x55] ∧ Hp w Non [Res.row g3 [.int .i64 c.Client, .int .i64 c.Op, .bool c.Put, .string c.Key, .slice c.Value.a c.Value.n c.Value.c, .int .i64 c.Status, .int .i64 c.From, .int .i64 c.To, .bool c.Open, .int .i64 c.Tag.Count, .int .i64 c.Tag.Client] 73] w58) ?_ ?_
  · refine WP.region _ rfl (by kernel_rfl) ?_
    refine OPS.batch 3 {} [.bool c.Put] [1, 5] [.pointer (some ⟨g3, 0, none⟩), .bool c.Put] (.cons (Ld.row1 (P := Try.prog) (t := 4) (o := 2) (v := .bool c.Put) hp2.get0 (by kernel_rfl)) .nil) (by kernel_rfl) (fun b6 => ?_)
    by_cases h7 : c.Put = true
    · refine OPS.batch 0 {} [] [1, 5] [.pointer (some ⟨g3, 0, none⟩), .bool c.Put] .nil (by kernel_rfl) (fun b8 => ?_)
      refine OPS.re [.pointer (some ⟨g3, 0, none⟩), .bool true] (by rw [show c.Put = true from Bp.var.tt h7]) ?_
      refine OPS.batch 5 { wraps := [9] } [.bool c.Open] [1, 10] [.pointer (some ⟨g3, 0, none⟩), .bool (!c.Open)] (.cons (Ld.row1 (P := Try.prog) (t := 4) (o := 8) (v := .bool c.Open) hp2.get0 (by kernel_rfl)) .nil) (by kernel_rfl) (fun b9 => ?_)
      by_cases h10 : c.Open = true
      · refine OPS.batch 0 {} [] [1, 10] [.pointer (some ⟨g3, 0, none⟩), .bool (!c.Open)] .nil (by kernel_rfl) (fun b13 => ?_)
        refine OPS.re [.pointer (some ⟨g3, 0, none⟩), .bool false] (by rw [show (!c.Open) = false from (Bp.not Bp.var).ff (fun k => k h10)]) ?_
        refine OPS.batch 1 {} [GCall.val c] [1, 10, 11] [.pointer (some ⟨g3, 0, none⟩), .bool false, GCall.val c] (.cons (show Ld Try.prog w1 73 ⟨g3, 0, none⟩ (GCall.val c) from Ld.rowN (cs := [.int .i64 c.Client, .int .i64 c.Op, .bool c.Put, .string c.Key, .slice c.Value.a c.Value.n c.Value.c, .int .i64 c.Status, .int .i64 c.From, .int .i64 c.To, .bool c.Open, .int .i64 c.Tag.Count, .int .i64 c.Tag.Client]) hp2.get0 (by kernel_rfl)) .nil) (by kernel_rfl) (fun b14 => ?_)
        refine OPS.want (by kernel_rfl) ?_
        refine OPS.cons (opStep.call (some 12) [GCall.val c] (by kernel_rfl) (r21_read c _) ?_)
        rintro _ w17 ⟨b20, rfl, hb21, hf18⟩
        refine ⟨_, rfl, ?_⟩
        have hp19 := hp2.step hf18
        refine OPS.batch 2 { wraps := [13] } [] [1, 14] [.pointer (some ⟨g3, 0, none⟩), .bool b20] .nil (by kernel_rfl) (fun b22 => ?_)
        by_cases h23 : rdC c
        · rw [show b20 = true from hb21.tt h23]
          refine OPS.batch 4 { wraps := [17] } [] [2] [.bool true] .nil (by kernel_rfl) (fun b24 => ?_)
          refine OPS.nil ?_
          refine thn_n ?_
          exact ⟨true, trivial, Bp.of Bp.t (by first | (simp only [h7, h10, h23, iff_false, false_iff, iff_true, true_iff, Classical.not_not, and_true, true_and, and_false, false_and, or_true, true_or, or_false, false_or, not_true_eq_false, not_false_eq_true, and_self, or_self, iff_self]; done) | (simp [h7, h10, h23]; done) | grind | (simp_all; done)), by kernel_rfl, hp19⟩
        · rw [show b20 = false from hb21.ff h23]
          refine OPS.batch 1 {} [GCall.val c] [14, 15] [.bool false, GCall.val c] (.cons (show Ld Try.prog w17 73 ⟨g3, 0, none⟩ (GCall.val c) from Ld.rowN (cs := [.int .i64 c.Client, .int .i64 c.Op, .bool c.Put, .string c.Key, .slice c.Value.a c.Value.n c.Value.c, .int .i64 c.Status, .int .i64 c.From, .int .i64 c.To, .bool c.Open, .int .i64 c.Tag.Count, .int .i64 c.Tag.Client]) hp19.get0 (by kernel_rfl)) .nil) (by kernel_rfl) (fun b25 => ?_)
          refine OPS.want (by kernel_rfl) ?_
          refine OPS.cons (opStep.call (some 16) [GCall.val c] (by kernel_rfl) (r21_absent c _) ?_)
          rintro _ w28 ⟨b31, rfl, hb32, hf29⟩
          refine ⟨_, rfl, ?_⟩
          have hp30 := hp19.step hf29
          refine OPS.batch 2 { wraps := [17] } [] [2] [.bool b31] .nil (by kernel_rfl) (fun b33 => ?_)
          refine OPS.nil ?_
          refine thn_n ?_
          exact ⟨b31, trivial, Bp.of hb32 (by first | (simp only [h7, h10, h23, iff_false, false_iff, iff_true, true_iff, Classical.not_not, and_true, true_and, and_false, false_and, or_true, true_or, or_false, false_or, not_true_eq_false, not_false_eq_true, and_self, or_self, iff_self]; done) | (simp [h7, h10, h23]; done) | grind | (simp_all; done)), by kernel_rfl, hp30⟩
      · refine OPS.batch 0 {} [] [1, 10] [.pointer (some ⟨g3, 0, none⟩), .bool (!c.Open)] .nil (by kernel_rfl) (fun b11 => ?_)
        refine OPS.re [.pointer (some ⟨g3, 0, none⟩), .bool true] (by rw [show (!c.Open) = true from (Bp.not Bp.var).tt h10]) ?_
        refine OPS.batch 8 { wraps := [13, 17] } [] [2] [.bool true] .nil (by kernel_rfl) (fun b12 => ?_)
        refine OPS.nil ?_
        refine thn_n ?_
        exact ⟨true, trivial, Bp.of Bp.t (by first | (simp only [h7, h10, iff_false, false_iff, iff_true, true_iff, Classical.not_not, and_true, true_and, and_false, false_and, or_true, true_or, or_false, false_or, not_true_eq_false, not_false_eq_true, and_self, or_self, iff_self]; done) | (simp [h7, h10]; done) | grind | (simp_all; done)), by kernel_rfl, hp2⟩
    · refine OPS.batch 0 {} [] [1, 5] [.pointer (some ⟨g3, 0, none⟩), .bool c.Put] .nil (by kernel_rfl) (fun b34 => ?_)
      refine OPS.re [.pointer (some ⟨g3, 0, none⟩), .bool false] (by rw [show c.Put = false from Bp.var.ff h7]) ?_
      refine OPS.batch 6 { wraps := [9] } [GCall.val c] [1, 10, 11] [.pointer (some ⟨g3, 0, none⟩), .bool false, GCall.val c] (.cons (show Ld Try.prog w1 73 ⟨g3, 0, none⟩ (GCall.val c) from Ld.rowN (cs := [.int .i64 c.Client, .int .i64 c.Op, .bool c.Put, .string c.Key, .slice c.Value.a c.Value.n c.Value.c, .int .i64 c.Status, .int .i64 c.From, .int .i64 c.To, .bool c.Open, .int .i64 c.Tag.Count, .int .i64 c.Tag.Client]) hp2.get0 (by kernel_rfl)) .nil) (by kernel_rfl) (fun b35 => ?_)
      refine OPS.want (by kernel_rfl) ?_
      refine OPS.cons (opStep.call (some 12) [GCall.val c] (by kernel_rfl) (r21_read c _) ?_)
      rintro _ w38 ⟨b41, rfl, hb42, hf39⟩
      refine ⟨_, rfl, ?_⟩
      have hp40 := hp2.step hf39
      refine OPS.batch 2 { wraps := [13] } [] [1, 14] [.pointer (some ⟨g3, 0, none⟩), .bool b41] .nil (by kernel_rfl) (fun b43 => ?_)
      by_cases h44 : rdC c
      · rw [show b41 = true from hb42.tt h44]
        refine OPS.batch 4 { wraps := [17] } [] [2] [.bool true] .nil (by kernel_rfl) (fun b45 => ?_)
        refine OPS.nil ?_
        refine thn_n ?_
        exact ⟨true, trivial, Bp.of Bp.t (by first | (simp only [h7, h44, iff_false, false_iff, iff_true, true_iff, Classical.not_not, and_true, true_and, and_false, false_and, or_true, true_or, or_false, false_or, not_true_eq_false, not_false_eq_true, and_self, or_self, iff_self]; done) | (simp [h7, h44]; done) | grind | (simp_all; done)), by kernel_rfl, hp40⟩
      · rw [show b41 = false from hb42.ff h44]
        refine OPS.batch 1 {} [GCall.val c] [14, 15] [.bool false, GCall.val c] (.cons (show Ld Try.prog w38 73 ⟨g3, 0, none⟩ (GCall.val c) from Ld.rowN (cs := [.int .i64 c.Client, .int .i64 c.Op, .bool c.Put, .string c.Key, .slice c.Value.a c.Value.n c.Value.c, .int .i64 c.Status, .int .i64 c.From, .int .i64 c.To, .bool c.Open, .int .i64 c.Tag.Count, .int .i64 c.Tag.Client]) hp40.get0 (by kernel_rfl)) .nil) (by kernel_rfl) (fun b46 => ?_)
        refine OPS.want (by kernel_rfl) ?_
        refine OPS.cons (opStep.call (some 16) [GCall.val c] (by kernel_rfl) (r21_absent c _) ?_)
        rintro _ w49 ⟨b52, rfl, hb53, hf50⟩
        refine ⟨_, rfl, ?_⟩
        have hp51 := hp40.step hf50
        refine OPS.batch 2 { wraps := [17] } [] [2] [.bool b52] .nil (by kernel_rfl) (fun b54 => ?_)
        refine OPS.nil ?_
        refine thn_n ?_
        exact ⟨b52, trivial, Bp.of hb53 (by first | (simp only [h7, h44, iff_false, false_iff, iff_true, true_iff, Classical.not_not, and_true, true_and, and_false, false_and, or_true, true_or, or_false, false_or, not_true_eq_false, not_false_eq_true, and_self, or_self, iff_self]; done) | (simp [h7, h44]; done) | grind | (simp_all; done)), by kernel_rfl, hp51⟩
  rintro e57 w58 ⟨x55, hd60, hb56, hE61, hp59⟩
  obtain ⟨b62, rfl⟩ := toMk hE61
  clear hE61
  clear hd60
  refine WP.ret ?_
  refine bodyQ.of _ rfl [.bool x55] ⟨rfl, trivial⟩ ?_
  exact ⟨_, rfl, Bp.of hb56 (by simp only [rdC, abC, dueP] at *; first | grind | (simp_all; done) | (simp_all; grind)), hp59.fr⟩

theorem r21_count (o : List Int) (ao : Option Addr) (no co : Nat) (hno : no = o.length) (hbo : o.length ≤ 9223372036854775807) (x : Int) (w : World) (hso : SlR w ao no (List.flatMap (fun (y : Int) => [Go.Value.int .i64 y]) o)) :
    Calls Try.prog 102 #[.slice ao no co, .int .i64 x] w (fun r_ w' => r_ = .returned (.int .i64 ((o.count x : Nat) : Int)) ∧ Fram Non w w') := by
  refine calls_of Try.func102 rfl 22 rfl (by simp) ?_
  have hp0 := Hp.init w
  have he0 : List.map (env0 [.slice ao no co, .int .i64 x]) [0, 1] = [.slice ao no co, .int .i64 x] := by kernel_rfl
  obtain ⟨b0, he0⟩ := toMk he0
  rw [he0]
  clear he0
  refine WP.seq ?_
  refine WP.pure {} [] [0, 1] [.slice ao no co, .int .i64 x] .nil (by kernel_rfl) (fun b1 => ?_)
  refine thn_n ?_
  refine WP.seq ?_
  refine WP.pure {} [] [0, 1, 5] [.slice ao no co, .int .i64 x, .int .i64 0] .nil (by kernel_rfl) (fun b2 => ?_)
  refine thn_n ?_
  refine WP.seq ?_
  refine WP.seq ?_
  refine WP.pure {} [] [0, 1, 5, 6] [.slice ao no co, .int .i64 x, .int .i64 0, .int .i64 0] .nil (by kernel_rfl) (fun b3 => ?_)
  refine thn_n ?_
  refine WP.block ?_
  refine WP.loop (fun mz_ e4 w5 => ∃ (k : Nat) (m : Nat), mz_ = o.length - k ∧ (k ≤ o.length ∧ m ≤ k ∧ m = (o.take k).count x) ∧ List.map e4 [0, 1, 5, 6] = [.slice ao no co, .int .i64 x, .int .i64 (m : Int), .int .i64 (k : Int)] ∧ Hp w Non [] w5) (o.length - (0)) ⟨0, 0, rfl, ⟨by omega, by omega, rfl⟩, by kernel_rfl, hp0⟩ ?_
  rintro _ e4 w5 ⟨k, m, rfl, hI7, hE8, hp6⟩
  obtain ⟨b9, rfl⟩ := toMk hE8
  clear hE8
  obtain ⟨pa, pb, pc⟩ := hI7
  refine WP.seq ?_
  refine WP.seq ?_
  refine WP.pure {} [] [0, 1, 5, 6, 10] [.slice ao no co, .int .i64 x, .int .i64 (m : Int), .int .i64 (k : Int), .bool (decide ((k : Int) < ((no : Nat) : Int)))] .nil (by kernel_rfl) (fun b10 => ?_)
  refine thn_n ?_
  refine WP.test (p := (k : Int) < ((no : Nat) : Int)) rfl Bp.dec (fun h11 => ?_) (fun h11 => ?_)
  · refine WP.skip ?_
    refine thn_n ?_
    refine WP.seq ?_
    refine WP.block ?_
    refine WP.seq ?_
    have hy13 : (o)[k]? = some o[k]! := get_bang (by first | (omega) | (simp only [List.length_append, List.length_cons, List.length_nil]; omega) | (simp only [List.length_take, List.length_append, List.length_cons, List.length_nil]; omega))
    refine WP.pure {} [.int .i64 (o[k]!)] [0, 1, 5, 6, 18] [.slice ao no co, .int .i64 x, .int .i64 (m : Int), .int .i64 (k : Int), .bool (decide ((o[k]!) = x))] (.cons (show InB ((k : Int)) (no) from ⟨by omega, by omega⟩) (.cons ((hso.at hp6).some (by omega)) (.cons (Ld.add0 (Ld.el1 (P := Try.prog) (t := 3) (hso.at hp6).rd 1 (fun _ => rfl) hy13 (o := 0) (v := .int .i64 (o[k]!)) (by kernel_rfl))) .nil))) (by kernel_rfl) (fun b14 => ?_)
    refine thn_n ?_
    refine WP.test (p := (o[k]!) = x) rfl Bp.dec (fun h15 => ?_) (fun h15 => ?_)
    · refine WP.pure {} [] [0, 1, 5, 6] [.slice ao no co, .int .i64 x, .int .i64 ((m : Int) + 1), .int .i64 (k : Int)] (.cons (show Rng .i64 ((m : Int) + 1) from Rng.i64 (by omega)) .nil) (by kernel_rfl) (fun b16 => ?_)
      refine blk_n ?_
      refine thn_n ?_
      refine WP.pure {} [] [0, 1, 5, 6] [.slice ao no co, .int .i64 x, .int .i64 ((m : Int) + 1), .int .i64 ((k : Int) + 1)] (.cons (show Rng .i64 ((k : Int) + 1) from Rng.i64 (by omega)) .nil) (by kernel_rfl) (fun b17 => ?_)
      refine thn_n ?_
      exact ⟨o.length - (k + 1), (by omega), k + 1, m + 1, rfl, ⟨by omega, by omega, by rw [count_step (by omega), if_pos h15, ← pc]; try omega⟩, by kernel_rfl, hp6⟩
    · refine WP.skip ?_
      refine blk_n ?_
      refine thn_n ?_
      refine WP.pure {} [] [0, 1, 5, 6] [.slice ao no co, .int .i64 x, .int .i64 (m : Int), .int .i64 ((k : Int) + 1)] (.cons (show Rng .i64 ((k : Int) + 1) from Rng.i64 (by omega)) .nil) (by kernel_rfl) (fun b18 => ?_)
      refine thn_n ?_
      exact ⟨o.length - (k + 1), (by omega), k + 1, m, rfl, ⟨by omega, by omega, by rw [count_step (by omega), if_neg h15, ← pc]; try omega⟩, by kernel_rfl, hp6⟩
  · refine WP.exit ?_
    refine thn_x ?_
    refine thn_x ?_
    refine blk_hit ?_
    refine thn_n ?_
    refine WP.seq ?_
    refine WP.pure {} [] [4] [.int .i64 (m : Int)] .nil (by kernel_rfl) (fun b19 => ?_)
    refine thn_n ?_
    refine WP.ret ?_
    refine bodyQ.of _ rfl [.int .i64 (m : Int)] ⟨rfl, trivial⟩ ?_
    obtain rfl : k = o.length := by omega
    rw [List.take_of_length_le (Nat.le_refl _)] at pc
    exact ⟨by rw [← pc]; rfl, hp6.fr⟩

theorem r21_members (l : List GCall) (a : Option Addr) (n c : Nat) (w : World) (hn : n = l.length) (hb : l.length ≤ 8796093022207) (hs : SlR w a n (l.flatMap GCall.cells)) (o : List Int) (ao : Option Addr) (no co : Nat) (hno : no = o.length) (hbo : o.length ≤ 9223372036854775807) (hso : SlR w ao no (List.flatMap (fun (y : Int) => [Go.Value.int .i64 y]) o)) :
    Calls Try.prog 75 #[.slice a n c, .slice ao no co] w (fun r_ w' => ∃ f_, r_ = .returned (.bool f_) ∧ Bp f_ (wholeP l o) ∧ Fram Non w w') := by
  refine calls_of Try.func75 rfl 65 rfl (by simp) ?_
  have hp0 := Hp.init w
  have he0 : List.map (env0 [.slice a n c, .slice ao no co]) [0, 1] = [.slice a n c, .slice ao no co] := by kernel_rfl
  obtain ⟨b0, he0⟩ := toMk he0
  rw [he0]
  clear he0
  refine WP.seq ?_
  refine WP.pure {} [] [0, 1] [.slice a n c, .slice ao no co] .nil (by kernel_rfl) (fun b1 => ?_)
  refine thn_n ?_
  refine WP.seq ?_
  refine WP.seq ?_
  refine WP.pure {} [] [0, 1, 5] [.slice a n c, .slice ao no co, .int .i64 0] .nil (by kernel_rfl) (fun b2 => ?_)
  refine thn_n ?_
  refine WP.block ?_
  refine WP.loop (fun mz_ e3 w4 => ∃ (k : Nat), mz_ = o.length - k ∧ (k ≤ o.length ∧ ∀ j, j < k → okM l o j) ∧ List.map e3 [0, 1, 5] = [.slice a n c, .slice ao no co, .int .i64 (k : Int)] ∧ Hp w Non [] w4) (o.length - (0)) ⟨0, rfl, ⟨by omega, fun j hj => by omega⟩, by kernel_rfl, hp0⟩ ?_
  rintro _ e3 w4 ⟨k, rfl, hI6, hE7, hp5⟩
  obtain ⟨b8, rfl⟩ := toMk hE7
  clear hE7
  obtain ⟨pa, pb⟩ := hI6
  refine WP.seq ?_
  refine WP.seq ?_
  refine WP.pure {} [] [0, 1, 5, 11] [.slice a n c, .slice ao no co, .int .i64 (k : Int), .bool (decide ((k : Int) < ((no : Nat) : Int)))] .nil (by kernel_rfl) (fun b9 => ?_)
  refine thn_n ?_
  refine WP.test (p := (k : Int) < ((no : Nat) : Int)) rfl Bp.dec (fun h10 => ?_) (fun h10 => ?_)
  · refine WP.skip ?_
    refine thn_n ?_
    refine WP.seq ?_
    refine WP.block ?_
    refine WP.seq ?_
    have hy12 : (o)[k]? = some o[k]! := get_bang (by first | (omega) | (simp only [List.length_append, List.length_cons, List.length_nil]; omega) | (simp only [List.length_take, List.length_append, List.length_cons, List.length_nil]; omega))
    refine WP.pure {} [.int .i64 (o[k]!)] [0, 1, 5, 6] [.slice a n c, .slice ao no co, .int .i64 (k : Int), .int .i64 (o[k]!)] (.cons (show InB ((k : Int)) (no) from ⟨by omega, by omega⟩) (.cons ((hso.at hp5).some (by omega)) (.cons (Ld.add0 (Ld.el1 (P := Try.prog) (t := 3) (hso.at hp5).rd 1 (fun _ => rfl) hy12 (o := 0) (v := .int .i64 (o[k]!)) (by kernel_rfl))) .nil))) (by kernel_rfl) (fun b13 => ?_)
    refine thn_n ?_
    refine WP.cut (fun e54 w55 => ∃ (x52 : Bool), (True) ∧ Bp x52 ((((o[k]!) < 0)) ∨ ((¬ ((o[k]!) < 0)) ∧ (((n : Nat) : Int) ≤ (o[k]!))) ∨ ((¬ ((o[k]!) < 0)) ∧ (¬ (((n : Nat) : Int) ≤ (o[k]!))) ∧ (¬ (((List.count (o[k]!) o : Nat) : Int) = 1))) ∨ ((¬ ((o[k]!) < 0)) ∧ (¬ (((n : Nat) : Int) ≤ (o[k]!))) ∧ (((List.count (o[k]!) o : Nat) : Int) = 1) ∧ (¬ (dueP (l[(o[k]! : Int).toNat]!))) ∧ (¬ ((l[(o[k]! : Int).toNat]!.Open) = true)))) ∧ List.map e54 [0, 1, 5, 47] = [.slice a n c, .slice ao no co, .int .i64 (k : Int), .bool x52] ∧ Hp w Non [] w55) ?_ ?_
    · refine WP.region _ rfl (by kernel_rfl) ?_
      refine OPS.batch 3 {} [] [0, 1, 5, 6, 20] [.slice a n c, .slice ao no co, .int .i64 (k : Int), .int .i64 (o[k]!), .bool (decide ((o[k]!) < 0))] .nil (by kernel_rfl) (fun b15 => ?_)
      by_cases h16 : (o[k]!) < 0
      · refine OPS.batch 0 {} [] [0, 1, 5, 6, 20] [.slice a n c, .slice ao no co, .int .i64 (k : Int), .int .i64 (o[k]!), .bool (decide ((o[k]!) < 0))] .nil (by kernel_rfl) (fun b17 => ?_)
        refine OPS.re [.slice a n c, .slice ao no co, .int .i64 (k : Int), .int .i64 (o[k]!), .bool true] (by rw [show (decide ((o[k]!) < 0)) = true from Bp.dec.tt h16]) ?_
        refine OPS.batch 27 { wraps := [25, 31, 47] } [] [0, 1, 5, 47] [.slice a n c, .slice ao no co, .int .i64 (k : Int), .bool true] .nil (by kernel_rfl) (fun b18 => ?_)
        refine OPS.nil ?_
        refine thn_n ?_
        exact ⟨true, trivial, Bp.of Bp.t (by first | (simp only [h16, iff_false, false_iff, iff_true, true_iff, Classical.not_not, and_true, true_and, and_false, false_and, or_true, true_or, or_false, false_or, not_true_eq_false, not_false_eq_true, and_self, or_self, iff_self]; done) | (simp [h16]; done) | grind | (simp_all; done)), by kernel_rfl, hp5⟩
      · refine OPS.batch 0 {} [] [0, 1, 5, 6, 20] [.slice a n c, .slice ao no co, .int .i64 (k : Int), .int .i64 (o[k]!), .bool (decide ((o[k]!) < 0))] .nil (by kernel_rfl) (fun b19 => ?_)
        refine OPS.re [.slice a n c, .slice ao no co, .int .i64 (k : Int), .int .i64 (o[k]!), .bool false] (by rw [show (decide ((o[k]!) < 0)) = false from Bp.dec.ff h16]) ?_
        refine OPS.batch 6 { wraps := [25] } [] [0, 1, 5, 6, 26] [.slice a n c, .slice ao no co, .int .i64 (k : Int), .int .i64 (o[k]!), .bool (decide (((n : Nat) : Int) ≤ (o[k]!)))] .nil (by kernel_rfl) (fun b20 => ?_)
        by_cases h21 : ((n : Nat) : Int) ≤ (o[k]!)
        · refine OPS.batch 0 {} [] [0, 1, 5, 6, 26] [.slice a n c, .slice ao no co, .int .i64 (k : Int), .int .i64 (o[k]!), .bool (decide (((n : Nat) : Int) ≤ (o[k]!)))] .nil (by kernel_rfl) (fun b22 => ?_)
          refine OPS.re [.slice a n c, .slice ao no co, .int .i64 (k : Int), .int .i64 (o[k]!), .bool true] (by rw [show (decide (((n : Nat) : Int) ≤ (o[k]!))) = true from Bp.dec.tt h21]) ?_
          refine OPS.batch 21 { wraps := [31, 47] } [] [0, 1, 5, 47] [.slice a n c, .slice ao no co, .int .i64 (k : Int), .bool true] .nil (by kernel_rfl) (fun b23 => ?_)
          refine OPS.nil ?_
          refine thn_n ?_
          exact ⟨true, trivial, Bp.of Bp.t (by first | (simp only [h16, h21, iff_false, false_iff, iff_true, true_iff, Classical.not_not, and_true, true_and, and_false, false_and, or_true, true_or, or_false, false_or, not_true_eq_false, not_false_eq_true, and_self, or_self, iff_self]; done) | (simp [h16, h21]; done) | grind | (simp_all; done)), by kernel_rfl, hp5⟩
        · refine OPS.batch 0 {} [] [0, 1, 5, 6, 26] [.slice a n c, .slice ao no co, .int .i64 (k : Int), .int .i64 (o[k]!), .bool (decide (((n : Nat) : Int) ≤ (o[k]!)))] .nil (by kernel_rfl) (fun b24 => ?_)
          refine OPS.re [.slice a n c, .slice ao no co, .int .i64 (k : Int), .int .i64 (o[k]!), .bool false] (by rw [show (decide (((n : Nat) : Int) ≤ (o[k]!))) = false from Bp.dec.ff h21]) ?_
          refine OPS.batch 2 {} [] [0, 1, 5, 6, 26, 27, 28] [.slice a n c, .slice ao no co, .int .i64 (k : Int), .int .i64 (o[k]!), .bool false, .slice ao no co, .int .i64 (o[k]!)] .nil (by kernel_rfl) (fun b25 => ?_)
          refine OPS.want (by kernel_rfl) ?_
          refine OPS.cons (opStep.call (some 29) [.slice ao no co, .int .i64 (o[k]!)] (by kernel_rfl) (r21_count o _ _ _ (by omega) (by omega) (o[k]!) _ (hso.at hp5)) ?_)
          rintro _ w28 ⟨rfl, hf29⟩
          refine ⟨_, rfl, ?_⟩
          have hp30 := hp5.step hf29
          refine OPS.batch 3 { wraps := [31] } [] [0, 1, 5, 6, 32] [.slice a n c, .slice ao no co, .int .i64 (k : Int), .int .i64 (o[k]!), .bool (decide (¬ (((List.count (o[k]!) o : Nat) : Int) = 1)))] .nil (by kernel_rfl) (fun b31 => ?_)
          by_cases h32 : ((List.count (o[k]!) o : Nat) : Int) = 1
          · refine OPS.batch 0 {} [] [0, 1, 5, 6, 32] [.slice a n c, .slice ao no co, .int .i64 (k : Int), .int .i64 (o[k]!), .bool (decide (¬ (((List.count (o[k]!) o : Nat) : Int) = 1)))] .nil (by kernel_rfl) (fun b35 => ?_)
            refine OPS.re [.slice a n c, .slice ao no co, .int .i64 (k : Int), .int .i64 (o[k]!), .bool false] (by rw [show (decide (¬ (((List.count (o[k]!) o : Nat) : Int) = 1))) = false from Bp.dec.ff (fun k => k h32)]) ?_
            have hy37 : (l)[(o[k]! : Int).toNat]? = some l[(o[k]! : Int).toNat]! := get_bang (by first | (omega) | (simp only [List.length_append, List.length_cons, List.length_nil]; omega) | (simp only [List.length_take, List.length_append, List.length_cons, List.length_nil]; omega))
            refine OPS.batch 4 {} [GCall.val (l[(o[k]! : Int).toNat]!)] [0, 1, 5, 6, 32, 36] [.slice a n c, .slice ao no co, .int .i64 (k : Int), .int .i64 (o[k]!), .bool false, GCall.val (l[(o[k]! : Int).toNat]!)] (.cons (show InB (o[k]!) (n) from ⟨by omega, by omega⟩) (.cons ((hs.at hp30).some (by omega)) (.cons (Ld.add0 (Ld.elN (P := Try.prog) (t := 73) (hs.at hp30).rd 11 (fun _ => rfl) hy37 (o := 0) (cs := [.int .i64 (l[(o[k]! : Int).toNat]!.Client), .int .i64 (l[(o[k]! : Int).toNat]!.Op), .bool (l[(o[k]! : Int).toNat]!.Put), .string (l[(o[k]! : Int).toNat]!.Key), .slice (l[(o[k]! : Int).toNat]!.Value.a) (l[(o[k]! : Int).toNat]!.Value.n) (l[(o[k]! : Int).toNat]!.Value.c), .int .i64 (l[(o[k]! : Int).toNat]!.Status), .int .i64 (l[(o[k]! : Int).toNat]!.From), .int .i64 (l[(o[k]! : Int).toNat]!.To), .bool (l[(o[k]! : Int).toNat]!.Open), .int .i64 (l[(o[k]! : Int).toNat]!.Tag.Count), .int .i64 (l[(o[k]! : Int).toNat]!.Tag.Client)]) (by kernel_rfl))) .nil))) (by kernel_rfl) (fun b38 => ?_)
            refine OPS.want (by kernel_rfl) ?_
            refine OPS.cons (opStep.call (some 37) [GCall.val (l[(o[k]! : Int).toNat]!)] (by kernel_rfl) (r21_due (l[(o[k]! : Int).toNat]!) _) ?_)
            rintro _ w41 ⟨b44, rfl, hb45, hf42⟩
            refine ⟨_, rfl, ?_⟩
            have hp43 := hp30.step hf42
            refine OPS.batch 2 {} [] [0, 1, 5, 6, 32, 39] [.slice a n c, .slice ao no co, .int .i64 (k : Int), .int .i64 (o[k]!), .bool false, .bool (!b44)] .nil (by kernel_rfl) (fun b46 => ?_)
            by_cases h47 : dueP (l[(o[k]! : Int).toNat]!)
            · refine OPS.batch 0 {} [] [0, 1, 5, 6, 32, 39] [.slice a n c, .slice ao no co, .int .i64 (k : Int), .int .i64 (o[k]!), .bool false, .bool (!b44)] .nil (by kernel_rfl) (fun b50 => ?_)
              refine OPS.re [.slice a n c, .slice ao no co, .int .i64 (k : Int), .int .i64 (o[k]!), .bool false, .bool false] (by rw [show (!b44) = false from (Bp.not hb45).ff (fun k => k h47)]) ?_
              refine OPS.batch 8 { wraps := [46, 47] } [] [0, 1, 5, 47] [.slice a n c, .slice ao no co, .int .i64 (k : Int), .bool false] .nil (by kernel_rfl) (fun b51 => ?_)
              refine OPS.nil ?_
              refine thn_n ?_
              exact ⟨false, trivial, Bp.of Bp.f (by first | (simp only [h16, h21, h32, h47, iff_false, false_iff, iff_true, true_iff, Classical.not_not, and_true, true_and, and_false, false_and, or_true, true_or, or_false, false_or, not_true_eq_false, not_false_eq_true, and_self, or_self, iff_self]; done) | (simp [h16, h21, h32, h47]; done) | grind | (simp_all; done)), by kernel_rfl, hp43⟩
            · refine OPS.batch 0 {} [] [0, 1, 5, 6, 32, 39] [.slice a n c, .slice ao no co, .int .i64 (k : Int), .int .i64 (o[k]!), .bool false, .bool (!b44)] .nil (by kernel_rfl) (fun b48 => ?_)
              refine OPS.re [.slice a n c, .slice ao no co, .int .i64 (k : Int), .int .i64 (o[k]!), .bool false, .bool true] (by rw [show (!b44) = true from (Bp.not hb45).tt h47]) ?_
              refine OPS.batch 8 { wraps := [46, 47] } [.bool (l[(o[k]! : Int).toNat]!.Open)] [0, 1, 5, 47] [.slice a n c, .slice ao no co, .int .i64 (k : Int), .bool (!(l[(o[k]! : Int).toNat]!.Open))] (.cons (show InB (o[k]!) (n) from ⟨by omega, by omega⟩) (.cons ((hs.at hp43).some (by omega)) (.cons (Ld.el1 (P := Try.prog) (t := 4) (hs.at hp43).rd 11 (fun _ => rfl) hy37 (o := 8) (v := .bool (l[(o[k]! : Int).toNat]!.Open)) (by kernel_rfl)) .nil))) (by kernel_rfl) (fun b49 => ?_)
              refine OPS.nil ?_
              refine thn_n ?_
              exact ⟨!(l[(o[k]! : Int).toNat]!.Open), trivial, Bp.of (Bp.not Bp.var) (by first | (simp only [h16, h21, h32, h47, iff_false, false_iff, iff_true, true_iff, Classical.not_not, and_true, true_and, and_false, false_and, or_true, true_or, or_false, false_or, not_true_eq_false, not_false_eq_true, and_self, or_self, iff_self]; done) | (simp [h16, h21, h32, h47]; done) | grind | (simp_all; done)), by kernel_rfl, hp43⟩
          · refine OPS.batch 0 {} [] [0, 1, 5, 6, 32] [.slice a n c, .slice ao no co, .int .i64 (k : Int), .int .i64 (o[k]!), .bool (decide (¬ (((List.count (o[k]!) o : Nat) : Int) = 1)))] .nil (by kernel_rfl) (fun b33 => ?_)
            refine OPS.re [.slice a n c, .slice ao no co, .int .i64 (k : Int), .int .i64 (o[k]!), .bool true] (by rw [show (decide (¬ (((List.count (o[k]!) o : Nat) : Int) = 1))) = true from Bp.dec.tt h32]) ?_
            refine OPS.batch 15 { wraps := [47] } [] [0, 1, 5, 47] [.slice a n c, .slice ao no co, .int .i64 (k : Int), .bool true] .nil (by kernel_rfl) (fun b34 => ?_)
            refine OPS.nil ?_
            refine thn_n ?_
            exact ⟨true, trivial, Bp.of Bp.t (by first | (simp only [h16, h21, h32, iff_false, false_iff, iff_true, true_iff, Classical.not_not, and_true, true_and, and_false, false_and, or_true, true_or, or_false, false_or, not_true_eq_false, not_false_eq_true, and_self, or_self, iff_self]; done) | (simp [h16, h21, h32]; done) | grind | (simp_all; done)), by kernel_rfl, hp30⟩
    rintro e54 w55 ⟨x52, hd57, hb53, hE58, hp56⟩
    obtain ⟨b59, rfl⟩ := toMk hE58
    clear hE58
    clear hd57
    refine WP.test (p := (((o[k]!) < 0)) ∨ ((¬ ((o[k]!) < 0)) ∧ (((n : Nat) : Int) ≤ (o[k]!))) ∨ ((¬ ((o[k]!) < 0)) ∧ (¬ (((n : Nat) : Int) ≤ (o[k]!))) ∧ (¬ (((List.count (o[k]!) o : Nat) : Int) = 1))) ∨ ((¬ ((o[k]!) < 0)) ∧ (¬ (((n : Nat) : Int) ≤ (o[k]!))) ∧ (((List.count (o[k]!) o : Nat) : Int) = 1) ∧ (¬ (dueP (l[(o[k]! : Int).toNat]!))) ∧ (¬ ((l[(o[k]! : Int).toNat]!.Open) = true)))) rfl hb53 (fun h60 => ?_) (fun h60 => ?_)
    · refine WP.seq ?_
      refine WP.pure {} [] [4] [.bool false] .nil (by kernel_rfl) (fun b61 => ?_)
      refine thn_n ?_
      refine WP.ret ?_
      refine blk_r ?_
      refine thn_r ?_
      refine thn_r ?_
      refine blk_r ?_
      refine thn_r ?_
      refine bodyQ.of _ rfl [.bool false] ⟨rfl, trivial⟩ ?_
      exact ⟨_, rfl, Bp.of Bp.f (by simp only [false_iff]; intro q; have q_ := (mem_whole.2 q).1 k (by omega); simp only [okM, atO] at q_; have h_ := h60; grind), hp56.fr⟩
    · refine WP.skip ?_
      refine blk_n ?_
      refine thn_n ?_
      refine WP.pure {} [] [0, 1, 5] [.slice a n c, .slice ao no co, .int .i64 ((k : Int) + 1)] (.cons (show Rng .i64 ((k : Int) + 1) from Rng.i64 (by omega)) .nil) (by kernel_rfl) (fun b62 => ?_)
      refine thn_n ?_
      exact ⟨o.length - (k + 1), (by omega), k + 1, rfl, ⟨by omega, fun j hj => by by_cases e : j = k; subst e; exact (by simp only [okM, atO]; have h_ := h60; grind); exact pb j (by omega)⟩, by kernel_rfl, hp56⟩
  · refine WP.exit ?_
    refine thn_x ?_
    refine thn_x ?_
    refine blk_hit ?_
    refine thn_n ?_
    refine WP.seq ?_
    refine WP.seq ?_
    refine WP.pure {} [] [0, 1, 7] [.slice a n c, .slice ao no co, .int .i64 0] .nil (by kernel_rfl) (fun b63 => ?_)
    refine thn_n ?_
    refine WP.block ?_
    refine WP.loop (fun mz_ e64 w65 => ∃ (i : Nat), mz_ = l.length - i ∧ (i ≤ l.length ∧ ∀ m : Nat, m < i → dueP l[m]! → o.count (m : Int) = 1) ∧ List.map e64 [0, 1, 7] = [.slice a n c, .slice ao no co, .int .i64 (i : Int)] ∧ Hp w Non [] w65) (l.length - (0)) ⟨0, rfl, ⟨by omega, fun j hj => by omega⟩, by kernel_rfl, hp5⟩ ?_
    rintro _ e64 w65 ⟨i, rfl, hI67, hE68, hp66⟩
    obtain ⟨b69, rfl⟩ := toMk hE68
    clear hE68
    obtain ⟨qa, qb⟩ := hI67
    refine WP.seq ?_
    refine WP.seq ?_
    refine WP.pure {} [] [0, 1, 7, 51] [.slice a n c, .slice ao no co, .int .i64 (i : Int), .bool (decide ((i : Int) < ((n : Nat) : Int)))] .nil (by kernel_rfl) (fun b70 => ?_)
    refine thn_n ?_
    refine WP.test (p := (i : Int) < ((n : Nat) : Int)) rfl Bp.dec (fun h71 => ?_) (fun h71 => ?_)
    · refine WP.skip ?_
      refine thn_n ?_
      refine WP.seq ?_
      refine WP.block ?_
      refine WP.cut (fun e97 w98 => ∃ (x95 : Bool), (True) ∧ Bp x95 ((dueP (l[i]!)) ∧ (¬ (((List.count (i : Int) o : Nat) : Int) = 1))) ∧ List.map e97 [0, 1, 7, 64] = [.slice a n c, .slice ao no co, .int .i64 (i : Int), .bool x95] ∧ Hp w Non [] w98) ?_ ?_
      · refine WP.region _ rfl (by kernel_rfl) ?_
        have hy76 : (l)[i]? = some l[i]! := get_bang (by first | (omega) | (simp only [List.length_append, List.length_cons, List.length_nil]; omega) | (simp only [List.length_take, List.length_append, List.length_cons, List.length_nil]; omega))
        refine OPS.batch 4 {} [GCall.val (l[i]!)] [0, 1, 7, 57] [.slice a n c, .slice ao no co, .int .i64 (i : Int), GCall.val (l[i]!)] (.cons (show InB ((i : Int)) (n) from ⟨by omega, by omega⟩) (.cons ((hs.at hp66).some (by omega)) (.cons (Ld.add0 (Ld.elN (P := Try.prog) (t := 73) (hs.at hp66).rd 11 (fun _ => rfl) hy76 (o := 0) (cs := [.int .i64 (l[i]!.Client), .int .i64 (l[i]!.Op), .bool (l[i]!.Put), .string (l[i]!.Key), .slice (l[i]!.Value.a) (l[i]!.Value.n) (l[i]!.Value.c), .int .i64 (l[i]!.Status), .int .i64 (l[i]!.From), .int .i64 (l[i]!.To), .bool (l[i]!.Open), .int .i64 (l[i]!.Tag.Count), .int .i64 (l[i]!.Tag.Client)]) (by kernel_rfl))) .nil))) (by kernel_rfl) (fun b77 => ?_)
        refine OPS.cons (opStep.call (some 58) [GCall.val (l[i]!)] (by kernel_rfl) (r21_due (l[i]!) _) ?_)
        rintro _ w80 ⟨b83, rfl, hb84, hf81⟩
        refine ⟨_, rfl, ?_⟩
        have hp82 := hp66.step hf81
        refine OPS.batch 1 {} [] [0, 1, 7, 59] [.slice a n c, .slice ao no co, .int .i64 (i : Int), .bool b83] .nil (by kernel_rfl) (fun b85 => ?_)
        by_cases h86 : dueP (l[i]!)
        · rw [show b83 = true from hb84.tt h86]
          refine OPS.batch 2 {} [] [0, 1, 7, 59, 60, 61] [.slice a n c, .slice ao no co, .int .i64 (i : Int), .bool true, .slice ao no co, .int .i64 (i : Int)] .nil (by kernel_rfl) (fun b87 => ?_)
          refine OPS.want (by kernel_rfl) ?_
          refine OPS.cons (opStep.call (some 62) [.slice ao no co, .int .i64 (i : Int)] (by kernel_rfl) (r21_count o _ _ _ (by omega) (by omega) (i : Int) _ (hso.at hp82)) ?_)
          rintro _ w90 ⟨rfl, hf91⟩
          refine ⟨_, rfl, ?_⟩
          have hp92 := hp82.step hf91
          refine OPS.batch 2 { wraps := [64] } [] [0, 1, 7, 64] [.slice a n c, .slice ao no co, .int .i64 (i : Int), .bool (decide (¬ (((List.count (i : Int) o : Nat) : Int) = 1)))] .nil (by kernel_rfl) (fun b93 => ?_)
          refine OPS.nil ?_
          refine thn_n ?_
          exact ⟨decide (¬ (((List.count (i : Int) o : Nat) : Int) = 1)), trivial, Bp.of Bp.dec (by first | (simp only [h86, iff_false, false_iff, iff_true, true_iff, Classical.not_not, and_true, true_and, and_false, false_and, or_true, true_or, or_false, false_or, not_true_eq_false, not_false_eq_true, and_self, or_self, iff_self]; done) | (simp [h86]; done) | grind | (simp_all; done)), by kernel_rfl, hp92⟩
        · rw [show b83 = false from hb84.ff h86]
          refine OPS.batch 5 { wraps := [64] } [] [0, 1, 7, 64] [.slice a n c, .slice ao no co, .int .i64 (i : Int), .bool false] .nil (by kernel_rfl) (fun b94 => ?_)
          refine OPS.nil ?_
          refine thn_n ?_
          exact ⟨false, trivial, Bp.of Bp.f (by first | (simp only [h86, iff_false, false_iff, iff_true, true_iff, Classical.not_not, and_true, true_and, and_false, false_and, or_true, true_or, or_false, false_or, not_true_eq_false, not_false_eq_true, and_self, or_self, iff_self]; done) | (simp [h86]; done) | grind | (simp_all; done)), by kernel_rfl, hp82⟩
      rintro e97 w98 ⟨x95, hd100, hb96, hE101, hp99⟩
      obtain ⟨b102, rfl⟩ := toMk hE101
      clear hE101
      clear hd100
      refine WP.test (p := (dueP (l[i]!)) ∧ (¬ (((List.count (i : Int) o : Nat) : Int) = 1))) rfl hb96 (fun h103 => ?_) (fun h103 => ?_)
      · refine WP.seq ?_
        refine WP.pure {} [] [4] [.bool false] .nil (by kernel_rfl) (fun b104 => ?_)
        refine thn_n ?_
        refine WP.ret ?_
        refine blk_r ?_
        refine thn_r ?_
        refine thn_r ?_
        refine blk_r ?_
        refine thn_r ?_
        refine bodyQ.of _ rfl [.bool false] ⟨rfl, trivial⟩ ?_
        exact ⟨_, rfl, Bp.of Bp.f (by simp only [false_iff]; intro q; have q_ := (mem_whole.2 q).2 i (by omega); have h_ := h103; grind), hp99.fr⟩
      · refine WP.skip ?_
        refine blk_n ?_
        refine thn_n ?_
        refine WP.pure {} [] [0, 1, 7] [.slice a n c, .slice ao no co, .int .i64 ((i : Int) + 1)] (.cons (show Rng .i64 ((i : Int) + 1) from Rng.i64 (by omega)) .nil) (by kernel_rfl) (fun b105 => ?_)
        refine thn_n ?_
        exact ⟨l.length - (i + 1), (by omega), i + 1, rfl, ⟨by omega, fun j hj hd => by by_cases e : j = i; subst e; have h_ := h103; grind; exact qb j (by omega) hd⟩, by kernel_rfl, hp99⟩
    · refine WP.exit ?_
      refine thn_x ?_
      refine thn_x ?_
      refine blk_hit ?_
      refine thn_n ?_
      refine WP.seq ?_
      refine WP.pure {} [] [4] [.bool true] .nil (by kernel_rfl) (fun b106 => ?_)
      refine thn_n ?_
      refine WP.ret ?_
      refine bodyQ.of _ rfl [.bool true] ⟨rfl, trivial⟩ ?_
      exact ⟨_, rfl, Bp.of Bp.t (by simp only [true_iff]; exact mem_whole.1 ⟨fun j hj => pb j (by omega), fun m hm => qb m (by omega)⟩), hp66.fr⟩

end Go.Proofs.Ytdahgdkadfdkeaa.K
