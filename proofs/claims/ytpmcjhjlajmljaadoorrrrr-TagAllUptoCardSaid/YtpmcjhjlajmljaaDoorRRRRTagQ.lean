/- The walks of TagQ: what each function computes. -/
import Derived.Test.YtpmcjhjlajmljaaDoorRRRRProg
import Derived.Test.YtpmcjhjlajmljaaDoorRRRRCoreO
import Derived.Test.YtpmcjhjlajmljaaDoorRRRRTagN
namespace Go.Proofs.YtpmcjhjlajmljaaDoorRRRR.K
open Go Go.Proofs Go.RowKit
set_option linter.unusedVariables false
set_option linter.unusedSimpArgs false
set_option maxRecDepth 20000
set_option maxHeartbeats 4000000

theorem r8_Zero (t : GTag) (w : World) :
    Calls Tryd.prog 13 #[GTag.val t] w (fun r_ w' => ∃ f_, r_ = .returned (.bool f_) ∧ Bp f_ (tagZero t) ∧ Fram Non w w') := by
  refine calls_of Tryd.func13 rfl 6 rfl (by simp) ?_
  have hp0 := Hp.init w
  have he0 : List.map (env0 [GTag.val t]) [0] = [GTag.val t] := by kernel_rfl
  obtain ⟨b0, he0⟩ := toMk he0
  rw [he0]
  clear he0
  refine WP.seq ?_
  refine WP.region _ rfl (by kernel_rfl) ?_
  refine OPS.cons (opStep.box hp0 [.int .i64 t.Count, .int .i64 t.Client] (by kernel_rfl) (fun g3 w1 hp2 => ?_))
  refine OPS.batch 1 {} [] [1] [.pointer (some ⟨g3, 0, none⟩)] .nil (by kernel_rfl) (fun b4 => ?_)
  refine OPS.nil ?_
  refine thn_n ?_
  refine WP.seq ?_
  refine WP.pure {} [GTag.val t] [2] [.bool ((decide (t.Count = 0)) && ((decide (t.Client = 0)) && true))] (.cons (show Ld Tryd.prog w1 23 ⟨g3, 0, none⟩ (GTag.val t) from Ld.rowN (cs := [.int .i64 t.Count, .int .i64 t.Client]) hp2.get0 (by kernel_rfl)) .nil) (by kernel_rfl) (fun b5 => ?_)
  refine thn_n ?_
  refine WP.ret ?_
  refine bodyQ.of _ rfl [.bool ((decide (t.Count = 0)) && ((decide (t.Client = 0)) && true))] ⟨rfl, trivial⟩ ?_
  exact ⟨_, rfl, Bp.of (Bp.band Bp.dec (Bp.band1 Bp.dec)) (by simp [tagZero]), hp2.fr⟩

theorem r8_proper (t : GTag) (w : World) :
    Calls Tryd.prog 38 #[GTag.val t] w (fun r_ w' => ∃ f_, r_ = .returned (.bool f_) ∧ Bp f_ (tagProper t) ∧ Fram Non w w') := by
  refine calls_of Tryd.func38 rfl 21 rfl (by simp) ?_
  have hp0 := Hp.init w
  have he0 : List.map (env0 [GTag.val t]) [0] = [GTag.val t] := by kernel_rfl
  obtain ⟨b0, he0⟩ := toMk he0
  rw [he0]
  clear he0
  refine WP.seq ?_
  refine WP.region _ rfl (by kernel_rfl) ?_
  refine OPS.cons (opStep.box hp0 [.int .i64 t.Count, .int .i64 t.Client] (by kernel_rfl) (fun g3 w1 hp2 => ?_))
  refine OPS.batch 1 {} [] [1] [.pointer (some ⟨g3, 0, none⟩)] .nil (by kernel_rfl) (fun b4 => ?_)
  refine OPS.nil ?_
  refine thn_n ?_
  refine WP.cut (fun e24 w25 => ∃ (x22 : Bool), (True) ∧ Bp x22 ((1 ≤ t.Count) ∧ (t.Count ≤ 4611686018427387903) ∧ (1 ≤ t.Client) ∧ (t.Client ≤ 65535)) ∧ List.map e24 [2] = [.bool x22] ∧ Hp w Non [Res.row g3 [.int .i64 t.Count, .int .i64 t.Client] 23] w25) ?_ ?_
  · refine WP.region _ rfl (by kernel_rfl) ?_
    refine OPS.batch 4 {} [.int .i64 t.Count] [1, 6] [.pointer (some ⟨g3, 0, none⟩), .bool (decide (1 ≤ t.Count))] (.cons (Ld.row1 (P := Tryd.prog) (t := 2) (o := 0) (v := .int .i64 t.Count) hp2.get0 (by kernel_rfl)) .nil) (by kernel_rfl) (fun b6 => ?_)
    by_cases h7 : 1 ≤ t.Count
    · refine OPS.batch 0 {} [] [1, 6] [.pointer (some ⟨g3, 0, none⟩), .bool (decide (1 ≤ t.Count))] .nil (by kernel_rfl) (fun b8 => ?_)
      refine OPS.re [.pointer (some ⟨g3, 0, none⟩), .bool true] (by rw [show (decide (1 ≤ t.Count)) = true from Bp.dec.tt h7]) ?_
      refine OPS.batch 5 { wraps := [10] } [.int .i64 t.Count] [1, 11] [.pointer (some ⟨g3, 0, none⟩), .bool (decide (t.Count ≤ 4611686018427387903))] (.cons (Ld.row1 (P := Tryd.prog) (t := 2) (o := 0) (v := .int .i64 t.Count) hp2.get0 (by kernel_rfl)) .nil) (by kernel_rfl) (fun b9 => ?_)
      by_cases h10 : t.Count ≤ 4611686018427387903
      · refine OPS.batch 0 {} [] [1, 11] [.pointer (some ⟨g3, 0, none⟩), .bool (decide (t.Count ≤ 4611686018427387903))] .nil (by kernel_rfl) (fun b11 => ?_)
        refine OPS.re [.pointer (some ⟨g3, 0, none⟩), .bool true] (by rw [show (decide (t.Count ≤ 4611686018427387903)) = true from Bp.dec.tt h10]) ?_
        refine OPS.batch 5 { wraps := [15] } [.int .i64 t.Client] [1, 16] [.pointer (some ⟨g3, 0, none⟩), .bool (decide (1 ≤ t.Client))] (.cons (Ld.row1 (P := Tryd.prog) (t := 3) (o := 1) (v := .int .i64 t.Client) hp2.get0 (by kernel_rfl)) .nil) (by kernel_rfl) (fun b12 => ?_)
        by_cases h13 : 1 ≤ t.Client
        · refine OPS.batch 0 {} [] [1, 16] [.pointer (some ⟨g3, 0, none⟩), .bool (decide (1 ≤ t.Client))] .nil (by kernel_rfl) (fun b14 => ?_)
          refine OPS.re [.pointer (some ⟨g3, 0, none⟩), .bool true] (by rw [show (decide (1 ≤ t.Client)) = true from Bp.dec.tt h13]) ?_
          refine OPS.batch 5 { wraps := [20] } [.int .i64 t.Client] [2] [.bool (decide (t.Client ≤ 65535))] (.cons (Ld.row1 (P := Tryd.prog) (t := 3) (o := 1) (v := .int .i64 t.Client) hp2.get0 (by kernel_rfl)) .nil) (by kernel_rfl) (fun b15 => ?_)
          refine OPS.nil ?_
          refine thn_n ?_
          exact ⟨decide (t.Client ≤ 65535), trivial, Bp.of Bp.dec (by first | (simp only [h7, h10, h13, iff_false, false_iff, iff_true, true_iff, Classical.not_not, and_true, true_and, and_false, false_and, or_true, true_or, or_false, false_or, not_true_eq_false, not_false_eq_true, and_self, or_self, iff_self]; done) | (simp [h7, h10, h13]; done) | simp_all), by kernel_rfl, hp2⟩
        · refine OPS.batch 0 {} [] [1, 16] [.pointer (some ⟨g3, 0, none⟩), .bool (decide (1 ≤ t.Client))] .nil (by kernel_rfl) (fun b16 => ?_)
          refine OPS.re [.pointer (some ⟨g3, 0, none⟩), .bool false] (by rw [show (decide (1 ≤ t.Client)) = false from Bp.dec.ff h13]) ?_
          refine OPS.batch 5 { wraps := [20] } [] [2] [.bool false] .nil (by kernel_rfl) (fun b17 => ?_)
          refine OPS.nil ?_
          refine thn_n ?_
          exact ⟨false, trivial, Bp.of Bp.f (by first | (simp only [h7, h10, h13, iff_false, false_iff, iff_true, true_iff, Classical.not_not, and_true, true_and, and_false, false_and, or_true, true_or, or_false, false_or, not_true_eq_false, not_false_eq_true, and_self, or_self, iff_self]; done) | (simp [h7, h10, h13]; done) | simp_all), by kernel_rfl, hp2⟩
      · refine OPS.batch 0 {} [] [1, 11] [.pointer (some ⟨g3, 0, none⟩), .bool (decide (t.Count ≤ 4611686018427387903))] .nil (by kernel_rfl) (fun b18 => ?_)
        refine OPS.re [.pointer (some ⟨g3, 0, none⟩), .bool false] (by rw [show (decide (t.Count ≤ 4611686018427387903)) = false from Bp.dec.ff h10]) ?_
        refine OPS.batch 10 { wraps := [15, 20] } [] [2] [.bool false] .nil (by kernel_rfl) (fun b19 => ?_)
        refine OPS.nil ?_
        refine thn_n ?_
        exact ⟨false, trivial, Bp.of Bp.f (by first | (simp only [h7, h10, iff_false, false_iff, iff_true, true_iff, Classical.not_not, and_true, true_and, and_false, false_and, or_true, true_or, or_false, false_or, not_true_eq_false, not_false_eq_true, and_self, or_self, iff_self]; done) | (simp [h7, h10]; done) | simp_all), by kernel_rfl, hp2⟩
    · refine OPS.batch 0 {} [] [1, 6] [.pointer (some ⟨g3, 0, none⟩), .bool (decide (1 ≤ t.Count))] .nil (by kernel_rfl) (fun b20 => ?_)
      refine OPS.re [.pointer (some ⟨g3, 0, none⟩), .bool false] (by rw [show (decide (1 ≤ t.Count)) = false from Bp.dec.ff h7]) ?_
      refine OPS.batch 15 { wraps := [10, 15, 20] } [] [2] [.bool false] .nil (by kernel_rfl) (fun b21 => ?_)
      refine OPS.nil ?_
      refine thn_n ?_
      exact ⟨false, trivial, Bp.of Bp.f (by first | (simp only [h7, iff_false, false_iff, iff_true, true_iff, Classical.not_not, and_true, true_and, and_false, false_and, or_true, true_or, or_false, false_or, not_true_eq_false, not_false_eq_true, and_self, or_self, iff_self]; done) | (simp [h7]; done) | simp_all), by kernel_rfl, hp2⟩
  rintro e24 w25 ⟨x22, hd27, hb23, hE28, hp26⟩
  obtain ⟨b29, rfl⟩ := toMk hE28
  clear hE28
  clear hd27
  refine WP.ret ?_
  refine bodyQ.of _ rfl [.bool x22] ⟨rfl, trivial⟩ ?_
  exact ⟨_, rfl, Bp.of hb23 (by first | (simp only [tagProper, false_iff, true_iff]; done) | (simp only [tagProper, false_iff, true_iff]; omega)), hp26.fr⟩

theorem r8_Valid (t : GTag) (w : World) :
    Calls Tryd.prog 14 #[GTag.val t] w (fun r_ w' => ∃ f_, r_ = .returned (.bool f_) ∧ Bp f_ (tagValid t) ∧ Fram Non w w') := by
  refine calls_of Tryd.func14 rfl 9 rfl (by simp) ?_
  have hp0 := Hp.init w
  have he0 : List.map (env0 [GTag.val t]) [0] = [GTag.val t] := by kernel_rfl
  obtain ⟨b0, he0⟩ := toMk he0
  rw [he0]
  clear he0
  refine WP.seq ?_
  refine WP.region _ rfl (by kernel_rfl) ?_
  refine OPS.cons (opStep.box hp0 [.int .i64 t.Count, .int .i64 t.Client] (by kernel_rfl) (fun g3 w1 hp2 => ?_))
  refine OPS.batch 1 {} [] [1] [.pointer (some ⟨g3, 0, none⟩)] .nil (by kernel_rfl) (fun b4 => ?_)
  refine OPS.nil ?_
  refine thn_n ?_
  refine WP.cut (fun e28 w29 => ∃ (x26 : Bool), (True) ∧ Bp x26 (((tagZero t)) ∨ ((¬ (tagZero t)) ∧ (tagProper t))) ∧ List.map e28 [2] = [.bool x26] ∧ Hp w Non [Res.row g3 [.int .i64 t.Count, .int .i64 t.Client] 23] w29) ?_ ?_
  · refine WP.region _ rfl (by kernel_rfl) ?_
    refine OPS.batch 1 {} [GTag.val t] [1, 3] [.pointer (some ⟨g3, 0, none⟩), GTag.val t] (.cons (show Ld Tryd.prog w1 23 ⟨g3, 0, none⟩ (GTag.val t) from Ld.rowN (cs := [.int .i64 t.Count, .int .i64 t.Client]) hp2.get0 (by kernel_rfl)) .nil) (by kernel_rfl) (fun b6 => ?_)
    refine OPS.cons (opStep.call (some 4) [GTag.val t] (by kernel_rfl) (r8_Zero t _) ?_)
    rintro _ w9 ⟨b12, rfl, hb13, hf10⟩
    refine ⟨_, rfl, ?_⟩
    have hp11 := hp2.step hf10
    refine OPS.batch 1 {} [] [1, 5] [.pointer (some ⟨g3, 0, none⟩), .bool b12] .nil (by kernel_rfl) (fun b14 => ?_)
    by_cases h15 : tagZero t
    · rw [show b12 = true from hb13.tt h15]
      refine OPS.batch 4 { wraps := [8] } [] [2] [.bool true] .nil (by kernel_rfl) (fun b16 => ?_)
      refine OPS.nil ?_
      refine thn_n ?_
      exact ⟨true, trivial, Bp.of Bp.t (by first | (simp only [h15, iff_false, false_iff, iff_true, true_iff, Classical.not_not, and_true, true_and, and_false, false_and, or_true, true_or, or_false, false_or, not_true_eq_false, not_false_eq_true, and_self, or_self, iff_self]; done) | (simp [h15]; done) | simp_all), by kernel_rfl, hp11⟩
    · rw [show b12 = false from hb13.ff h15]
      refine OPS.batch 1 {} [GTag.val t] [5, 6] [.bool false, GTag.val t] (.cons (show Ld Tryd.prog w9 23 ⟨g3, 0, none⟩ (GTag.val t) from Ld.rowN (cs := [.int .i64 t.Count, .int .i64 t.Client]) hp11.get0 (by kernel_rfl)) .nil) (by kernel_rfl) (fun b17 => ?_)
      refine OPS.want (by kernel_rfl) ?_
      refine OPS.cons (opStep.call (some 7) [GTag.val t] (by kernel_rfl) (r8_proper t _) ?_)
      rintro _ w20 ⟨b23, rfl, hb24, hf21⟩
      refine ⟨_, rfl, ?_⟩
      have hp22 := hp11.step hf21
      refine OPS.batch 2 { wraps := [8] } [] [2] [.bool b23] .nil (by kernel_rfl) (fun b25 => ?_)
      refine OPS.nil ?_
      refine thn_n ?_
      exact ⟨b23, trivial, Bp.of hb24 (by first | (simp only [h15, iff_false, false_iff, iff_true, true_iff, Classical.not_not, and_true, true_and, and_false, false_and, or_true, true_or, or_false, false_or, not_true_eq_false, not_false_eq_true, and_self, or_self, iff_self]; done) | (simp [h15]; done) | simp_all), by kernel_rfl, hp22⟩
  rintro e28 w29 ⟨x26, hd31, hb27, hE32, hp30⟩
  obtain ⟨b33, rfl⟩ := toMk hE32
  clear hE32
  clear hd31
  refine WP.ret ?_
  refine bodyQ.of _ rfl [.bool x26] ⟨rfl, trivial⟩ ?_
  exact ⟨_, rfl, Bp.of hb27 (by simp only [tagValid]; by_cases hz : tagZero t <;> simp_all), hp30.fr⟩

theorem r8_Compare (a b : GTag) (w : World) :
    Calls Tryd.prog 16 #[GTag.val a, GTag.val b] w (fun r_ w' => r_ = .returned (.int .i64 (tagCmp a b)) ∧ Fram Non w w') := by
  refine calls_of Tryd.func16 rfl 29 rfl (by simp) ?_
  have hp0 := Hp.init w
  have he0 : List.map (env0 [GTag.val a, GTag.val b]) [0, 1] = [GTag.val a, GTag.val b] := by kernel_rfl
  obtain ⟨b0, he0⟩ := toMk he0
  rw [he0]
  clear he0
  refine WP.seq ?_
  refine WP.region _ rfl (by kernel_rfl) ?_
  refine OPS.cons (opStep.box hp0 [.int .i64 a.Count, .int .i64 a.Client] (by kernel_rfl) (fun g3 w1 hp2 => ?_))
  refine OPS.cons (opStep.box hp2 [.int .i64 b.Count, .int .i64 b.Client] (by kernel_rfl) (fun g6 w4 hp5 => ?_))
  refine OPS.batch 1 {} [] [2, 3] [.pointer (some ⟨g3, 0, none⟩), .pointer (some ⟨g6, 0, none⟩)] .nil (by kernel_rfl) (fun b7 => ?_)
  refine OPS.nil ?_
  refine thn_n ?_
  refine WP.seq ?_
  refine WP.block ?_
  refine WP.cut (fun e22 w23 => ∃ (x20 : Bool), (True) ∧ Bp x20 (((a.Count < b.Count)) ∨ ((¬ (a.Count < b.Count)) ∧ (a.Count = b.Count) ∧ (a.Client < b.Client))) ∧ List.map e22 [2, 3, 5] = [.pointer (some ⟨g3, 0, none⟩), .pointer (some ⟨g6, 0, none⟩), .bool x20] ∧ Hp w Non [Res.row g6 [.int .i64 b.Count, .int .i64 b.Client] 23, Res.row g3 [.int .i64 a.Count, .int .i64 a.Client] 23] w23) ?_ ?_
  · refine WP.region _ rfl (by kernel_rfl) ?_
    refine OPS.batch 6 {} [.int .i64 a.Count, .int .i64 b.Count] [2, 3, 11] [.pointer (some ⟨g3, 0, none⟩), .pointer (some ⟨g6, 0, none⟩), .bool (decide (a.Count < b.Count))] (.cons (Ld.row1 (P := Tryd.prog) (t := 2) (o := 0) (v := .int .i64 a.Count) hp5.get1 (by kernel_rfl)) (.cons (Ld.row1 (P := Tryd.prog) (t := 2) (o := 0) (v := .int .i64 b.Count) hp5.get0 (by kernel_rfl)) .nil)) (by kernel_rfl) (fun b9 => ?_)
    by_cases h10 : a.Count < b.Count
    · refine OPS.batch 0 {} [] [2, 3, 11] [.pointer (some ⟨g3, 0, none⟩), .pointer (some ⟨g6, 0, none⟩), .bool (decide (a.Count < b.Count))] .nil (by kernel_rfl) (fun b11 => ?_)
      refine OPS.re [.pointer (some ⟨g3, 0, none⟩), .pointer (some ⟨g6, 0, none⟩), .bool true] (by rw [show (decide (a.Count < b.Count)) = true from Bp.dec.tt h10]) ?_
      refine OPS.batch 14 { wraps := [24] } [] [2, 3, 5] [.pointer (some ⟨g3, 0, none⟩), .pointer (some ⟨g6, 0, none⟩), .bool true] .nil (by kernel_rfl) (fun b12 => ?_)
      refine OPS.nil ?_
      refine thn_n ?_
      exact ⟨true, trivial, Bp.of Bp.t (by first | (simp only [h10, iff_false, false_iff, iff_true, true_iff, Classical.not_not, and_true, true_and, and_false, false_and, or_true, true_or, or_false, false_or, not_true_eq_false, not_false_eq_true, and_self, or_self, iff_self]; done) | (simp [h10]; done) | simp_all), by kernel_rfl, hp5⟩
    · refine OPS.batch 0 {} [] [2, 3, 11] [.pointer (some ⟨g3, 0, none⟩), .pointer (some ⟨g6, 0, none⟩), .bool (decide (a.Count < b.Count))] .nil (by kernel_rfl) (fun b13 => ?_)
      refine OPS.re [.pointer (some ⟨g3, 0, none⟩), .pointer (some ⟨g6, 0, none⟩), .bool false] (by rw [show (decide (a.Count < b.Count)) = false from Bp.dec.ff h10]) ?_
      refine OPS.batch 6 {} [.int .i64 a.Count, .int .i64 b.Count] [2, 3, 11, 17] [.pointer (some ⟨g3, 0, none⟩), .pointer (some ⟨g6, 0, none⟩), .bool false, .bool (decide (a.Count = b.Count))] (.cons (Ld.row1 (P := Tryd.prog) (t := 2) (o := 0) (v := .int .i64 a.Count) hp5.get1 (by kernel_rfl)) (.cons (Ld.row1 (P := Tryd.prog) (t := 2) (o := 0) (v := .int .i64 b.Count) hp5.get0 (by kernel_rfl)) .nil)) (by kernel_rfl) (fun b14 => ?_)
      by_cases h15 : a.Count = b.Count
      · refine OPS.batch 0 {} [] [2, 3, 11, 17] [.pointer (some ⟨g3, 0, none⟩), .pointer (some ⟨g6, 0, none⟩), .bool false, .bool (decide (a.Count = b.Count))] .nil (by kernel_rfl) (fun b16 => ?_)
        refine OPS.re [.pointer (some ⟨g3, 0, none⟩), .pointer (some ⟨g6, 0, none⟩), .bool false, .bool true] (by rw [show (decide (a.Count = b.Count)) = true from Bp.dec.tt h15]) ?_
        refine OPS.batch 8 { wraps := [23, 24] } [.int .i64 a.Client, .int .i64 b.Client] [2, 3, 5] [.pointer (some ⟨g3, 0, none⟩), .pointer (some ⟨g6, 0, none⟩), .bool (decide (a.Client < b.Client))] (.cons (Ld.row1 (P := Tryd.prog) (t := 3) (o := 1) (v := .int .i64 a.Client) hp5.get1 (by kernel_rfl)) (.cons (Ld.row1 (P := Tryd.prog) (t := 3) (o := 1) (v := .int .i64 b.Client) hp5.get0 (by kernel_rfl)) .nil)) (by kernel_rfl) (fun b17 => ?_)
        refine OPS.nil ?_
        refine thn_n ?_
        exact ⟨decide (a.Client < b.Client), trivial, Bp.of Bp.dec (by first | (simp only [h10, h15, iff_false, false_iff, iff_true, true_iff, Classical.not_not, and_true, true_and, and_false, false_and, or_true, true_or, or_false, false_or, not_true_eq_false, not_false_eq_true, and_self, or_self, iff_self]; done) | (simp [h10, h15]; done) | simp_all), by kernel_rfl, hp5⟩
      · refine OPS.batch 0 {} [] [2, 3, 11, 17] [.pointer (some ⟨g3, 0, none⟩), .pointer (some ⟨g6, 0, none⟩), .bool false, .bool (decide (a.Count = b.Count))] .nil (by kernel_rfl) (fun b18 => ?_)
        refine OPS.re [.pointer (some ⟨g3, 0, none⟩), .pointer (some ⟨g6, 0, none⟩), .bool false, .bool false] (by rw [show (decide (a.Count = b.Count)) = false from Bp.dec.ff h15]) ?_
        refine OPS.batch 8 { wraps := [23, 24] } [] [2, 3, 5] [.pointer (some ⟨g3, 0, none⟩), .pointer (some ⟨g6, 0, none⟩), .bool false] .nil (by kernel_rfl) (fun b19 => ?_)
        refine OPS.nil ?_
        refine thn_n ?_
        exact ⟨false, trivial, Bp.of Bp.f (by first | (simp only [h10, h15, iff_false, false_iff, iff_true, true_iff, Classical.not_not, and_true, true_and, and_false, false_and, or_true, true_or, or_false, false_or, not_true_eq_false, not_false_eq_true, and_self, or_self, iff_self]; done) | (simp [h10, h15]; done) | simp_all), by kernel_rfl, hp5⟩
  rintro e22 w23 ⟨x20, hd25, hb21, hE26, hp24⟩
  obtain ⟨b27, rfl⟩ := toMk hE26
  clear hE26
  clear hd25
  refine WP.test (p := ((a.Count < b.Count)) ∨ ((¬ (a.Count < b.Count)) ∧ (a.Count = b.Count) ∧ (a.Client < b.Client))) rfl hb21 (fun h28 => ?_) (fun h28 => ?_)
  · refine WP.seq ?_
    refine WP.pure {} [] [4] [.int .i64 (-1)] .nil (by kernel_rfl) (fun b29 => ?_)
    refine thn_n ?_
    refine WP.ret ?_
    refine blk_r ?_
    refine thn_r ?_
    refine bodyQ.of _ rfl [.int .i64 (-1)] ⟨rfl, trivial⟩ ?_
    have hq := tagCmp_cases a b
    exact ⟨by simp only [pack]; rw [show tagCmp a b = (-1) from by omega], hp24.fr⟩
  · refine WP.seq ?_
    refine WP.pure {} [GTag.val a, GTag.val b] [25] [.bool ((decide (a.Count = b.Count)) && ((decide (a.Client = b.Client)) && true))] (.cons (show Ld Tryd.prog w23 23 ⟨g3, 0, none⟩ (GTag.val a) from Ld.rowN (cs := [.int .i64 a.Count, .int .i64 a.Client]) hp24.get1 (by kernel_rfl)) (.cons (show Ld Tryd.prog w23 23 ⟨g6, 0, none⟩ (GTag.val b) from Ld.rowN (cs := [.int .i64 b.Count, .int .i64 b.Client]) hp24.get0 (by kernel_rfl)) .nil)) (by kernel_rfl) (fun b30 => ?_)
    refine thn_n ?_
    refine WP.test (p := (a.Count = b.Count) ∧ (a.Client = b.Client)) rfl (Bp.band Bp.dec (Bp.band1 Bp.dec)) (fun h31 => ?_) (fun h31 => ?_)
    · refine WP.seq ?_
      refine WP.pure {} [] [4] [.int .i64 0] .nil (by kernel_rfl) (fun b32 => ?_)
      refine thn_n ?_
      refine WP.ret ?_
      refine blk_r ?_
      refine thn_r ?_
      refine bodyQ.of _ rfl [.int .i64 0] ⟨rfl, trivial⟩ ?_
      have hq := tagCmp_cases a b
      exact ⟨by simp only [pack]; rw [show tagCmp a b = 0 from by omega], hp24.fr⟩
    · refine WP.skip ?_
      refine blk_n ?_
      refine thn_n ?_
      refine WP.seq ?_
      refine WP.pure {} [] [4] [.int .i64 1] .nil (by kernel_rfl) (fun b33 => ?_)
      refine thn_n ?_
      refine WP.ret ?_
      refine bodyQ.of _ rfl [.int .i64 1] ⟨rfl, trivial⟩ ?_
      have hq := tagCmp_cases a b
      exact ⟨by simp only [pack]; rw [show tagCmp a b = 1 from by omega], hp24.fr⟩

theorem r8_Max (l : List GTag) (a : Option Addr) (c : Nat) (w : World) (hs : SlR w a l.length (l.flatMap GTag.cells)) (hb : l.length ≤ 8796093022207) :
    Calls Tryd.prog 18 #[.slice a l.length c] w (fun r_ w' => r_ = .returned (GTag.val (maxT l)) ∧ Fram Non w w') := by
  refine calls_of Tryd.func18 rfl 30 rfl (by simp) ?_
  have hp0 := Hp.init w
  have he0 : List.map (env0 [.slice a l.length c]) [0] = [.slice a l.length c] := by kernel_rfl
  obtain ⟨b0, he0⟩ := toMk he0
  rw [he0]
  clear he0
  refine WP.seq ?_
  refine WP.region _ rfl (by kernel_rfl) ?_
  refine OPS.cons (opStep.alloc hp0 [.int .i64 0, .int .i64 0] (by kernel_rfl) (fun g3 w1 hp2 => ?_))
  refine OPS.nil ?_
  refine thn_n ?_
  refine WP.seq ?_
  refine WP.seq ?_
  refine WP.pure {} [] [0, 2, 7] [.slice a l.length c, .pointer (some ⟨g3, 0, none⟩), .bool (decide (((l.length : Nat) : Int) = 0))] .nil (by kernel_rfl) (fun b4 => ?_)
  refine thn_n ?_
  refine WP.test (p := ((l.length : Nat) : Int) = 0) rfl Bp.dec (fun h5 => ?_) (fun h5 => ?_)
  · refine WP.seq ?_
    refine WP.region _ rfl (by kernel_rfl) ?_
    refine OPS.batch 1 {} [] [2, 8] [.pointer (some ⟨g3, 0, none⟩), .agg #[.int .i64 0, .int .i64 0]] .nil (by kernel_rfl) (fun b6 => ?_)
    refine OPS.cons (opStep.store0 hp2 rfl [.int .i64 0, .int .i64 0] [.int .i64 0, .int .i64 0] (by kernel_rfl) (fun w7 hp8 => ?_))
    refine OPS.nil ?_
    refine thn_n ?_
    refine WP.ret ?_
    refine thn_r ?_
    refine bodyQ.of _ rfl [.agg #[.int .i64 0, .int .i64 0]] ⟨⟨_, rfl, (show Ld Tryd.prog w7 23 ⟨g3, 0, none⟩ (.agg #[.int .i64 0, .int .i64 0]) from Ld.rowN (cs := [.int .i64 0, .int .i64 0]) hp8.get0 (by kernel_rfl))⟩, trivial⟩ ?_
    exact ⟨by first | (rw [show maxT l = m from by rw [h3, List.take_of_length_le (by omega)]]; rfl) | (rw [show l = [] from List.eq_nil_of_length_eq_zero (by omega)]; rfl), hp8.fr⟩
  · refine WP.skip ?_
    refine thn_n ?_
    refine WP.seq ?_
    refine WP.region _ rfl (by kernel_rfl) ?_
    obtain ⟨y11, hy12⟩ : ∃ y, (l)[0]? = some y := ⟨_, List.getElem?_eq_getElem (by first | (omega) | (simp only [List.length_append, List.length_cons, List.length_nil]; omega) | (simp only [List.length_take, List.length_append, List.length_cons, List.length_nil]; omega))⟩
    refine OPS.batch 3 {} [GTag.val y11] [0, 2, 11] [.slice a l.length c, .pointer (some ⟨g3, 0, none⟩), GTag.val y11] (.cons (show InB (0) (l.length) from ⟨by omega, by omega⟩) (.cons ((hs.at hp2).some (by omega)) (.cons (Ld.add0 (Ld.elN (P := Tryd.prog) (t := 23) (hs.at hp2).rd 2 (fun _ => rfl) hy12 (o := 0) (cs := [.int .i64 y11.Count, .int .i64 y11.Client]) (by kernel_rfl))) .nil))) (by kernel_rfl) (fun b13 => ?_)
    refine OPS.cons (opStep.alloc hp2 [.int .i64 0, .int .i64 0] (by kernel_rfl) (fun g16 w14 hp15 => ?_))
    refine OPS.cons (opStep.store0 hp15 rfl [.int .i64 y11.Count, .int .i64 y11.Client] [.int .i64 y11.Count, .int .i64 y11.Client] (by kernel_rfl) (fun w17 hp18 => ?_))
    refine OPS.nil ?_
    refine thn_n ?_
    refine WP.seq ?_
    refine WP.seq ?_
    refine WP.pure {} [] [0, 2, 3, 4] [.slice a l.length c, .pointer (some ⟨g3, 0, none⟩), .pointer (some ⟨g16, 0, none⟩), .int .i64 1] .nil (by kernel_rfl) (fun b19 => ?_)
    refine thn_n ?_
    refine WP.block ?_
    refine WP.loop (fun mz_ e20 w21 => ∃ (k : Nat) (m : GTag), mz_ = l.length - k ∧ (1 ≤ k ∧ k ≤ l.length ∧ m = maxT (l.take k)) ∧ List.map e20 [0, 2, 3, 4] = [.slice a l.length c, .pointer (some ⟨g3, 0, none⟩), .pointer (some ⟨g16, 0, none⟩), .int .i64 (k : Int)] ∧ Hp w Non [Res.row g16 [.int .i64 m.Count, .int .i64 m.Client] 23, Res.row g3 [.int .i64 0, .int .i64 0] 23] w21) (l.length - (1)) ⟨1, y11, rfl, ⟨by omega, by omega, (maxT_one hy12).symm⟩, by kernel_rfl, hp18⟩ ?_
    rintro _ e20 w21 ⟨k, m, rfl, hI23, hE24, hp22⟩
    obtain ⟨b25, rfl⟩ := toMk hE24
    clear hE24
    obtain ⟨h1, h2, h3⟩ := hI23
    refine WP.seq ?_
    refine WP.seq ?_
    refine WP.pure {} [] [0, 2, 3, 4, 15] [.slice a l.length c, .pointer (some ⟨g3, 0, none⟩), .pointer (some ⟨g16, 0, none⟩), .int .i64 (k : Int), .bool (decide ((k : Int) < ((l.length : Nat) : Int)))] .nil (by kernel_rfl) (fun b26 => ?_)
    refine thn_n ?_
    refine WP.test (p := (k : Int) < ((l.length : Nat) : Int)) rfl Bp.dec (fun h27 => ?_) (fun h27 => ?_)
    · refine WP.skip ?_
      refine thn_n ?_
      refine WP.seq ?_
      refine WP.block ?_
      refine WP.seq ?_
      have hp30 := hp22.drew
      refine WP.quiet (fun w28 => Hp w Non [Res.row g16 [.int .i64 m.Count, .int .i64 m.Client] 23, Res.row g3 [.int .i64 0, .int .i64 0] 23] w28) (by kernel_rfl) hp30 ?_
      have hnehp30 : ∃ wz_, (fun w28 => Hp w Non [Res.row g16 [.int .i64 m.Count, .int .i64 m.Client] 23, Res.row g3 [.int .i64 0, .int .i64 0] 23] w28) wz_ := ⟨_, hp30⟩
      obtain ⟨y33, hy34⟩ : ∃ y, (l)[k]? = some y := ⟨_, List.getElem?_eq_getElem (by first | (omega) | (simp only [List.length_append, List.length_cons, List.length_nil]; omega) | (simp only [List.length_take, List.length_append, List.length_cons, List.length_nil]; omega))⟩
      refine QOPS.batch 5 {} [GTag.val y33, GTag.val m] [0, 2, 3, 4, 21, 22] [.slice a l.length c, .pointer (some ⟨g3, 0, none⟩), .pointer (some ⟨g16, 0, none⟩), .int .i64 (k : Int), GTag.val y33, GTag.val m] hnehp30 (fun w31 hp32 => QB.mk (.cons (show InB ((k : Int)) (l.length) from ⟨by omega, by omega⟩) (.cons ((hs.at hp32).some (by omega)) (.cons (Ld.add0 (Ld.elN (P := Tryd.prog) (t := 23) (hs.at hp32).rd 2 (fun _ => rfl) hy34 (o := 0) (cs := [.int .i64 y33.Count, .int .i64 y33.Client]) (by kernel_rfl))) (.cons (show Ld Tryd.prog w31 23 ⟨g16, 0, none⟩ (GTag.val m) from Ld.rowN (cs := [.int .i64 m.Count, .int .i64 m.Client]) hp32.get0 (by kernel_rfl)) .nil)))) (by kernel_rfl)) (fun b35 => ?_)
      refine QOPS.call (some 23) [GTag.val y33, GTag.val m] (by kernel_rfl) (fun w36 hp37 => (r8_Compare y33 m _).mono fun _ _ h => ⟨h.1, hp37.step h.2⟩) ?_
      refine QOPS.batch 1 {} [] [0, 2, 3, 4, 24] [.slice a l.length c, .pointer (some ⟨g3, 0, none⟩), .pointer (some ⟨g16, 0, none⟩), .int .i64 (k : Int), .bool (decide (0 < (tagCmp y33 m)))] hnehp30 (fun w38 hp39 => QB.mk .nil (by kernel_rfl)) (fun b40 => ?_)
      refine QOPS.nil (fun w41 hp42 => ?_)
      refine thn_n ?_
      refine WP.test (p := 0 < (tagCmp y33 m)) rfl Bp.dec (fun h43 => ?_) (fun h43 => ?_)
      · refine WP.region _ rfl (by kernel_rfl) ?_
        refine OPS.batch 4 {} [GTag.val y33] [0, 2, 3, 4, 28] [.slice a l.length c, .pointer (some ⟨g3, 0, none⟩), .pointer (some ⟨g16, 0, none⟩), .int .i64 (k : Int), GTag.val y33] (.cons (show InB ((k : Int)) (l.length) from ⟨by omega, by omega⟩) (.cons ((hs.at hp42).some (by omega)) (.cons (Ld.add0 (Ld.elN (P := Tryd.prog) (t := 23) (hs.at hp42).rd 2 (fun _ => rfl) hy34 (o := 0) (cs := [.int .i64 y33.Count, .int .i64 y33.Client]) (by kernel_rfl))) .nil))) (by kernel_rfl) (fun b44 => ?_)
        refine OPS.cons (opStep.store0 hp42 rfl [.int .i64 y33.Count, .int .i64 y33.Client] [.int .i64 y33.Count, .int .i64 y33.Client] (by kernel_rfl) (fun w45 hp46 => ?_))
        refine OPS.nil ?_
        refine blk_n ?_
        refine thn_n ?_
        refine WP.pure {} [] [0, 2, 3, 4] [.slice a l.length c, .pointer (some ⟨g3, 0, none⟩), .pointer (some ⟨g16, 0, none⟩), .int .i64 ((k : Int) + 1)] (.cons (show Rng .i64 ((k : Int) + 1) from Rng.i64 (by omega)) .nil) (by kernel_rfl) (fun b47 => ?_)
        refine thn_n ?_
        exact ⟨l.length - (k + 1), (by omega), k + 1, y33, rfl, ⟨by omega, by omega, by rw [maxT_step h1 hy34, ← h3, if_pos h43]⟩, by kernel_rfl, hp46⟩
      · refine WP.skip ?_
        refine blk_n ?_
        refine thn_n ?_
        refine WP.pure {} [] [0, 2, 3, 4] [.slice a l.length c, .pointer (some ⟨g3, 0, none⟩), .pointer (some ⟨g16, 0, none⟩), .int .i64 ((k : Int) + 1)] (.cons (show Rng .i64 ((k : Int) + 1) from Rng.i64 (by omega)) .nil) (by kernel_rfl) (fun b48 => ?_)
        refine thn_n ?_
        exact ⟨l.length - (k + 1), (by omega), k + 1, m, rfl, ⟨by omega, by omega, by rw [maxT_step h1 hy34, ← h3, if_neg h43]⟩, by kernel_rfl, hp42⟩
    · refine WP.exit ?_
      refine thn_x ?_
      refine thn_x ?_
      refine blk_hit ?_
      refine thn_n ?_
      refine WP.seq ?_
      refine WP.region _ rfl (by kernel_rfl) ?_
      refine OPS.batch 1 {} [GTag.val m] [2, 29] [.pointer (some ⟨g3, 0, none⟩), GTag.val m] (.cons (show Ld Tryd.prog w21 23 ⟨g16, 0, none⟩ (GTag.val m) from Ld.rowN (cs := [.int .i64 m.Count, .int .i64 m.Client]) hp22.get0 (by kernel_rfl)) .nil) (by kernel_rfl) (fun b49 => ?_)
      refine OPS.cons (opStep.store1 hp22 rfl [.int .i64 m.Count, .int .i64 m.Client] [.int .i64 m.Count, .int .i64 m.Client] (by kernel_rfl) (fun w50 hp51 => ?_))
      refine OPS.nil ?_
      refine thn_n ?_
      refine WP.ret ?_
      refine bodyQ.of _ rfl [GTag.val m] ⟨⟨_, rfl, (show Ld Tryd.prog w50 23 ⟨g3, 0, none⟩ (GTag.val m) from Ld.rowN (cs := [.int .i64 m.Count, .int .i64 m.Client]) hp51.get1 (by kernel_rfl))⟩, trivial⟩ ?_
      exact ⟨by first | (rw [show maxT l = m from by rw [h3, List.take_of_length_le (by omega)]]; rfl) | (rw [show l = [] from List.eq_nil_of_length_eq_zero (by omega)]; rfl), hp51.fr⟩

theorem r8_Next (t : GTag) (used client : Int) (w : World) :
    Calls Tryd.prog 21 #[GTag.val t, .int .i64 used, .int .i64 client] w (fun x w' => ∃ (y : GTag) (e : Int), x = .returned (.tuple #[GTag.val y, .int .i64 e]) ∧ nextR t used client y e ∧ Fram Non w w') := by
  refine calls_of Tryd.func21 rfl 48 rfl (by simp) ?_
  have hp0 := Hp.init w
  have he0 : List.map (env0 [GTag.val t, .int .i64 used, .int .i64 client]) [0, 1, 2] = [GTag.val t, .int .i64 used, .int .i64 client] := by kernel_rfl
  obtain ⟨b0, he0⟩ := toMk he0
  rw [he0]
  clear he0
  refine WP.seq ?_
  refine WP.region _ rfl (by kernel_rfl) ?_
  refine OPS.cons (opStep.box hp0 [.int .i64 t.Count, .int .i64 t.Client] (by kernel_rfl) (fun g3 w1 hp2 => ?_))
  refine OPS.cons (opStep.alloc hp2 [.int .i64 0, .int .i64 0] (by kernel_rfl) (fun g6 w4 hp5 => ?_))
  refine OPS.batch 1 {} [] [1, 2, 3, 6] [.int .i64 used, .int .i64 client, .pointer (some ⟨g3, 0, none⟩), .pointer (some ⟨g6, 0, none⟩)] .nil (by kernel_rfl) (fun b7 => ?_)
  refine OPS.nil ?_
  refine thn_n ?_
  refine WP.seq ?_
  refine WP.seq ?_
  refine WP.region _ rfl (by kernel_rfl) ?_
  refine OPS.batch 1 {} [GTag.val t] [1, 2, 3, 6, 9] [.int .i64 used, .int .i64 client, .pointer (some ⟨g3, 0, none⟩), .pointer (some ⟨g6, 0, none⟩), GTag.val t] (.cons (show Ld Tryd.prog w4 23 ⟨g3, 0, none⟩ (GTag.val t) from Ld.rowN (cs := [.int .i64 t.Count, .int .i64 t.Client]) hp5.get1 (by kernel_rfl)) .nil) (by kernel_rfl) (fun b8 => ?_)
  refine OPS.cons (opStep.call (some 10) [GTag.val t] (by kernel_rfl) (r8_Valid t _) ?_)
  rintro _ w11 ⟨b14, rfl, hb15, hf12⟩
  refine ⟨_, rfl, ?_⟩
  have hp13 := hp5.step hf12
  refine OPS.batch 1 {} [] [1, 2, 3, 6, 11] [.int .i64 used, .int .i64 client, .pointer (some ⟨g3, 0, none⟩), .pointer (some ⟨g6, 0, none⟩), .bool (!b14)] .nil (by kernel_rfl) (fun b16 => ?_)
  refine OPS.nil ?_
  refine thn_n ?_
  refine WP.test (p := ¬ (tagValid t)) rfl (Bp.not hb15) (fun h17 => ?_) (fun h17 => ?_)
  · refine WP.seq ?_
    refine WP.region _ rfl (by kernel_rfl) ?_
    refine OPS.batch 1 {} [] [6, 12] [.pointer (some ⟨g6, 0, none⟩), .agg #[.int .i64 0, .int .i64 0]] .nil (by kernel_rfl) (fun b18 => ?_)
    refine OPS.cons (opStep.store0 hp13 rfl [.int .i64 0, .int .i64 0] [.int .i64 0, .int .i64 0] (by kernel_rfl) (fun w19 hp20 => ?_))
    refine OPS.batch 1 {} [] [6, 7] [.pointer (some ⟨g6, 0, none⟩), .int .i64 41] .nil (by kernel_rfl) (fun b21 => ?_)
    refine OPS.nil ?_
    refine thn_n ?_
    refine WP.ret ?_
    refine thn_r ?_
    refine bodyQ.of _ rfl [.agg #[.int .i64 0, .int .i64 0], .int .i64 41] ⟨⟨_, rfl, (show Ld Tryd.prog w19 23 ⟨g6, 0, none⟩ (.agg #[.int .i64 0, .int .i64 0]) from Ld.rowN (cs := [.int .i64 0, .int .i64 0]) hp20.get0 (by kernel_rfl))⟩, rfl, trivial⟩ ?_
    exact ⟨(⟨0, 0⟩ : GTag), 41, rfl, by have hn := nextN_cases t used client; simp only [nextR, tagValid, tagProper, tagZero, iff_false, false_iff, iff_true, true_iff, Classical.not_not, and_true, true_and, and_false, false_and, or_true, true_or, or_false, false_or, not_true_eq_false, not_false_eq_true, and_self, or_self] at *; omega, hp20.fr⟩
  · replace h17 := Classical.not_not.1 h17
    refine WP.skip ?_
    refine thn_n ?_
    refine WP.seq ?_
    refine WP.cut (fun e41 w42 => ∃ (x39 : Bool), (True) ∧ Bp x39 (((used < 0)) ∨ ((¬ (used < 0)) ∧ (4611686018427387903 < used)) ∨ ((¬ (used < 0)) ∧ (¬ (4611686018427387903 < used)) ∧ (client < 1)) ∨ ((¬ (used < 0)) ∧ (¬ (4611686018427387903 < used)) ∧ (¬ (client < 1)) ∧ (65535 < client))) ∧ List.map e41 [1, 2, 3, 6, 26] = [.int .i64 used, .int .i64 client, .pointer (some ⟨g3, 0, none⟩), .pointer (some ⟨g6, 0, none⟩), .bool x39] ∧ Hp w Non [Res.row g6 [.int .i64 0, .int .i64 0] 23, Res.row g3 [.int .i64 t.Count, .int .i64 t.Client] 23] w42) ?_ ?_
    · refine WP.region _ rfl (by kernel_rfl) ?_
      refine OPS.batch 3 {} [] [1, 2, 3, 6, 15] [.int .i64 used, .int .i64 client, .pointer (some ⟨g3, 0, none⟩), .pointer (some ⟨g6, 0, none⟩), .bool (decide (used < 0))] .nil (by kernel_rfl) (fun b23 => ?_)
      by_cases h24 : used < 0
      · refine OPS.batch 0 {} [] [1, 2, 3, 6, 15] [.int .i64 used, .int .i64 client, .pointer (some ⟨g3, 0, none⟩), .pointer (some ⟨g6, 0, none⟩), .bool (decide (used < 0))] .nil (by kernel_rfl) (fun b25 => ?_)
        refine OPS.re [.int .i64 used, .int .i64 client, .pointer (some ⟨g3, 0, none⟩), .pointer (some ⟨g6, 0, none⟩), .bool true] (by rw [show (decide (used < 0)) = true from Bp.dec.tt h24]) ?_
        refine OPS.batch 11 { wraps := [18, 22, 26] } [] [1, 2, 3, 6, 26] [.int .i64 used, .int .i64 client, .pointer (some ⟨g3, 0, none⟩), .pointer (some ⟨g6, 0, none⟩), .bool true] .nil (by kernel_rfl) (fun b26 => ?_)
        refine OPS.nil ?_
        refine thn_n ?_
        exact ⟨true, trivial, Bp.of Bp.t (by first | (simp only [h24, iff_false, false_iff, iff_true, true_iff, Classical.not_not, and_true, true_and, and_false, false_and, or_true, true_or, or_false, false_or, not_true_eq_false, not_false_eq_true, and_self, or_self, iff_self]; done) | (simp [h24]; done) | simp_all), by kernel_rfl, hp13⟩
      · refine OPS.batch 0 {} [] [1, 2, 3, 6, 15] [.int .i64 used, .int .i64 client, .pointer (some ⟨g3, 0, none⟩), .pointer (some ⟨g6, 0, none⟩), .bool (decide (used < 0))] .nil (by kernel_rfl) (fun b27 => ?_)
        refine OPS.re [.int .i64 used, .int .i64 client, .pointer (some ⟨g3, 0, none⟩), .pointer (some ⟨g6, 0, none⟩), .bool false] (by rw [show (decide (used < 0)) = false from Bp.dec.ff h24]) ?_
        refine OPS.batch 4 { wraps := [18] } [] [1, 2, 3, 6, 19] [.int .i64 used, .int .i64 client, .pointer (some ⟨g3, 0, none⟩), .pointer (some ⟨g6, 0, none⟩), .bool (decide (4611686018427387903 < used))] .nil (by kernel_rfl) (fun b28 => ?_)
        by_cases h29 : 4611686018427387903 < used
        · refine OPS.batch 0 {} [] [1, 2, 3, 6, 19] [.int .i64 used, .int .i64 client, .pointer (some ⟨g3, 0, none⟩), .pointer (some ⟨g6, 0, none⟩), .bool (decide (4611686018427387903 < used))] .nil (by kernel_rfl) (fun b30 => ?_)
          refine OPS.re [.int .i64 used, .int .i64 client, .pointer (some ⟨g3, 0, none⟩), .pointer (some ⟨g6, 0, none⟩), .bool true] (by rw [show (decide (4611686018427387903 < used)) = true from Bp.dec.tt h29]) ?_
          refine OPS.batch 7 { wraps := [22, 26] } [] [1, 2, 3, 6, 26] [.int .i64 used, .int .i64 client, .pointer (some ⟨g3, 0, none⟩), .pointer (some ⟨g6, 0, none⟩), .bool true] .nil (by kernel_rfl) (fun b31 => ?_)
          refine OPS.nil ?_
          refine thn_n ?_
          exact ⟨true, trivial, Bp.of Bp.t (by first | (simp only [h24, h29, iff_false, false_iff, iff_true, true_iff, Classical.not_not, and_true, true_and, and_false, false_and, or_true, true_or, or_false, false_or, not_true_eq_false, not_false_eq_true, and_self, or_self, iff_self]; done) | (simp [h24, h29]; done) | simp_all), by kernel_rfl, hp13⟩
        · refine OPS.batch 0 {} [] [1, 2, 3, 6, 19] [.int .i64 used, .int .i64 client, .pointer (some ⟨g3, 0, none⟩), .pointer (some ⟨g6, 0, none⟩), .bool (decide (4611686018427387903 < used))] .nil (by kernel_rfl) (fun b32 => ?_)
          refine OPS.re [.int .i64 used, .int .i64 client, .pointer (some ⟨g3, 0, none⟩), .pointer (some ⟨g6, 0, none⟩), .bool false] (by rw [show (decide (4611686018427387903 < used)) = false from Bp.dec.ff h29]) ?_
          refine OPS.batch 4 { wraps := [22] } [] [1, 2, 3, 6, 23] [.int .i64 used, .int .i64 client, .pointer (some ⟨g3, 0, none⟩), .pointer (some ⟨g6, 0, none⟩), .bool (decide (client < 1))] .nil (by kernel_rfl) (fun b33 => ?_)
          by_cases h34 : client < 1
          · refine OPS.batch 0 {} [] [1, 2, 3, 6, 23] [.int .i64 used, .int .i64 client, .pointer (some ⟨g3, 0, none⟩), .pointer (some ⟨g6, 0, none⟩), .bool (decide (client < 1))] .nil (by kernel_rfl) (fun b35 => ?_)
            refine OPS.re [.int .i64 used, .int .i64 client, .pointer (some ⟨g3, 0, none⟩), .pointer (some ⟨g6, 0, none⟩), .bool true] (by rw [show (decide (client < 1)) = true from Bp.dec.tt h34]) ?_
            refine OPS.batch 3 { wraps := [26] } [] [1, 2, 3, 6, 26] [.int .i64 used, .int .i64 client, .pointer (some ⟨g3, 0, none⟩), .pointer (some ⟨g6, 0, none⟩), .bool true] .nil (by kernel_rfl) (fun b36 => ?_)
            refine OPS.nil ?_
            refine thn_n ?_
            exact ⟨true, trivial, Bp.of Bp.t (by first | (simp only [h24, h29, h34, iff_false, false_iff, iff_true, true_iff, Classical.not_not, and_true, true_and, and_false, false_and, or_true, true_or, or_false, false_or, not_true_eq_false, not_false_eq_true, and_self, or_self, iff_self]; done) | (simp [h24, h29, h34]; done) | simp_all), by kernel_rfl, hp13⟩
          · refine OPS.batch 0 {} [] [1, 2, 3, 6, 23] [.int .i64 used, .int .i64 client, .pointer (some ⟨g3, 0, none⟩), .pointer (some ⟨g6, 0, none⟩), .bool (decide (client < 1))] .nil (by kernel_rfl) (fun b37 => ?_)
            refine OPS.re [.int .i64 used, .int .i64 client, .pointer (some ⟨g3, 0, none⟩), .pointer (some ⟨g6, 0, none⟩), .bool false] (by rw [show (decide (client < 1)) = false from Bp.dec.ff h34]) ?_
            refine OPS.batch 3 { wraps := [26] } [] [1, 2, 3, 6, 26] [.int .i64 used, .int .i64 client, .pointer (some ⟨g3, 0, none⟩), .pointer (some ⟨g6, 0, none⟩), .bool (decide (65535 < client))] .nil (by kernel_rfl) (fun b38 => ?_)
            refine OPS.nil ?_
            refine thn_n ?_
            exact ⟨decide (65535 < client), trivial, Bp.of Bp.dec (by first | (simp only [h24, h29, h34, iff_false, false_iff, iff_true, true_iff, Classical.not_not, and_true, true_and, and_false, false_and, or_true, true_or, or_false, false_or, not_true_eq_false, not_false_eq_true, and_self, or_self, iff_self]; done) | (simp [h24, h29, h34]; done) | simp_all), by kernel_rfl, hp13⟩
    rintro e41 w42 ⟨x39, hd44, hb40, hE45, hp43⟩
    obtain ⟨b46, rfl⟩ := toMk hE45
    clear hE45
    clear hd44
    refine WP.test (p := ((used < 0)) ∨ ((¬ (used < 0)) ∧ (4611686018427387903 < used)) ∨ ((¬ (used < 0)) ∧ (¬ (4611686018427387903 < used)) ∧ (client < 1)) ∨ ((¬ (used < 0)) ∧ (¬ (4611686018427387903 < used)) ∧ (¬ (client < 1)) ∧ (65535 < client))) rfl hb40 (fun h47 => ?_) (fun h47 => ?_)
    · refine WP.seq ?_
      refine WP.region _ rfl (by kernel_rfl) ?_
      refine OPS.batch 1 {} [] [6, 27] [.pointer (some ⟨g6, 0, none⟩), .agg #[.int .i64 0, .int .i64 0]] .nil (by kernel_rfl) (fun b48 => ?_)
      refine OPS.cons (opStep.store0 hp43 rfl [.int .i64 0, .int .i64 0] [.int .i64 0, .int .i64 0] (by kernel_rfl) (fun w49 hp50 => ?_))
      refine OPS.batch 1 {} [] [6, 7] [.pointer (some ⟨g6, 0, none⟩), .int .i64 1] .nil (by kernel_rfl) (fun b51 => ?_)
      refine OPS.nil ?_
      refine thn_n ?_
      refine WP.ret ?_
      refine thn_r ?_
      refine bodyQ.of _ rfl [.agg #[.int .i64 0, .int .i64 0], .int .i64 1] ⟨⟨_, rfl, (show Ld Tryd.prog w49 23 ⟨g6, 0, none⟩ (.agg #[.int .i64 0, .int .i64 0]) from Ld.rowN (cs := [.int .i64 0, .int .i64 0]) hp50.get0 (by kernel_rfl))⟩, rfl, trivial⟩ ?_
      exact ⟨(⟨0, 0⟩ : GTag), 1, rfl, by have hn := nextN_cases t used client; simp only [nextR, tagValid, tagProper, tagZero, iff_false, false_iff, iff_true, true_iff, Classical.not_not, and_true, true_and, and_false, false_and, or_true, true_or, or_false, false_or, not_true_eq_false, not_false_eq_true, and_self, or_self] at *; omega, hp50.fr⟩
    · refine WP.skip ?_
      refine thn_n ?_
      refine WP.seq ?_
      refine WP.pure {} [.int .i64 t.Count] [1, 2, 3, 6, 8] [.int .i64 used, .int .i64 client, .pointer (some ⟨g3, 0, none⟩), .pointer (some ⟨g6, 0, none⟩), .int .i64 t.Count] (.cons (Ld.row1 (P := Tryd.prog) (t := 2) (o := 0) (v := .int .i64 t.Count) hp43.get1 (by kernel_rfl)) .nil) (by kernel_rfl) (fun b52 => ?_)
      refine thn_n ?_
      refine WP.seq ?_
      refine WP.seq ?_
      refine WP.pure {} [.int .i64 t.Client] [1, 2, 3, 6, 8, 33] [.int .i64 used, .int .i64 client, .pointer (some ⟨g3, 0, none⟩), .pointer (some ⟨g6, 0, none⟩), .int .i64 t.Count, .bool (decide (client ≤ t.Client))] (.cons (Ld.row1 (P := Tryd.prog) (t := 3) (o := 1) (v := .int .i64 t.Client) hp43.get1 (by kernel_rfl)) .nil) (by kernel_rfl) (fun b53 => ?_)
      refine thn_n ?_
      refine WP.test (p := client ≤ t.Client) rfl Bp.dec (fun h54 => ?_) (fun h54 => ?_)
      · refine WP.pure {} [.int .i64 t.Count] [1, 2, 6, 8] [.int .i64 used, .int .i64 client, .pointer (some ⟨g6, 0, none⟩), .int .i64 (t.Count + 1)] (.cons (Ld.row1 (P := Tryd.prog) (t := 2) (o := 0) (v := .int .i64 t.Count) hp43.get1 (by kernel_rfl)) (.cons (show Rng .i64 (t.Count + 1) from Rng.i64 (by (simp only [tagValid, tagProper, tagZero] at *; omega))) .nil)) (by kernel_rfl) (fun b55 => ?_)
        refine thn_n ?_
        refine WP.seq ?_
        refine WP.seq ?_
        refine WP.pure {} [] [1, 2, 6, 8, 39] [.int .i64 used, .int .i64 client, .pointer (some ⟨g6, 0, none⟩), .int .i64 (t.Count + 1), .bool (decide ((t.Count + 1) ≤ used))] .nil (by kernel_rfl) (fun b56 => ?_)
        refine thn_n ?_
        refine WP.test (p := (t.Count + 1) ≤ used) rfl Bp.dec (fun h57 => ?_) (fun h57 => ?_)
        · refine WP.pure {} [] [2, 6, 8] [.int .i64 client, .pointer (some ⟨g6, 0, none⟩), .int .i64 (used + 1)] (.cons (show Rng .i64 (used + 1) from Rng.i64 (by (simp only [tagValid, tagProper, tagZero] at *; omega))) .nil) (by kernel_rfl) (fun b58 => ?_)
          refine thn_n ?_
          refine WP.seq ?_
          refine WP.seq ?_
          refine WP.pure {} [] [2, 6, 8, 43] [.int .i64 client, .pointer (some ⟨g6, 0, none⟩), .int .i64 (used + 1), .bool (decide (4611686018427387903 < (used + 1)))] .nil (by kernel_rfl) (fun b59 => ?_)
          refine thn_n ?_
          refine WP.test (p := 4611686018427387903 < (used + 1)) rfl Bp.dec (fun h60 => ?_) (fun h60 => ?_)
          · refine WP.seq ?_
            refine WP.region _ rfl (by kernel_rfl) ?_
            refine OPS.batch 1 {} [] [6, 44] [.pointer (some ⟨g6, 0, none⟩), .agg #[.int .i64 0, .int .i64 0]] .nil (by kernel_rfl) (fun b61 => ?_)
            refine OPS.cons (opStep.store0 hp43 rfl [.int .i64 0, .int .i64 0] [.int .i64 0, .int .i64 0] (by kernel_rfl) (fun w62 hp63 => ?_))
            refine OPS.batch 1 {} [] [6, 7] [.pointer (some ⟨g6, 0, none⟩), .int .i64 42] .nil (by kernel_rfl) (fun b64 => ?_)
            refine OPS.nil ?_
            refine thn_n ?_
            refine WP.ret ?_
            refine thn_r ?_
            refine bodyQ.of _ rfl [.agg #[.int .i64 0, .int .i64 0], .int .i64 42] ⟨⟨_, rfl, (show Ld Tryd.prog w62 23 ⟨g6, 0, none⟩ (.agg #[.int .i64 0, .int .i64 0]) from Ld.rowN (cs := [.int .i64 0, .int .i64 0]) hp63.get0 (by kernel_rfl))⟩, rfl, trivial⟩ ?_
            exact ⟨(⟨0, 0⟩ : GTag), 42, rfl, by have hn := nextN_cases t used client; simp only [nextR, tagValid, tagProper, tagZero, iff_false, false_iff, iff_true, true_iff, Classical.not_not, and_true, true_and, and_false, false_and, or_true, true_or, or_false, false_or, not_true_eq_false, not_false_eq_true, and_self, or_self] at *; omega, hp63.fr⟩
          · refine WP.skip ?_
            refine thn_n ?_
            refine WP.seq ?_
            refine WP.region _ rfl (by kernel_rfl) ?_
            refine OPS.batch 3 {} [] [6, 47] [.pointer (some ⟨g6, 0, none⟩), .agg #[.int .i64 (used + 1), .int .i64 client]] .nil (by kernel_rfl) (fun b65 => ?_)
            refine OPS.cons (opStep.store0 hp43 rfl [.int .i64 (used + 1), .int .i64 client] [.int .i64 (used + 1), .int .i64 client] (by kernel_rfl) (fun w66 hp67 => ?_))
            refine OPS.batch 1 {} [] [6, 7] [.pointer (some ⟨g6, 0, none⟩), .int .i64 0] .nil (by kernel_rfl) (fun b68 => ?_)
            refine OPS.nil ?_
            refine thn_n ?_
            refine WP.ret ?_
            refine bodyQ.of _ rfl [.agg #[.int .i64 (used + 1), .int .i64 client], .int .i64 0] ⟨⟨_, rfl, (show Ld Tryd.prog w66 23 ⟨g6, 0, none⟩ (.agg #[.int .i64 (used + 1), .int .i64 client]) from Ld.rowN (cs := [.int .i64 (used + 1), .int .i64 client]) hp67.get0 (by kernel_rfl))⟩, rfl, trivial⟩ ?_
            exact ⟨(⟨used + 1, client⟩ : GTag), 0, rfl, by have hn := nextN_cases t used client; simp only [nextR, tagValid, tagProper, tagZero, iff_false, false_iff, iff_true, true_iff, Classical.not_not, and_true, true_and, and_false, false_and, or_true, true_or, or_false, false_or, not_true_eq_false, not_false_eq_true, and_self, or_self] at *; omega, hp67.fr⟩
        · refine WP.skip ?_
          refine thn_n ?_
          refine WP.seq ?_
          refine WP.seq ?_
          refine WP.pure {} [] [2, 6, 8, 43] [.int .i64 client, .pointer (some ⟨g6, 0, none⟩), .int .i64 (t.Count + 1), .bool (decide (4611686018427387903 < (t.Count + 1)))] .nil (by kernel_rfl) (fun b69 => ?_)
          refine thn_n ?_
          refine WP.test (p := 4611686018427387903 < (t.Count + 1)) rfl Bp.dec (fun h70 => ?_) (fun h70 => ?_)
          · refine WP.seq ?_
            refine WP.region _ rfl (by kernel_rfl) ?_
            refine OPS.batch 1 {} [] [6, 44] [.pointer (some ⟨g6, 0, none⟩), .agg #[.int .i64 0, .int .i64 0]] .nil (by kernel_rfl) (fun b71 => ?_)
            refine OPS.cons (opStep.store0 hp43 rfl [.int .i64 0, .int .i64 0] [.int .i64 0, .int .i64 0] (by kernel_rfl) (fun w72 hp73 => ?_))
            refine OPS.batch 1 {} [] [6, 7] [.pointer (some ⟨g6, 0, none⟩), .int .i64 42] .nil (by kernel_rfl) (fun b74 => ?_)
            refine OPS.nil ?_
            refine thn_n ?_
            refine WP.ret ?_
            refine thn_r ?_
            refine bodyQ.of _ rfl [.agg #[.int .i64 0, .int .i64 0], .int .i64 42] ⟨⟨_, rfl, (show Ld Tryd.prog w72 23 ⟨g6, 0, none⟩ (.agg #[.int .i64 0, .int .i64 0]) from Ld.rowN (cs := [.int .i64 0, .int .i64 0]) hp73.get0 (by kernel_rfl))⟩, rfl, trivial⟩ ?_
            exact ⟨(⟨0, 0⟩ : GTag), 42, rfl, by have hn := nextN_cases t used client; simp only [nextR, tagValid, tagProper, tagZero, iff_false, false_iff, iff_true, true_iff, Classical.not_not, and_true, true_and, and_false, false_and, or_true, true_or, or_false, false_or, not_true_eq_false, not_false_eq_true, and_self, or_self] at *; omega, hp73.fr⟩
          · refine WP.skip ?_
            refine thn_n ?_
            refine WP.seq ?_
            refine WP.region _ rfl (by kernel_rfl) ?_
            refine OPS.batch 3 {} [] [6, 47] [.pointer (some ⟨g6, 0, none⟩), .agg #[.int .i64 (t.Count + 1), .int .i64 client]] .nil (by kernel_rfl) (fun b75 => ?_)
            refine OPS.cons (opStep.store0 hp43 rfl [.int .i64 (t.Count + 1), .int .i64 client] [.int .i64 (t.Count + 1), .int .i64 client] (by kernel_rfl) (fun w76 hp77 => ?_))
            refine OPS.batch 1 {} [] [6, 7] [.pointer (some ⟨g6, 0, none⟩), .int .i64 0] .nil (by kernel_rfl) (fun b78 => ?_)
            refine OPS.nil ?_
            refine thn_n ?_
            refine WP.ret ?_
            refine bodyQ.of _ rfl [.agg #[.int .i64 (t.Count + 1), .int .i64 client], .int .i64 0] ⟨⟨_, rfl, (show Ld Tryd.prog w76 23 ⟨g6, 0, none⟩ (.agg #[.int .i64 (t.Count + 1), .int .i64 client]) from Ld.rowN (cs := [.int .i64 (t.Count + 1), .int .i64 client]) hp77.get0 (by kernel_rfl))⟩, rfl, trivial⟩ ?_
            exact ⟨(⟨t.Count + 1, client⟩ : GTag), 0, rfl, by have hn := nextN_cases t used client; simp only [nextR, tagValid, tagProper, tagZero, iff_false, false_iff, iff_true, true_iff, Classical.not_not, and_true, true_and, and_false, false_and, or_true, true_or, or_false, false_or, not_true_eq_false, not_false_eq_true, and_self, or_self] at *; omega, hp77.fr⟩
      · refine WP.skip ?_
        refine thn_n ?_
        refine WP.seq ?_
        refine WP.seq ?_
        refine WP.pure {} [] [1, 2, 6, 8, 39] [.int .i64 used, .int .i64 client, .pointer (some ⟨g6, 0, none⟩), .int .i64 t.Count, .bool (decide (t.Count ≤ used))] .nil (by kernel_rfl) (fun b79 => ?_)
        refine thn_n ?_
        refine WP.test (p := t.Count ≤ used) rfl Bp.dec (fun h80 => ?_) (fun h80 => ?_)
        · refine WP.pure {} [] [2, 6, 8] [.int .i64 client, .pointer (some ⟨g6, 0, none⟩), .int .i64 (used + 1)] (.cons (show Rng .i64 (used + 1) from Rng.i64 (by (simp only [tagValid, tagProper, tagZero] at *; omega))) .nil) (by kernel_rfl) (fun b81 => ?_)
          refine thn_n ?_
          refine WP.seq ?_
          refine WP.seq ?_
          refine WP.pure {} [] [2, 6, 8, 43] [.int .i64 client, .pointer (some ⟨g6, 0, none⟩), .int .i64 (used + 1), .bool (decide (4611686018427387903 < (used + 1)))] .nil (by kernel_rfl) (fun b82 => ?_)
          refine thn_n ?_
          refine WP.test (p := 4611686018427387903 < (used + 1)) rfl Bp.dec (fun h83 => ?_) (fun h83 => ?_)
          · refine WP.seq ?_
            refine WP.region _ rfl (by kernel_rfl) ?_
            refine OPS.batch 1 {} [] [6, 44] [.pointer (some ⟨g6, 0, none⟩), .agg #[.int .i64 0, .int .i64 0]] .nil (by kernel_rfl) (fun b84 => ?_)
            refine OPS.cons (opStep.store0 hp43 rfl [.int .i64 0, .int .i64 0] [.int .i64 0, .int .i64 0] (by kernel_rfl) (fun w85 hp86 => ?_))
            refine OPS.batch 1 {} [] [6, 7] [.pointer (some ⟨g6, 0, none⟩), .int .i64 42] .nil (by kernel_rfl) (fun b87 => ?_)
            refine OPS.nil ?_
            refine thn_n ?_
            refine WP.ret ?_
            refine thn_r ?_
            refine bodyQ.of _ rfl [.agg #[.int .i64 0, .int .i64 0], .int .i64 42] ⟨⟨_, rfl, (show Ld Tryd.prog w85 23 ⟨g6, 0, none⟩ (.agg #[.int .i64 0, .int .i64 0]) from Ld.rowN (cs := [.int .i64 0, .int .i64 0]) hp86.get0 (by kernel_rfl))⟩, rfl, trivial⟩ ?_
            exact ⟨(⟨0, 0⟩ : GTag), 42, rfl, by have hn := nextN_cases t used client; simp only [nextR, tagValid, tagProper, tagZero, iff_false, false_iff, iff_true, true_iff, Classical.not_not, and_true, true_and, and_false, false_and, or_true, true_or, or_false, false_or, not_true_eq_false, not_false_eq_true, and_self, or_self] at *; omega, hp86.fr⟩
          · refine WP.skip ?_
            refine thn_n ?_
            refine WP.seq ?_
            refine WP.region _ rfl (by kernel_rfl) ?_
            refine OPS.batch 3 {} [] [6, 47] [.pointer (some ⟨g6, 0, none⟩), .agg #[.int .i64 (used + 1), .int .i64 client]] .nil (by kernel_rfl) (fun b88 => ?_)
            refine OPS.cons (opStep.store0 hp43 rfl [.int .i64 (used + 1), .int .i64 client] [.int .i64 (used + 1), .int .i64 client] (by kernel_rfl) (fun w89 hp90 => ?_))
            refine OPS.batch 1 {} [] [6, 7] [.pointer (some ⟨g6, 0, none⟩), .int .i64 0] .nil (by kernel_rfl) (fun b91 => ?_)
            refine OPS.nil ?_
            refine thn_n ?_
            refine WP.ret ?_
            refine bodyQ.of _ rfl [.agg #[.int .i64 (used + 1), .int .i64 client], .int .i64 0] ⟨⟨_, rfl, (show Ld Tryd.prog w89 23 ⟨g6, 0, none⟩ (.agg #[.int .i64 (used + 1), .int .i64 client]) from Ld.rowN (cs := [.int .i64 (used + 1), .int .i64 client]) hp90.get0 (by kernel_rfl))⟩, rfl, trivial⟩ ?_
            exact ⟨(⟨used + 1, client⟩ : GTag), 0, rfl, by have hn := nextN_cases t used client; simp only [nextR, tagValid, tagProper, tagZero, iff_false, false_iff, iff_true, true_iff, Classical.not_not, and_true, true_and, and_false, false_and, or_true, true_or, or_false, false_or, not_true_eq_false, not_false_eq_true, and_self, or_self] at *; omega, hp90.fr⟩
        · refine WP.skip ?_
          refine thn_n ?_
          refine WP.seq ?_
          refine WP.seq ?_
          refine WP.pure {} [] [2, 6, 8, 43] [.int .i64 client, .pointer (some ⟨g6, 0, none⟩), .int .i64 t.Count, .bool (decide (4611686018427387903 < t.Count))] .nil (by kernel_rfl) (fun b92 => ?_)
          refine thn_n ?_
          refine WP.test (p := 4611686018427387903 < t.Count) rfl Bp.dec (fun h93 => ?_) (fun h93 => ?_)
          · refine WP.seq ?_
            refine WP.region _ rfl (by kernel_rfl) ?_
            refine OPS.batch 1 {} [] [6, 44] [.pointer (some ⟨g6, 0, none⟩), .agg #[.int .i64 0, .int .i64 0]] .nil (by kernel_rfl) (fun b94 => ?_)
            refine OPS.cons (opStep.store0 hp43 rfl [.int .i64 0, .int .i64 0] [.int .i64 0, .int .i64 0] (by kernel_rfl) (fun w95 hp96 => ?_))
            refine OPS.batch 1 {} [] [6, 7] [.pointer (some ⟨g6, 0, none⟩), .int .i64 42] .nil (by kernel_rfl) (fun b97 => ?_)
            refine OPS.nil ?_
            refine thn_n ?_
            refine WP.ret ?_
            refine thn_r ?_
            refine bodyQ.of _ rfl [.agg #[.int .i64 0, .int .i64 0], .int .i64 42] ⟨⟨_, rfl, (show Ld Tryd.prog w95 23 ⟨g6, 0, none⟩ (.agg #[.int .i64 0, .int .i64 0]) from Ld.rowN (cs := [.int .i64 0, .int .i64 0]) hp96.get0 (by kernel_rfl))⟩, rfl, trivial⟩ ?_
            exact ⟨(⟨0, 0⟩ : GTag), 42, rfl, by have hn := nextN_cases t used client; simp only [nextR, tagValid, tagProper, tagZero, iff_false, false_iff, iff_true, true_iff, Classical.not_not, and_true, true_and, and_false, false_and, or_true, true_or, or_false, false_or, not_true_eq_false, not_false_eq_true, and_self, or_self] at *; omega, hp96.fr⟩
          · refine WP.skip ?_
            refine thn_n ?_
            refine WP.seq ?_
            refine WP.region _ rfl (by kernel_rfl) ?_
            refine OPS.batch 3 {} [] [6, 47] [.pointer (some ⟨g6, 0, none⟩), .agg #[.int .i64 t.Count, .int .i64 client]] .nil (by kernel_rfl) (fun b98 => ?_)
            refine OPS.cons (opStep.store0 hp43 rfl [.int .i64 t.Count, .int .i64 client] [.int .i64 t.Count, .int .i64 client] (by kernel_rfl) (fun w99 hp100 => ?_))
            refine OPS.batch 1 {} [] [6, 7] [.pointer (some ⟨g6, 0, none⟩), .int .i64 0] .nil (by kernel_rfl) (fun b101 => ?_)
            refine OPS.nil ?_
            refine thn_n ?_
            refine WP.ret ?_
            refine bodyQ.of _ rfl [.agg #[.int .i64 t.Count, .int .i64 client], .int .i64 0] ⟨⟨_, rfl, (show Ld Tryd.prog w99 23 ⟨g6, 0, none⟩ (.agg #[.int .i64 t.Count, .int .i64 client]) from Ld.rowN (cs := [.int .i64 t.Count, .int .i64 client]) hp100.get0 (by kernel_rfl))⟩, rfl, trivial⟩ ?_
            exact ⟨(⟨t.Count, client⟩ : GTag), 0, rfl, by have hn := nextN_cases t used client; simp only [nextR, tagValid, tagProper, tagZero, iff_false, false_iff, iff_true, true_iff, Classical.not_not, and_true, true_and, and_false, false_and, or_true, true_or, or_false, false_or, not_true_eq_false, not_false_eq_true, and_self, or_self] at *; omega, hp100.fr⟩

end Go.Proofs.YtpmcjhjlajmljaaDoorRRRR.K
