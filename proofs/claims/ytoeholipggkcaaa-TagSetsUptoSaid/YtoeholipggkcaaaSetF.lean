/- The walks of SetF: what each function computes. -/
import Derived.Test.YtoeholipggkcaaaProg
import Derived.Test.YtoeholipggkcaaaCoreO
import Derived.Test.YtoeholipggkcaaaSetE
namespace Go.Proofs.Ytoeholipggkcaaa.K
open Go Go.Proofs Go.RowKit
set_option linter.unusedVariables false
set_option linter.unusedSimpArgs false
set_option maxRecDepth 20000
set_option maxHeartbeats 4000000

theorem r8_proper (t : GTag) (w : World) :
    Calls Try.prog 34 #[GTag.val t] w (fun r_ w' => ∃ f_, r_ = .returned (.bool f_) ∧ Bp f_ (tagProper t) ∧ Fram Non w w') := by
  refine calls_of Try.func34 rfl 21 rfl (by simp) ?_
  have hp0 := Hp.init w
  have he0 : List.map (env0 [GTag.val t]) [0] = [GTag.val t] := by kernel_rfl
  obtain ⟨b0, he0⟩ := toMk he0
  rw [he0]
  clear he0
  refine WP.seq ?_
  refine WP.region _ rfl (by kernel_rfl) ?_
  refine OPS.cons (opStep.box hp0 [.int .i64 t.Count, .int .i64 t.Client] (by kernel_rfl) (fun g3 w1 hp2 => ?_))
  refine OPS.batch 1 {} [] [1] [.pointer (some ⟨g3, 0, none⟩)] .nil (by kernel_rfl) (fun b4 => ?_)
  refine OPS.nil ?_
  refine thn_n ?_
  refine WP.cut (fun e24 w25 => ∃ (x22 : Bool), (True) ∧ Bp x22 ((1 ≤ t.Count) ∧ (t.Count ≤ 4611686018427387903) ∧ (1 ≤ t.Client) ∧ (t.Client ≤ 65535)) ∧ List.map e24 [2] = [.bool x22] ∧ Hp w Non [Res.row g3 [.int .i64 t.Count, .int .i64 t.Client] 29] w25) ?_ ?_
  · refine WP.region _ rfl (by kernel_rfl) ?_
    refine OPS.batch 4 {} [.int .i64 t.Count] [1, 6] [.pointer (some ⟨g3, 0, none⟩), .bool (decide (1 ≤ t.Count))] (.cons (Ld.row1 (P := Try.prog) (t := 2) (o := 0) (v := .int .i64 t.Count) hp2.get0 (by kernel_rfl)) .nil) (by kernel_rfl) (fun b6 => ?_)
    by_cases h7 : 1 ≤ t.Count
    · refine OPS.batch 0 {} [] [1, 6] [.pointer (some ⟨g3, 0, none⟩), .bool (decide (1 ≤ t.Count))] .nil (by kernel_rfl) (fun b8 => ?_)
      refine OPS.re [.pointer (some ⟨g3, 0, none⟩), .bool true] (by rw [show (decide (1 ≤ t.Count)) = true from Bp.dec.tt h7]) ?_
      refine OPS.batch 5 { wraps := [10] } [.int .i64 t.Count] [1, 11] [.pointer (some ⟨g3, 0, none⟩), .bool (decide (t.Count ≤ 4611686018427387903))] (.cons (Ld.row1 (P := Try.prog) (t := 2) (o := 0) (v := .int .i64 t.Count) hp2.get0 (by kernel_rfl)) .nil) (by kernel_rfl) (fun b9 => ?_)
      by_cases h10 : t.Count ≤ 4611686018427387903
      · refine OPS.batch 0 {} [] [1, 11] [.pointer (some ⟨g3, 0, none⟩), .bool (decide (t.Count ≤ 4611686018427387903))] .nil (by kernel_rfl) (fun b11 => ?_)
        refine OPS.re [.pointer (some ⟨g3, 0, none⟩), .bool true] (by rw [show (decide (t.Count ≤ 4611686018427387903)) = true from Bp.dec.tt h10]) ?_
        refine OPS.batch 5 { wraps := [15] } [.int .i64 t.Client] [1, 16] [.pointer (some ⟨g3, 0, none⟩), .bool (decide (1 ≤ t.Client))] (.cons (Ld.row1 (P := Try.prog) (t := 3) (o := 1) (v := .int .i64 t.Client) hp2.get0 (by kernel_rfl)) .nil) (by kernel_rfl) (fun b12 => ?_)
        by_cases h13 : 1 ≤ t.Client
        · refine OPS.batch 0 {} [] [1, 16] [.pointer (some ⟨g3, 0, none⟩), .bool (decide (1 ≤ t.Client))] .nil (by kernel_rfl) (fun b14 => ?_)
          refine OPS.re [.pointer (some ⟨g3, 0, none⟩), .bool true] (by rw [show (decide (1 ≤ t.Client)) = true from Bp.dec.tt h13]) ?_
          refine OPS.batch 5 { wraps := [20] } [.int .i64 t.Client] [2] [.bool (decide (t.Client ≤ 65535))] (.cons (Ld.row1 (P := Try.prog) (t := 3) (o := 1) (v := .int .i64 t.Client) hp2.get0 (by kernel_rfl)) .nil) (by kernel_rfl) (fun b15 => ?_)
          refine OPS.nil ?_
          refine thn_n ?_
          exact ⟨decide (t.Client ≤ 65535), trivial, Bp.of Bp.dec (by first | (simp only [h7, h10, h13, iff_false, false_iff, iff_true, true_iff, Classical.not_not, and_true, true_and, and_false, false_and, or_true, true_or, or_false, false_or, not_true_eq_false, not_false_eq_true, and_self, or_self, iff_self]; done) | (simp [h7, h10, h13]; done) | grind | (simp_all; done)), by kernel_rfl, hp2⟩
        · refine OPS.batch 0 {} [] [1, 16] [.pointer (some ⟨g3, 0, none⟩), .bool (decide (1 ≤ t.Client))] .nil (by kernel_rfl) (fun b16 => ?_)
          refine OPS.re [.pointer (some ⟨g3, 0, none⟩), .bool false] (by rw [show (decide (1 ≤ t.Client)) = false from Bp.dec.ff h13]) ?_
          refine OPS.batch 5 { wraps := [20] } [] [2] [.bool false] .nil (by kernel_rfl) (fun b17 => ?_)
          refine OPS.nil ?_
          refine thn_n ?_
          exact ⟨false, trivial, Bp.of Bp.f (by first | (simp only [h7, h10, h13, iff_false, false_iff, iff_true, true_iff, Classical.not_not, and_true, true_and, and_false, false_and, or_true, true_or, or_false, false_or, not_true_eq_false, not_false_eq_true, and_self, or_self, iff_self]; done) | (simp [h7, h10, h13]; done) | grind | (simp_all; done)), by kernel_rfl, hp2⟩
      · refine OPS.batch 0 {} [] [1, 11] [.pointer (some ⟨g3, 0, none⟩), .bool (decide (t.Count ≤ 4611686018427387903))] .nil (by kernel_rfl) (fun b18 => ?_)
        refine OPS.re [.pointer (some ⟨g3, 0, none⟩), .bool false] (by rw [show (decide (t.Count ≤ 4611686018427387903)) = false from Bp.dec.ff h10]) ?_
        refine OPS.batch 10 { wraps := [15, 20] } [] [2] [.bool false] .nil (by kernel_rfl) (fun b19 => ?_)
        refine OPS.nil ?_
        refine thn_n ?_
        exact ⟨false, trivial, Bp.of Bp.f (by first | (simp only [h7, h10, iff_false, false_iff, iff_true, true_iff, Classical.not_not, and_true, true_and, and_false, false_and, or_true, true_or, or_false, false_or, not_true_eq_false, not_false_eq_true, and_self, or_self, iff_self]; done) | (simp [h7, h10]; done) | grind | (simp_all; done)), by kernel_rfl, hp2⟩
    · refine OPS.batch 0 {} [] [1, 6] [.pointer (some ⟨g3, 0, none⟩), .bool (decide (1 ≤ t.Count))] .nil (by kernel_rfl) (fun b20 => ?_)
      refine OPS.re [.pointer (some ⟨g3, 0, none⟩), .bool false] (by rw [show (decide (1 ≤ t.Count)) = false from Bp.dec.ff h7]) ?_
      refine OPS.batch 15 { wraps := [10, 15, 20] } [] [2] [.bool false] .nil (by kernel_rfl) (fun b21 => ?_)
      refine OPS.nil ?_
      refine thn_n ?_
      exact ⟨false, trivial, Bp.of Bp.f (by first | (simp only [h7, iff_false, false_iff, iff_true, true_iff, Classical.not_not, and_true, true_and, and_false, false_and, or_true, true_or, or_false, false_or, not_true_eq_false, not_false_eq_true, and_self, or_self, iff_self]; done) | (simp [h7]; done) | grind | (simp_all; done)), by kernel_rfl, hp2⟩
  rintro e24 w25 ⟨x22, hd27, hb23, hE28, hp26⟩
  obtain ⟨b29, rfl⟩ := toMk hE28
  clear hE28
  clear hd27
  refine WP.ret ?_
  refine bodyQ.of _ rfl [.bool x22] ⟨rfl, trivial⟩ ?_
  exact ⟨_, rfl, Bp.of hb23 (by first | (simp only [tagProper, false_iff, true_iff]; done) | (simp only [tagProper, false_iff, true_iff]; omega)), hp26.fr⟩

theorem r8_Compare (a b : GTag) (w : World) :
    Calls Try.prog 39 #[GTag.val a, GTag.val b] w (fun r_ w' => r_ = .returned (.int .i64 (tagCmp a b)) ∧ Fram Non w w') := by
  refine calls_of Try.func39 rfl 29 rfl (by simp) ?_
  have hp0 := Hp.init w
  have he0 : List.map (env0 [GTag.val a, GTag.val b]) [0, 1] = [GTag.val a, GTag.val b] := by kernel_rfl
  obtain ⟨b0, he0⟩ := toMk he0
  rw [he0]
  clear he0
  refine WP.seq ?_
  refine WP.region _ rfl (by kernel_rfl) ?_
  refine OPS.cons (opStep.box hp0 [.int .i64 a.Count, .int .i64 a.Client] (by kernel_rfl) (fun g3 w1 hp2 => ?_))
  refine OPS.cons (opStep.box hp2 [.int .i64 b.Count, .int .i64 b.Client] (by kernel_rfl) (fun g6 w4 hp5 => ?_))
  refine OPS.batch 1 {} [] [2, 3] [.pointer (some ⟨g3, 0, none⟩), .pointer (some ⟨g6, 0, none⟩)] .nil (by kernel_rfl) (fun b7 => ?_)
  refine OPS.nil ?_
  refine thn_n ?_
  refine WP.seq ?_
  refine WP.block ?_
  refine WP.cut (fun e22 w23 => ∃ (x20 : Bool), (True) ∧ Bp x20 (((a.Count < b.Count)) ∨ ((¬ (a.Count < b.Count)) ∧ (a.Count = b.Count) ∧ (a.Client < b.Client))) ∧ List.map e22 [2, 3, 5] = [.pointer (some ⟨g3, 0, none⟩), .pointer (some ⟨g6, 0, none⟩), .bool x20] ∧ Hp w Non [Res.row g6 [.int .i64 b.Count, .int .i64 b.Client] 29, Res.row g3 [.int .i64 a.Count, .int .i64 a.Client] 29] w23) ?_ ?_
  · refine WP.region _ rfl (by kernel_rfl) ?_
    refine OPS.batch 6 {} [.int .i64 a.Count, .int .i64 b.Count] [2, 3, 11] [.pointer (some ⟨g3, 0, none⟩), .pointer (some ⟨g6, 0, none⟩), .bool (decide (a.Count < b.Count))] (.cons (Ld.row1 (P := Try.prog) (t := 2) (o := 0) (v := .int .i64 a.Count) hp5.get1 (by kernel_rfl)) (.cons (Ld.row1 (P := Try.prog) (t := 2) (o := 0) (v := .int .i64 b.Count) hp5.get0 (by kernel_rfl)) .nil)) (by kernel_rfl) (fun b9 => ?_)
    by_cases h10 : a.Count < b.Count
    · refine OPS.batch 0 {} [] [2, 3, 11] [.pointer (some ⟨g3, 0, none⟩), .pointer (some ⟨g6, 0, none⟩), .bool (decide (a.Count < b.Count))] .nil (by kernel_rfl) (fun b11 => ?_)
      refine OPS.re [.pointer (some ⟨g3, 0, none⟩), .pointer (some ⟨g6, 0, none⟩), .bool true] (by rw [show (decide (a.Count < b.Count)) = true from Bp.dec.tt h10]) ?_
      refine OPS.batch 14 { wraps := [24] } [] [2, 3, 5] [.pointer (some ⟨g3, 0, none⟩), .pointer (some ⟨g6, 0, none⟩), .bool true] .nil (by kernel_rfl) (fun b12 => ?_)
      refine OPS.nil ?_
      refine thn_n ?_
      exact ⟨true, trivial, Bp.of Bp.t (by first | (simp only [h10, iff_false, false_iff, iff_true, true_iff, Classical.not_not, and_true, true_and, and_false, false_and, or_true, true_or, or_false, false_or, not_true_eq_false, not_false_eq_true, and_self, or_self, iff_self]; done) | (simp [h10]; done) | grind | (simp_all; done)), by kernel_rfl, hp5⟩
    · refine OPS.batch 0 {} [] [2, 3, 11] [.pointer (some ⟨g3, 0, none⟩), .pointer (some ⟨g6, 0, none⟩), .bool (decide (a.Count < b.Count))] .nil (by kernel_rfl) (fun b13 => ?_)
      refine OPS.re [.pointer (some ⟨g3, 0, none⟩), .pointer (some ⟨g6, 0, none⟩), .bool false] (by rw [show (decide (a.Count < b.Count)) = false from Bp.dec.ff h10]) ?_
      refine OPS.batch 6 {} [.int .i64 a.Count, .int .i64 b.Count] [2, 3, 11, 17] [.pointer (some ⟨g3, 0, none⟩), .pointer (some ⟨g6, 0, none⟩), .bool false, .bool (decide (a.Count = b.Count))] (.cons (Ld.row1 (P := Try.prog) (t := 2) (o := 0) (v := .int .i64 a.Count) hp5.get1 (by kernel_rfl)) (.cons (Ld.row1 (P := Try.prog) (t := 2) (o := 0) (v := .int .i64 b.Count) hp5.get0 (by kernel_rfl)) .nil)) (by kernel_rfl) (fun b14 => ?_)
      by_cases h15 : a.Count = b.Count
      · refine OPS.batch 0 {} [] [2, 3, 11, 17] [.pointer (some ⟨g3, 0, none⟩), .pointer (some ⟨g6, 0, none⟩), .bool false, .bool (decide (a.Count = b.Count))] .nil (by kernel_rfl) (fun b16 => ?_)
        refine OPS.re [.pointer (some ⟨g3, 0, none⟩), .pointer (some ⟨g6, 0, none⟩), .bool false, .bool true] (by rw [show (decide (a.Count = b.Count)) = true from Bp.dec.tt h15]) ?_
        refine OPS.batch 8 { wraps := [23, 24] } [.int .i64 a.Client, .int .i64 b.Client] [2, 3, 5] [.pointer (some ⟨g3, 0, none⟩), .pointer (some ⟨g6, 0, none⟩), .bool (decide (a.Client < b.Client))] (.cons (Ld.row1 (P := Try.prog) (t := 3) (o := 1) (v := .int .i64 a.Client) hp5.get1 (by kernel_rfl)) (.cons (Ld.row1 (P := Try.prog) (t := 3) (o := 1) (v := .int .i64 b.Client) hp5.get0 (by kernel_rfl)) .nil)) (by kernel_rfl) (fun b17 => ?_)
        refine OPS.nil ?_
        refine thn_n ?_
        exact ⟨decide (a.Client < b.Client), trivial, Bp.of Bp.dec (by first | (simp only [h10, h15, iff_false, false_iff, iff_true, true_iff, Classical.not_not, and_true, true_and, and_false, false_and, or_true, true_or, or_false, false_or, not_true_eq_false, not_false_eq_true, and_self, or_self, iff_self]; done) | (simp [h10, h15]; done) | grind | (simp_all; done)), by kernel_rfl, hp5⟩
      · refine OPS.batch 0 {} [] [2, 3, 11, 17] [.pointer (some ⟨g3, 0, none⟩), .pointer (some ⟨g6, 0, none⟩), .bool false, .bool (decide (a.Count = b.Count))] .nil (by kernel_rfl) (fun b18 => ?_)
        refine OPS.re [.pointer (some ⟨g3, 0, none⟩), .pointer (some ⟨g6, 0, none⟩), .bool false, .bool false] (by rw [show (decide (a.Count = b.Count)) = false from Bp.dec.ff h15]) ?_
        refine OPS.batch 8 { wraps := [23, 24] } [] [2, 3, 5] [.pointer (some ⟨g3, 0, none⟩), .pointer (some ⟨g6, 0, none⟩), .bool false] .nil (by kernel_rfl) (fun b19 => ?_)
        refine OPS.nil ?_
        refine thn_n ?_
        exact ⟨false, trivial, Bp.of Bp.f (by first | (simp only [h10, h15, iff_false, false_iff, iff_true, true_iff, Classical.not_not, and_true, true_and, and_false, false_and, or_true, true_or, or_false, false_or, not_true_eq_false, not_false_eq_true, and_self, or_self, iff_self]; done) | (simp [h10, h15]; done) | grind | (simp_all; done)), by kernel_rfl, hp5⟩
  rintro e22 w23 ⟨x20, hd25, hb21, hE26, hp24⟩
  obtain ⟨b27, rfl⟩ := toMk hE26
  clear hE26
  clear hd25
  refine WP.test (p := ((a.Count < b.Count)) ∨ ((¬ (a.Count < b.Count)) ∧ (a.Count = b.Count) ∧ (a.Client < b.Client))) rfl hb21 (fun h28 => ?_) (fun h28 => ?_)
  · refine WP.seq ?_
    refine WP.pure {} [] [4] [.int .i64 (-1)] .nil (by kernel_rfl) (fun b29 => ?_)
    refine thn_n ?_
    refine WP.ret ?_
    refine blk_r ?_
    refine thn_r ?_
    refine bodyQ.of _ rfl [.int .i64 (-1)] ⟨rfl, trivial⟩ ?_
    have hq := tagCmp_cases a b
    exact ⟨by simp only [pack]; rw [show tagCmp a b = (-1) from by omega], hp24.fr⟩
  · refine WP.seq ?_
    refine WP.pure {} [GTag.val a, GTag.val b] [25] [.bool ((decide (a.Count = b.Count)) && ((decide (a.Client = b.Client)) && true))] (.cons (show Ld Try.prog w23 29 ⟨g3, 0, none⟩ (GTag.val a) from Ld.rowN (cs := [.int .i64 a.Count, .int .i64 a.Client]) hp24.get1 (by kernel_rfl)) (.cons (show Ld Try.prog w23 29 ⟨g6, 0, none⟩ (GTag.val b) from Ld.rowN (cs := [.int .i64 b.Count, .int .i64 b.Client]) hp24.get0 (by kernel_rfl)) .nil)) (by kernel_rfl) (fun b30 => ?_)
    refine thn_n ?_
    refine WP.test (p := (a.Count = b.Count) ∧ (a.Client = b.Client)) rfl (Bp.band Bp.dec (Bp.band1 Bp.dec)) (fun h31 => ?_) (fun h31 => ?_)
    · refine WP.seq ?_
      refine WP.pure {} [] [4] [.int .i64 0] .nil (by kernel_rfl) (fun b32 => ?_)
      refine thn_n ?_
      refine WP.ret ?_
      refine blk_r ?_
      refine thn_r ?_
      refine bodyQ.of _ rfl [.int .i64 0] ⟨rfl, trivial⟩ ?_
      have hq := tagCmp_cases a b
      exact ⟨by simp only [pack]; rw [show tagCmp a b = 0 from by omega], hp24.fr⟩
    · refine WP.skip ?_
      refine blk_n ?_
      refine thn_n ?_
      refine WP.seq ?_
      refine WP.pure {} [] [4] [.int .i64 1] .nil (by kernel_rfl) (fun b33 => ?_)
      refine thn_n ?_
      refine WP.ret ?_
      refine bodyQ.of _ rfl [.int .i64 1] ⟨rfl, trivial⟩ ?_
      have hq := tagCmp_cases a b
      exact ⟨by simp only [pack]; rw [show tagCmp a b = 1 from by omega], hp24.fr⟩

theorem ref_Has (rs : List GTag) (a : Option Addr) (n c rb : Nat) (t : GTag) (w : World) (hn : n = rs.length) (hb : rs.length ≤ 4194304) (hx : SlR w a n (rs.flatMap GTag.cells)) (hs : (Res.row rb [.slice a n c] 55).holds w) :
    Calls Try.prog 24 #[.pointer (some ⟨rb, 0, none⟩), GTag.val t] w (fun r_ w' => ∃ f_, r_ = .returned (.bool f_) ∧ Bp f_ (t ∈ rs) ∧ Fram Non w w') := by
  refine calls_of Try.func24 rfl 26 rfl (by simp) ?_
  have hp0 := Hp.init w
  have he0 : List.map (env0 [.pointer (some ⟨rb, 0, none⟩), GTag.val t]) [0, 1] = [.pointer (some ⟨rb, 0, none⟩), GTag.val t] := by kernel_rfl
  obtain ⟨b0, he0⟩ := toMk he0
  rw [he0]
  clear he0
  refine WP.seq ?_
  refine WP.region _ rfl (by kernel_rfl) ?_
  refine OPS.cons (opStep.box hp0 [.int .i64 t.Count, .int .i64 t.Client] (by kernel_rfl) (fun g3 w1 hp2 => ?_))
  refine OPS.batch 1 {} [] [0, 3] [.pointer (some ⟨rb, 0, none⟩), .pointer (some ⟨g3, 0, none⟩)] .nil (by kernel_rfl) (fun b4 => ?_)
  refine OPS.nil ?_
  refine thn_n ?_
  refine WP.seq ?_
  refine WP.seq ?_
  refine WP.pure {} [] [0, 3, 7] [.pointer (some ⟨rb, 0, none⟩), .pointer (some ⟨g3, 0, none⟩), .bool false] .nil (by kernel_rfl) (fun b5 => ?_)
  refine thn_n ?_
  refine WP.condF rfl ?_
  refine WP.skip ?_
  refine thn_n ?_
  refine WP.seq ?_
  refine WP.seq ?_
  refine WP.pure {} [] [0, 3, 5] [.pointer (some ⟨rb, 0, none⟩), .pointer (some ⟨g3, 0, none⟩), .int .i64 0] .nil (by kernel_rfl) (fun b6 => ?_)
  refine thn_n ?_
  refine WP.block ?_
  refine WP.loop (fun mz_ e7 w8 => ∃ (k : Nat), mz_ = rs.length - k ∧ (k ≤ rs.length ∧ ∀ j, j < k → ¬ rs[j]! = t) ∧ List.map e7 [0, 3, 5] = [.pointer (some ⟨rb, 0, none⟩), .pointer (some ⟨g3, 0, none⟩), .int .i64 (k : Int)] ∧ Hp w Non [Res.row g3 [.int .i64 t.Count, .int .i64 t.Client] 29] w8) (rs.length - (0)) ⟨0, rfl, ⟨by omega, fun j hj => by omega⟩, by kernel_rfl, hp2⟩ ?_
  rintro _ e7 w8 ⟨k, rfl, hI10, hE11, hp9⟩
  obtain ⟨b12, rfl⟩ := toMk hE11
  clear hE11
  obtain ⟨pa, pb⟩ := hI10
  refine WP.seq ?_
  refine WP.seq ?_
  refine WP.pure {} [.slice a n c] [0, 3, 5, 14] [.pointer (some ⟨rb, 0, none⟩), .pointer (some ⟨g3, 0, none⟩), .int .i64 (k : Int), .bool (decide ((k : Int) < ((n : Nat) : Int)))] (.cons (Ld.row1 (P := Try.prog) (t := 22) (o := 0) (v := .slice a n c) (row_at hs hp9.fr) (by kernel_rfl)) .nil) (by kernel_rfl) (fun b13 => ?_)
  refine thn_n ?_
  refine WP.test (p := (k : Int) < ((n : Nat) : Int)) rfl Bp.dec (fun h14 => ?_) (fun h14 => ?_)
  · refine WP.skip ?_
    refine thn_n ?_
    refine WP.seq ?_
    refine WP.block ?_
    refine WP.seq ?_
    have hp17 := hp9.drew
    refine WP.quiet (fun w15 => Hp w Non [Res.row g3 [.int .i64 t.Count, .int .i64 t.Client] 29] w15) (by kernel_rfl) hp17 ?_
    have hnehp17 : ∃ wz_, (fun w15 => Hp w Non [Res.row g3 [.int .i64 t.Count, .int .i64 t.Client] 29] w15) wz_ := ⟨_, hp17⟩
    have hy21 : (rs)[k]? = some rs[k]! := get_bang (by first | (omega) | (simp only [List.length_append, List.length_cons, List.length_nil]; omega) | (simp only [List.length_take, List.length_append, List.length_cons, List.length_nil]; omega))
    refine QOPS.batch 9 {} [.slice a n c, GTag.val (rs[k]!), GTag.val t] [0, 3, 5, 25] [.pointer (some ⟨rb, 0, none⟩), .pointer (some ⟨g3, 0, none⟩), .int .i64 (k : Int), .bool ((decide ((rs[k]!.Count) = t.Count)) && ((decide ((rs[k]!.Client) = t.Client)) && true))] hnehp17 (fun w18 hp19 => QB.mk (.cons (Ld.row1 (P := Try.prog) (t := 22) (o := 0) (v := .slice a n c) (row_at hs hp19.fr) (by kernel_rfl)) (.cons (show InB ((k : Int)) (n) from ⟨by omega, by omega⟩) (.cons ((hx.at hp19).some (by omega)) (.cons (Ld.add0 (Ld.elN (P := Try.prog) (t := 29) (hx.at hp19).rd 2 (fun _ => rfl) hy21 (o := 0) (cs := [.int .i64 (rs[k]!.Count), .int .i64 (rs[k]!.Client)]) (by kernel_rfl))) (.cons (show Ld Try.prog w18 29 ⟨g3, 0, none⟩ (GTag.val t) from Ld.rowN (cs := [.int .i64 t.Count, .int .i64 t.Client]) hp19.get0 (by kernel_rfl)) .nil))))) (by kernel_rfl)) (fun b22 => ?_)
    refine QOPS.nil (fun w23 hp24 => ?_)
    refine thn_n ?_
    refine WP.test (p := ((rs[k]!.Count) = t.Count) ∧ ((rs[k]!.Client) = t.Client)) rfl (Bp.band Bp.dec (Bp.band1 Bp.dec)) (fun h25 => ?_) (fun h25 => ?_)
    · refine WP.seq ?_
      refine WP.pure {} [] [4] [.bool true] .nil (by kernel_rfl) (fun b26 => ?_)
      refine thn_n ?_
      refine WP.ret ?_
      refine blk_r ?_
      refine thn_r ?_
      refine thn_r ?_
      refine blk_r ?_
      refine thn_r ?_
      refine bodyQ.of _ rfl [.bool true] ⟨rfl, trivial⟩ ?_
      exact ⟨_, rfl, Bp.of Bp.t (by simp only [true_iff]; rw [show t = rs[k]! from by rw [tagEq]; have h_ := h25; grind, getElem!_pos rs k (by omega)]; exact List.getElem_mem _), hp24.fr⟩
    · refine WP.skip ?_
      refine blk_n ?_
      refine thn_n ?_
      refine WP.pure {} [] [0, 3, 5] [.pointer (some ⟨rb, 0, none⟩), .pointer (some ⟨g3, 0, none⟩), .int .i64 ((k : Int) + 1)] (.cons (show Rng .i64 ((k : Int) + 1) from Rng.i64 (by omega)) .nil) (by kernel_rfl) (fun b27 => ?_)
      refine thn_n ?_
      exact ⟨rs.length - (k + 1), (by omega), k + 1, rfl, ⟨by omega, fun j hj => by by_cases e : j = k; subst e; rw [tagEq]; have h_ := h25; grind; exact pb j (by omega)⟩, by kernel_rfl, hp24⟩
  · refine WP.exit ?_
    refine thn_x ?_
    refine thn_x ?_
    refine blk_hit ?_
    refine thn_n ?_
    refine WP.seq ?_
    refine WP.pure {} [] [4] [.bool false] .nil (by kernel_rfl) (fun b28 => ?_)
    refine thn_n ?_
    refine WP.ret ?_
    refine bodyQ.of _ rfl [.bool false] ⟨rfl, trivial⟩ ?_
    exact ⟨_, rfl, Bp.of Bp.f (by simp only [false_iff]; intro q; obtain ⟨i, hi⟩ := List.getElem?_of_mem q; have hil := (List.getElem?_eq_some_iff.1 hi).1; rw [List.getElem?_eq_getElem hil] at hi; exact pb i (by omega) (by rw [getElem!_pos rs i hil]; exact Option.some.inj hi)), hp9.fr⟩

open Classical in
noncomputable def blw (rs : List GTag) (t : GTag) : Nat := rs.countP fun x => decide (tagCmp x t < 0)
theorem blw_step {rs : List GTag} {t : GTag} {k : Nat} (h : k < rs.length) : blw (rs.take (k + 1)) t = blw (rs.take k) t + if tagCmp rs[k]! t < 0 then 1 else 0 := by
  unfold blw
  rw [List.take_succ_eq_append_getElem h, List.countP_append, getElem!_pos rs k h]
  simp [List.countP_cons]
theorem ref_below (rs : List GTag) (a : Option Addr) (n c rb : Nat) (t : GTag) (w : World) (hn : n = rs.length) (hb : rs.length ≤ 4194304) (hx : SlR w a n (rs.flatMap GTag.cells)) (hs : (Res.row rb [.slice a n c] 55).holds w) :
    Calls Try.prog 35 #[.pointer (some ⟨rb, 0, none⟩), GTag.val t] w (fun r_ w' => r_ = .returned (.int .i64 ((blw rs t : Nat) : Int)) ∧ Fram Non w w') := by
  refine calls_of Try.func35 rfl 29 rfl (by simp) ?_
  have hp0 := Hp.init w
  have he0 : List.map (env0 [.pointer (some ⟨rb, 0, none⟩), GTag.val t]) [0, 1] = [.pointer (some ⟨rb, 0, none⟩), GTag.val t] := by kernel_rfl
  obtain ⟨b0, he0⟩ := toMk he0
  rw [he0]
  clear he0
  refine WP.seq ?_
  refine WP.region _ rfl (by kernel_rfl) ?_
  refine OPS.cons (opStep.box hp0 [.int .i64 t.Count, .int .i64 t.Client] (by kernel_rfl) (fun g3 w1 hp2 => ?_))
  refine OPS.batch 1 {} [] [0, 3] [.pointer (some ⟨rb, 0, none⟩), .pointer (some ⟨g3, 0, none⟩)] .nil (by kernel_rfl) (fun b4 => ?_)
  refine OPS.nil ?_
  refine thn_n ?_
  refine WP.seq ?_
  refine WP.pure {} [] [0, 3, 5] [.pointer (some ⟨rb, 0, none⟩), .pointer (some ⟨g3, 0, none⟩), .int .i64 0] .nil (by kernel_rfl) (fun b5 => ?_)
  refine thn_n ?_
  refine WP.seq ?_
  refine WP.seq ?_
  refine WP.pure {} [] [0, 3, 5, 6] [.pointer (some ⟨rb, 0, none⟩), .pointer (some ⟨g3, 0, none⟩), .int .i64 0, .int .i64 0] .nil (by kernel_rfl) (fun b6 => ?_)
  refine thn_n ?_
  refine WP.block ?_
  refine WP.loop (fun mz_ e7 w8 => ∃ (k : Nat) (m : Nat), mz_ = rs.length - k ∧ (k ≤ rs.length ∧ m ≤ k ∧ m = blw (rs.take k) t) ∧ List.map e7 [0, 3, 5, 6] = [.pointer (some ⟨rb, 0, none⟩), .pointer (some ⟨g3, 0, none⟩), .int .i64 (m : Int), .int .i64 (k : Int)] ∧ Hp w Non [Res.row g3 [.int .i64 t.Count, .int .i64 t.Client] 29] w8) (rs.length - (0)) ⟨0, 0, rfl, ⟨by omega, by omega, by simp [blw]⟩, by kernel_rfl, hp2⟩ ?_
  rintro _ e7 w8 ⟨k, m, rfl, hI10, hE11, hp9⟩
  obtain ⟨b12, rfl⟩ := toMk hE11
  clear hE11
  obtain ⟨pa, pb, pc⟩ := hI10
  refine WP.seq ?_
  refine WP.seq ?_
  refine WP.pure {} [.slice a n c] [0, 3, 5, 6, 13] [.pointer (some ⟨rb, 0, none⟩), .pointer (some ⟨g3, 0, none⟩), .int .i64 (m : Int), .int .i64 (k : Int), .bool (decide ((k : Int) < ((n : Nat) : Int)))] (.cons (Ld.row1 (P := Try.prog) (t := 22) (o := 0) (v := .slice a n c) (row_at hs hp9.fr) (by kernel_rfl)) .nil) (by kernel_rfl) (fun b13 => ?_)
  refine thn_n ?_
  refine WP.test (p := (k : Int) < ((n : Nat) : Int)) rfl Bp.dec (fun h14 => ?_) (fun h14 => ?_)
  · refine WP.skip ?_
    refine thn_n ?_
    refine WP.seq ?_
    refine WP.block ?_
    refine WP.seq ?_
    have hp17 := hp9.drew
    refine WP.quiet (fun w15 => Hp w Non [Res.row g3 [.int .i64 t.Count, .int .i64 t.Client] 29] w15) (by kernel_rfl) hp17 ?_
    have hnehp17 : ∃ wz_, (fun w15 => Hp w Non [Res.row g3 [.int .i64 t.Count, .int .i64 t.Client] 29] w15) wz_ := ⟨_, hp17⟩
    have hy21 : (rs)[k]? = some rs[k]! := get_bang (by first | (omega) | (simp only [List.length_append, List.length_cons, List.length_nil]; omega) | (simp only [List.length_take, List.length_append, List.length_cons, List.length_nil]; omega))
    refine QOPS.batch 8 {} [.slice a n c, GTag.val (rs[k]!), GTag.val t] [0, 3, 5, 6, 22, 23] [.pointer (some ⟨rb, 0, none⟩), .pointer (some ⟨g3, 0, none⟩), .int .i64 (m : Int), .int .i64 (k : Int), GTag.val (rs[k]!), GTag.val t] hnehp17 (fun w18 hp19 => QB.mk (.cons (Ld.row1 (P := Try.prog) (t := 22) (o := 0) (v := .slice a n c) (row_at hs hp19.fr) (by kernel_rfl)) (.cons (show InB ((k : Int)) (n) from ⟨by omega, by omega⟩) (.cons ((hx.at hp19).some (by omega)) (.cons (Ld.add0 (Ld.elN (P := Try.prog) (t := 29) (hx.at hp19).rd 2 (fun _ => rfl) hy21 (o := 0) (cs := [.int .i64 (rs[k]!.Count), .int .i64 (rs[k]!.Client)]) (by kernel_rfl))) (.cons (show Ld Try.prog w18 29 ⟨g3, 0, none⟩ (GTag.val t) from Ld.rowN (cs := [.int .i64 t.Count, .int .i64 t.Client]) hp19.get0 (by kernel_rfl)) .nil))))) (by kernel_rfl)) (fun b22 => ?_)
    refine QOPS.call (some 24) [GTag.val (rs[k]!), GTag.val t] (by kernel_rfl) (fun w23 hp24 => (r8_Compare (rs[k]!) t _).mono fun _ _ h => ⟨h.1, hp24.step h.2⟩) ?_
    refine QOPS.batch 1 {} [] [0, 3, 5, 6, 25] [.pointer (some ⟨rb, 0, none⟩), .pointer (some ⟨g3, 0, none⟩), .int .i64 (m : Int), .int .i64 (k : Int), .bool (decide ((tagCmp (rs[k]!) t) < 0))] hnehp17 (fun w25 hp26 => QB.mk .nil (by kernel_rfl)) (fun b27 => ?_)
    refine QOPS.nil (fun w28 hp29 => ?_)
    refine thn_n ?_
    refine WP.test (p := (tagCmp (rs[k]!) t) < 0) rfl Bp.dec (fun h30 => ?_) (fun h30 => ?_)
    · refine WP.pure {} [] [0, 3, 5, 6] [.pointer (some ⟨rb, 0, none⟩), .pointer (some ⟨g3, 0, none⟩), .int .i64 ((m : Int) + 1), .int .i64 (k : Int)] (.cons (show Rng .i64 ((m : Int) + 1) from Rng.i64 (by omega)) .nil) (by kernel_rfl) (fun b31 => ?_)
      refine blk_n ?_
      refine thn_n ?_
      refine WP.pure {} [] [0, 3, 5, 6] [.pointer (some ⟨rb, 0, none⟩), .pointer (some ⟨g3, 0, none⟩), .int .i64 ((m : Int) + 1), .int .i64 ((k : Int) + 1)] (.cons (show Rng .i64 ((k : Int) + 1) from Rng.i64 (by omega)) .nil) (by kernel_rfl) (fun b32 => ?_)
      refine thn_n ?_
      exact ⟨rs.length - (k + 1), (by omega), k + 1, m + 1, rfl, ⟨by omega, by omega, by rw [blw_step (by omega), if_pos h30, ← pc]; try omega⟩, by kernel_rfl, hp29⟩
    · refine WP.skip ?_
      refine blk_n ?_
      refine thn_n ?_
      refine WP.pure {} [] [0, 3, 5, 6] [.pointer (some ⟨rb, 0, none⟩), .pointer (some ⟨g3, 0, none⟩), .int .i64 (m : Int), .int .i64 ((k : Int) + 1)] (.cons (show Rng .i64 ((k : Int) + 1) from Rng.i64 (by omega)) .nil) (by kernel_rfl) (fun b33 => ?_)
      refine thn_n ?_
      exact ⟨rs.length - (k + 1), (by omega), k + 1, m, rfl, ⟨by omega, by omega, by rw [blw_step (by omega), if_neg h30, ← pc]; try omega⟩, by kernel_rfl, hp29⟩
  · refine WP.exit ?_
    refine thn_x ?_
    refine thn_x ?_
    refine blk_hit ?_
    refine thn_n ?_
    refine WP.seq ?_
    refine WP.pure {} [] [4] [.int .i64 (m : Int)] .nil (by kernel_rfl) (fun b34 => ?_)
    refine thn_n ?_
    refine WP.ret ?_
    refine bodyQ.of _ rfl [.int .i64 (m : Int)] ⟨rfl, trivial⟩ ?_
    obtain rfl : k = rs.length := by omega
    rw [List.take_of_length_le (Nat.le_refl _)] at pc
    exact ⟨by rw [← pc]; rfl, hp9.fr⟩

theorem ref_Len (rs : List GTag) (a : Option Addr) (n c rb : Nat) (w : World) (hn : n = rs.length) (hb : rs.length ≤ 4194304) (hx : SlR w a n (rs.flatMap GTag.cells)) (hs : (Res.row rb [.slice a n c] 55).holds w) :
    Calls Try.prog 15 #[.pointer (some ⟨rb, 0, none⟩)] w (fun r_ w' => r_ = .returned (.int .i64 ((n : Nat) : Int)) ∧ Fram Non w w') := by
  refine calls_of Try.func15 rfl 10 rfl (by simp) ?_
  have hp0 := Hp.init w
  have he0 : List.map (env0 [.pointer (some ⟨rb, 0, none⟩)]) [0] = [.pointer (some ⟨rb, 0, none⟩)] := by kernel_rfl
  obtain ⟨b0, he0⟩ := toMk he0
  rw [he0]
  clear he0
  refine WP.seq ?_
  refine WP.pure {} [] [0] [.pointer (some ⟨rb, 0, none⟩)] .nil (by kernel_rfl) (fun b1 => ?_)
  refine thn_n ?_
  refine WP.seq ?_
  refine WP.seq ?_
  refine WP.pure {} [] [0, 4] [.pointer (some ⟨rb, 0, none⟩), .bool false] .nil (by kernel_rfl) (fun b2 => ?_)
  refine thn_n ?_
  refine WP.condF rfl ?_
  refine WP.skip ?_
  refine thn_n ?_
  refine WP.seq ?_
  refine WP.pure {} [.slice a n c] [2] [.int .i64 ((n : Nat) : Int)] (.cons (Ld.row1 (P := Try.prog) (t := 22) (o := 0) (v := .slice a n c) (row_at hs hp0.fr) (by kernel_rfl)) .nil) (by kernel_rfl) (fun b3 => ?_)
  refine thn_n ?_
  refine WP.ret ?_
  refine bodyQ.of _ rfl [.int .i64 ((n : Nat) : Int)] ⟨rfl, trivial⟩ ?_
  exact ⟨rfl, hp0.fr⟩

end Go.Proofs.Ytoeholipggkcaaa.K
