/- Texts of this claim, merged: what the program's functions compute, and the rules that the walks use. -/
import Derived.Test.YtdkgdidnknojlaaProg
import Derived.Laws.BytesString
import Derived.Lib.ConvBytes
import Derived.Test.YtdkgdidnknojlaaZ1
namespace Go.Proofs.Ytdkgdidnknojlaa.K
open Go Go.Proofs Go.RowKit
set_option linter.unusedVariables false
set_option linter.unusedSimpArgs false
set_option maxRecDepth 20000
set_option maxHeartbeats 4000000

structure GTag where
  Count : Int
  Client : Int
def GTag.cells (x : GTag) : List Go.Value := [.int .i64 x.Count, .int .i64 x.Client]
def GTag.val (x : GTag) : Go.Value := .agg x.cells.toArray
instance : Inhabited GTag := ⟨⟨0, 0⟩⟩
theorem GTag.len (x : GTag) : x.cells.length = 2 := rfl
def tagZero (t : GTag) : Prop := t.Count = 0 ∧ t.Client = 0
def tagProper (t : GTag) : Prop := 1 ≤ t.Count ∧ t.Count ≤ 4611686018427387903 ∧ 1 ≤ t.Client ∧ t.Client ≤ 65535
def tagValid (t : GTag) : Prop := tagZero t ∨ tagProper t
def cmpI (a b : Int) : Int := if a < b then -1 else if b < a then 1 else 0
def tagCmp (a b : GTag) : Int := if cmpI a.Count b.Count ≠ 0 then cmpI a.Count b.Count else cmpI a.Client b.Client
theorem tagCmp_cases (a b : GTag) : ((a.Count < b.Count ∨ a.Count = b.Count ∧ a.Client < b.Client) ∧ tagCmp a b = -1) ∨ ((a.Count = b.Count ∧ a.Client = b.Client) ∧ tagCmp a b = 0) ∨ ((b.Count < a.Count ∨ a.Count = b.Count ∧ b.Client < a.Client) ∧ tagCmp a b = 1) := by
  unfold tagCmp cmpI
  split <;> (split at * <;> (try split at *)) <;> (try split) <;> (try split) <;> omega

theorem tag_Zero (t : GTag) (w : World) :
    Calls Try.prog 39 #[GTag.val t] w (fun r_ w' => ∃ f_, r_ = .returned (.bool f_) ∧ Bp f_ (tagZero t) ∧ Fram Non w w') := by
  refine calls_of Try.func39 rfl 6 rfl (by simp) ?_
  have hp0 := Hp.init w
  have he0 : List.map (env0 [GTag.val t]) [0] = [GTag.val t] := by kernel_rfl
  obtain ⟨b0, he0⟩ := toMk he0
  rw [he0]
  clear he0
  refine WP.seq ?_
  refine WP.region _ rfl (by kernel_rfl) ?_
  refine OPS.cons (opStep.box hp0 [.int .i64 t.Count, .int .i64 t.Client] (by kernel_rfl) (fun g3 w1 hp2 => ?_))
  refine OPS.batch 1 {} [] [1] [.pointer (some ⟨g3, 0, none⟩)] .nil (by kernel_rfl) (fun b4 => ?_)
  refine OPS.nil ?_
  refine thn_n ?_
  refine WP.seq ?_
  refine WP.pure {} [GTag.val t] [2] [.bool ((decide (t.Count = 0)) && ((decide (t.Client = 0)) && true))] (.cons (show Ld Try.prog w1 31 ⟨g3, 0, none⟩ (GTag.val t) from Ld.rowN (cs := [.int .i64 t.Count, .int .i64 t.Client]) hp2.get0 (by kernel_rfl)) .nil) (by kernel_rfl) (fun b5 => ?_)
  refine thn_n ?_
  refine WP.ret ?_
  refine bodyQ.of _ rfl [.bool ((decide (t.Count = 0)) && ((decide (t.Client = 0)) && true))] ⟨rfl, trivial⟩ ?_
  exact ⟨_, rfl, Bp.of (Bp.band Bp.dec (Bp.band1 Bp.dec)) (by simp [tagZero]), hp2.fr⟩

theorem tag_proper (t : GTag) (w : World) :
    Calls Try.prog 50 #[GTag.val t] w (fun r_ w' => ∃ f_, r_ = .returned (.bool f_) ∧ Bp f_ (tagProper t) ∧ Fram Non w w') := by
  refine calls_of Try.func50 rfl 21 rfl (by simp) ?_
  have hp0 := Hp.init w
  have he0 : List.map (env0 [GTag.val t]) [0] = [GTag.val t] := by kernel_rfl
  obtain ⟨b0, he0⟩ := toMk he0
  rw [he0]
  clear he0
  refine WP.seq ?_
  refine WP.region _ rfl (by kernel_rfl) ?_
  refine OPS.cons (opStep.box hp0 [.int .i64 t.Count, .int .i64 t.Client] (by kernel_rfl) (fun g3 w1 hp2 => ?_))
  refine OPS.batch 1 {} [] [1] [.pointer (some ⟨g3, 0, none⟩)] .nil (by kernel_rfl) (fun b4 => ?_)
  refine OPS.nil ?_
  refine thn_n ?_
  refine WP.cut (fun e24 w25 => ∃ (x22 : Bool), (True) ∧ Bp x22 ((1 ≤ t.Count) ∧ (t.Count ≤ 4611686018427387903) ∧ (1 ≤ t.Client) ∧ (t.Client ≤ 65535)) ∧ List.map e24 [2] = [.bool x22] ∧ Hp w Non [Res.row g3 [.int .i64 t.Count, .int .i64 t.Client] 31] w25) ?_ ?_
  · refine WP.region _ rfl (by kernel_rfl) ?_
    refine OPS.batch 4 {} [.int .i64 t.Count] [1, 6] [.pointer (some ⟨g3, 0, none⟩), .bool (decide (1 ≤ t.Count))] (.cons (Ld.row1 (P := Try.prog) (t := 2) (o := 0) (v := .int .i64 t.Count) hp2.get0 (by kernel_rfl)) .nil) (by kernel_rfl) (fun b6 => ?_)
    by_cases h7 : 1 ≤ t.Count
    · refine OPS.batch 0 {} [] [1, 6] [.pointer (some ⟨g3, 0, none⟩), .bool (decide (1 ≤ t.Count))] .nil (by kernel_rfl) (fun b8 => ?_)
      refine OPS.re [.pointer (some ⟨g3, 0, none⟩), .bool true] (by rw [show (decide (1 ≤ t.Count)) = true from Bp.dec.tt h7]) ?_
      refine OPS.batch 5 { wraps := [10] } [.int .i64 t.Count] [1, 11] [.pointer (some ⟨g3, 0, none⟩), .bool (decide (t.Count ≤ 4611686018427387903))] (.cons (Ld.row1 (P := Try.prog) (t := 2) (o := 0) (v := .int .i64 t.Count) hp2.get0 (by kernel_rfl)) .nil) (by kernel_rfl) (fun b9 => ?_)
      by_cases h10 : t.Count ≤ 4611686018427387903
      · refine OPS.batch 0 {} [] [1, 11] [.pointer (some ⟨g3, 0, none⟩), .bool (decide (t.Count ≤ 4611686018427387903))] .nil (by kernel_rfl) (fun b11 => ?_)
        refine OPS.re [.pointer (some ⟨g3, 0, none⟩), .bool true] (by rw [show (decide (t.Count ≤ 4611686018427387903)) = true from Bp.dec.tt h10]) ?_
        refine OPS.batch 5 { wraps := [15] } [.int .i64 t.Client] [1, 16] [.pointer (some ⟨g3, 0, none⟩), .bool (decide (1 ≤ t.Client))] (.cons (Ld.row1 (P := Try.prog) (t := 3) (o := 1) (v := .int .i64 t.Client) hp2.get0 (by kernel_rfl)) .nil) (by kernel_rfl) (fun b12 => ?_)
        by_cases h13 : 1 ≤ t.Client
        · refine OPS.batch 0 {} [] [1, 16] [.pointer (some ⟨g3, 0, none⟩), .bool (decide (1 ≤ t.Client))] .nil (by kernel_rfl) (fun b14 => ?_)
          refine OPS.re [.pointer (some ⟨g3, 0, none⟩), .bool true] (by rw [show (decide (1 ≤ t.Client)) = true from Bp.dec.tt h13]) ?_
          refine OPS.batch 5 { wraps := [20] } [.int .i64 t.Client] [2] [.bool (decide (t.Client ≤ 65535))] (.cons (Ld.row1 (P := Try.prog) (t := 3) (o := 1) (v := .int .i64 t.Client) hp2.get0 (by kernel_rfl)) .nil) (by kernel_rfl) (fun b15 => ?_)
          refine OPS.nil ?_
          refine thn_n ?_
          exact ⟨decide (t.Client ≤ 65535), trivial, Bp.of Bp.dec (by first | (simp only [h7, h10, h13, iff_false, false_iff, iff_true, true_iff, Classical.not_not, and_true, true_and, and_false, false_and, or_true, true_or, or_false, false_or, not_true_eq_false, not_false_eq_true, and_self, or_self, iff_self]; done) | (simp [h7, h10, h13]; done) | grind | (simp_all; done)), by kernel_rfl, hp2⟩
        · refine OPS.batch 0 {} [] [1, 16] [.pointer (some ⟨g3, 0, none⟩), .bool (decide (1 ≤ t.Client))] .nil (by kernel_rfl) (fun b16 => ?_)
          refine OPS.re [.pointer (some ⟨g3, 0, none⟩), .bool false] (by rw [show (decide (1 ≤ t.Client)) = false from Bp.dec.ff h13]) ?_
          refine OPS.batch 5 { wraps := [20] } [] [2] [.bool false] .nil (by kernel_rfl) (fun b17 => ?_)
          refine OPS.nil ?_
          refine thn_n ?_
          exact ⟨false, trivial, Bp.of Bp.f (by first | (simp only [h7, h10, h13, iff_false, false_iff, iff_true, true_iff, Classical.not_not, and_true, true_and, and_false, false_and, or_true, true_or, or_false, false_or, not_true_eq_false, not_false_eq_true, and_self, or_self, iff_self]; done) | (simp [h7, h10, h13]; done) | grind | (simp_all; done)), by kernel_rfl, hp2⟩
      · refine OPS.batch 0 {} [] [1, 11] [.pointer (some ⟨g3, 0, none⟩), .bool (decide (t.Count ≤ 4611686018427387903))] .nil (by kernel_rfl) (fun b18 => ?_)
        refine OPS.re [.pointer (some ⟨g3, 0, none⟩), .bool false] (by rw [show (decide (t.Count ≤ 4611686018427387903)) = false from Bp.dec.ff h10]) ?_
        refine OPS.batch 10 { wraps := [15, 20] } [] [2] [.bool false] .nil (by kernel_rfl) (fun b19 => ?_)
        refine OPS.nil ?_
        refine thn_n ?_
        exact ⟨false, trivial, Bp.of Bp.f (by first | (simp only [h7, h10, iff_false, false_iff, iff_true, true_iff, Classical.not_not, and_true, true_and, and_false, false_and, or_true, true_or, or_false, false_or, not_true_eq_false, not_false_eq_true, and_self, or_self, iff_self]; done) | (simp [h7, h10]; done) | grind | (simp_all; done)), by kernel_rfl, hp2⟩
    · refine OPS.batch 0 {} [] [1, 6] [.pointer (some ⟨g3, 0, none⟩), .bool (decide (1 ≤ t.Count))] .nil (by kernel_rfl) (fun b20 => ?_)
      refine OPS.re [.pointer (some ⟨g3, 0, none⟩), .bool false] (by rw [show (decide (1 ≤ t.Count)) = false from Bp.dec.ff h7]) ?_
      refine OPS.batch 15 { wraps := [10, 15, 20] } [] [2] [.bool false] .nil (by kernel_rfl) (fun b21 => ?_)
      refine OPS.nil ?_
      refine thn_n ?_
      exact ⟨false, trivial, Bp.of Bp.f (by first | (simp only [h7, iff_false, false_iff, iff_true, true_iff, Classical.not_not, and_true, true_and, and_false, false_and, or_true, true_or, or_false, false_or, not_true_eq_false, not_false_eq_true, and_self, or_self, iff_self]; done) | (simp [h7]; done) | grind | (simp_all; done)), by kernel_rfl, hp2⟩
  rintro e24 w25 ⟨x22, hd27, hb23, hE28, hp26⟩
  obtain ⟨b29, rfl⟩ := toMk hE28
  clear hE28
  clear hd27
  refine WP.ret ?_
  refine bodyQ.of _ rfl [.bool x22] ⟨rfl, trivial⟩ ?_
  exact ⟨_, rfl, Bp.of hb23 (by first | (simp only [tagProper, false_iff, true_iff]; done) | (simp only [tagProper, false_iff, true_iff]; omega)), hp26.fr⟩

theorem tag_Valid (t : GTag) (w : World) :
    Calls Try.prog 38 #[GTag.val t] w (fun r_ w' => ∃ f_, r_ = .returned (.bool f_) ∧ Bp f_ (tagValid t) ∧ Fram Non w w') := by
  refine calls_of Try.func38 rfl 9 rfl (by simp) ?_
  have hp0 := Hp.init w
  have he0 : List.map (env0 [GTag.val t]) [0] = [GTag.val t] := by kernel_rfl
  obtain ⟨b0, he0⟩ := toMk he0
  rw [he0]
  clear he0
  refine WP.seq ?_
  refine WP.region _ rfl (by kernel_rfl) ?_
  refine OPS.cons (opStep.box hp0 [.int .i64 t.Count, .int .i64 t.Client] (by kernel_rfl) (fun g3 w1 hp2 => ?_))
  refine OPS.batch 1 {} [] [1] [.pointer (some ⟨g3, 0, none⟩)] .nil (by kernel_rfl) (fun b4 => ?_)
  refine OPS.nil ?_
  refine thn_n ?_
  refine WP.cut (fun e28 w29 => ∃ (x26 : Bool), (True) ∧ Bp x26 (((tagZero t)) ∨ ((¬ (tagZero t)) ∧ (tagProper t))) ∧ List.map e28 [2] = [.bool x26] ∧ Hp w Non [Res.row g3 [.int .i64 t.Count, .int .i64 t.Client] 31] w29) ?_ ?_
  · refine WP.region _ rfl (by kernel_rfl) ?_
    refine OPS.batch 1 {} [GTag.val t] [1, 3] [.pointer (some ⟨g3, 0, none⟩), GTag.val t] (.cons (show Ld Try.prog w1 31 ⟨g3, 0, none⟩ (GTag.val t) from Ld.rowN (cs := [.int .i64 t.Count, .int .i64 t.Client]) hp2.get0 (by kernel_rfl)) .nil) (by kernel_rfl) (fun b6 => ?_)
    refine OPS.cons (opStep.call (some 4) [GTag.val t] (by kernel_rfl) (tag_Zero t _) ?_)
    rintro _ w9 ⟨b12, rfl, hb13, hf10⟩
    refine ⟨_, rfl, ?_⟩
    have hp11 := hp2.step hf10
    refine OPS.batch 1 {} [] [1, 5] [.pointer (some ⟨g3, 0, none⟩), .bool b12] .nil (by kernel_rfl) (fun b14 => ?_)
    by_cases h15 : tagZero t
    · rw [show b12 = true from hb13.tt h15]
      refine OPS.batch 4 { wraps := [8] } [] [2] [.bool true] .nil (by kernel_rfl) (fun b16 => ?_)
      refine OPS.nil ?_
      refine thn_n ?_
      exact ⟨true, trivial, Bp.of Bp.t (by first | (simp only [h15, iff_false, false_iff, iff_true, true_iff, Classical.not_not, and_true, true_and, and_false, false_and, or_true, true_or, or_false, false_or, not_true_eq_false, not_false_eq_true, and_self, or_self, iff_self]; done) | (simp [h15]; done) | grind | (simp_all; done)), by kernel_rfl, hp11⟩
    · rw [show b12 = false from hb13.ff h15]
      refine OPS.batch 1 {} [GTag.val t] [5, 6] [.bool false, GTag.val t] (.cons (show Ld Try.prog w9 31 ⟨g3, 0, none⟩ (GTag.val t) from Ld.rowN (cs := [.int .i64 t.Count, .int .i64 t.Client]) hp11.get0 (by kernel_rfl)) .nil) (by kernel_rfl) (fun b17 => ?_)
      refine OPS.want (by kernel_rfl) ?_
      refine OPS.cons (opStep.call (some 7) [GTag.val t] (by kernel_rfl) (tag_proper t _) ?_)
      rintro _ w20 ⟨b23, rfl, hb24, hf21⟩
      refine ⟨_, rfl, ?_⟩
      have hp22 := hp11.step hf21
      refine OPS.batch 2 { wraps := [8] } [] [2] [.bool b23] .nil (by kernel_rfl) (fun b25 => ?_)
      refine OPS.nil ?_
      refine thn_n ?_
      exact ⟨b23, trivial, Bp.of hb24 (by first | (simp only [h15, iff_false, false_iff, iff_true, true_iff, Classical.not_not, and_true, true_and, and_false, false_and, or_true, true_or, or_false, false_or, not_true_eq_false, not_false_eq_true, and_self, or_self, iff_self]; done) | (simp [h15]; done) | grind | (simp_all; done)), by kernel_rfl, hp22⟩
  rintro e28 w29 ⟨x26, hd31, hb27, hE32, hp30⟩
  obtain ⟨b33, rfl⟩ := toMk hE32
  clear hE32
  clear hd31
  refine WP.ret ?_
  refine bodyQ.of _ rfl [.bool x26] ⟨rfl, trivial⟩ ?_
  exact ⟨_, rfl, Bp.of hb27 (by simp only [tagValid]; by_cases hz : tagZero t <;> simp_all), hp30.fr⟩

theorem isNaN_int64 (a : Int) (w : World) :
    Calls Try.prog 51 #[.int .i64 a] w (fun r_ w' => ∃ f_, r_ = .returned (.bool f_) ∧ Bp f_ (False) ∧ Fram Non w w') := by
  refine calls_of Try.func51 rfl 6 rfl (by simp) ?_
  have hp0 := Hp.init w
  have he0 : List.map (env0 [.int .i64 a]) [0] = [.int .i64 a] := by kernel_rfl
  obtain ⟨b0, he0⟩ := toMk he0
  rw [he0]
  clear he0
  refine WP.seq ?_
  refine WP.pure {} [] [0] [.int .i64 a] .nil (by kernel_rfl) (fun b1 => ?_)
  refine thn_n ?_
  refine WP.seq ?_
  refine WP.pure {} [] [2] [.bool (decide (¬ (a = a)))] .nil (by kernel_rfl) (fun b2 => ?_)
  refine thn_n ?_
  refine WP.ret ?_
  refine bodyQ.of _ rfl [.bool (decide (¬ (a = a)))] ⟨rfl, trivial⟩ ?_
  exact ⟨_, rfl, Bp.of Bp.dec (by simp), hp0.fr⟩

theorem cmp_int64 (a b : Int) (w : World) :
    Calls Try.prog 40 #[.int .i64 a, .int .i64 b] w (fun r_ w' => r_ = .returned (.int .i64 (cmpI a b)) ∧ Fram Non w w') := by
  refine calls_of Try.func40 rfl 20 rfl (by simp) ?_
  have hp0 := Hp.init w
  have he0 : List.map (env0 [.int .i64 a, .int .i64 b]) [0, 1] = [.int .i64 a, .int .i64 b] := by kernel_rfl
  obtain ⟨b0, he0⟩ := toMk he0
  rw [he0]
  clear he0
  refine WP.seq ?_
  refine WP.pure {} [] [0, 1] [.int .i64 a, .int .i64 b] .nil (by kernel_rfl) (fun b1 => ?_)
  refine thn_n ?_
  refine WP.seq ?_
  refine WP.region _ rfl (by kernel_rfl) ?_
  refine OPS.batch 1 {} [] [0, 1, 7] [.int .i64 a, .int .i64 b, .int .i64 a] .nil (by kernel_rfl) (fun b2 => ?_)
  refine OPS.cons (opStep.call (some 8) [.int .i64 a] (by kernel_rfl) (isNaN_int64 a _) ?_)
  rintro _ w5 ⟨b8, rfl, hb9, hf6⟩
  refine ⟨_, rfl, ?_⟩
  have hp7 := hp0.step hf6
  refine OPS.batch 1 {} [] [0, 1, 5] [.int .i64 a, .int .i64 b, .bool b8] .nil (by kernel_rfl) (fun b10 => ?_)
  refine OPS.nil ?_
  refine thn_n ?_
  refine WP.seq ?_
  refine WP.region _ rfl (by kernel_rfl) ?_
  refine OPS.batch 1 {} [] [0, 1, 5, 9] [.int .i64 a, .int .i64 b, .bool b8, .int .i64 b] .nil (by kernel_rfl) (fun b11 => ?_)
  refine OPS.cons (opStep.call (some 10) [.int .i64 b] (by kernel_rfl) (isNaN_int64 b _) ?_)
  rintro _ w14 ⟨b17, rfl, hb18, hf15⟩
  refine ⟨_, rfl, ?_⟩
  have hp16 := hp7.step hf15
  refine OPS.batch 1 {} [] [0, 1, 5, 6] [.int .i64 a, .int .i64 b, .bool b8, .bool b17] .nil (by kernel_rfl) (fun b19 => ?_)
  refine OPS.nil ?_
  refine thn_n ?_
  refine WP.seq ?_
  refine WP.seq ?_
  refine WP.pure {} [] [0, 1, 6, 11] [.int .i64 a, .int .i64 b, .bool b17, .bool b8] .nil (by kernel_rfl) (fun b20 => ?_)
  refine thn_n ?_
  refine WP.test (p := False) rfl hb9 (fun h21 => ?_) (fun h21 => ?_)
  · refine WP.seq ?_
    refine WP.seq ?_
    refine WP.pure {} [] [12] [.bool b17] .nil (by kernel_rfl) (fun b22 => ?_)
    refine thn_n ?_
    refine WP.test (p := False) rfl hb18 (fun h23 => ?_) (fun h23 => ?_)
    · refine WP.seq ?_
      refine WP.pure {} [] [4] [.int .i64 0] .nil (by kernel_rfl) (fun b24 => ?_)
      refine thn_n ?_
      refine WP.ret ?_
      refine thn_r ?_
      refine thn_r ?_
      refine bodyQ.of _ rfl [.int .i64 0] ⟨rfl, trivial⟩ ?_
      exact ⟨by simp only [cmpI, pack]; congr 2; simp_all <;> omega, hp16.fr⟩
    · refine WP.skip ?_
      refine thn_n ?_
      refine WP.seq ?_
      refine WP.pure {} [] [4] [.int .i64 (-1)] .nil (by kernel_rfl) (fun b25 => ?_)
      refine thn_n ?_
      refine WP.ret ?_
      refine thn_r ?_
      refine bodyQ.of _ rfl [.int .i64 (-1)] ⟨rfl, trivial⟩ ?_
      exact ⟨by simp only [cmpI, pack]; congr 2; simp_all <;> omega, hp16.fr⟩
  · refine WP.skip ?_
    refine thn_n ?_
    refine WP.seq ?_
    refine WP.seq ?_
    refine WP.pure {} [] [0, 1, 13] [.int .i64 a, .int .i64 b, .bool b17] .nil (by kernel_rfl) (fun b26 => ?_)
    refine thn_n ?_
    refine WP.test (p := False) rfl hb18 (fun h27 => ?_) (fun h27 => ?_)
    · refine WP.seq ?_
      refine WP.pure {} [] [4] [.int .i64 1] .nil (by kernel_rfl) (fun b28 => ?_)
      refine thn_n ?_
      refine WP.ret ?_
      refine thn_r ?_
      refine bodyQ.of _ rfl [.int .i64 1] ⟨rfl, trivial⟩ ?_
      exact ⟨by simp only [cmpI, pack]; congr 2; simp_all <;> omega, hp16.fr⟩
    · refine WP.skip ?_
      refine thn_n ?_
      refine WP.seq ?_
      refine WP.seq ?_
      refine WP.pure {} [] [0, 1, 16] [.int .i64 a, .int .i64 b, .bool (decide (a < b))] .nil (by kernel_rfl) (fun b29 => ?_)
      refine thn_n ?_
      refine WP.test (p := a < b) rfl Bp.dec (fun h30 => ?_) (fun h30 => ?_)
      · refine WP.seq ?_
        refine WP.pure {} [] [4] [.int .i64 (-1)] .nil (by kernel_rfl) (fun b31 => ?_)
        refine thn_n ?_
        refine WP.ret ?_
        refine thn_r ?_
        refine bodyQ.of _ rfl [.int .i64 (-1)] ⟨rfl, trivial⟩ ?_
        exact ⟨by simp only [cmpI, pack]; congr 2; simp_all <;> omega, hp16.fr⟩
      · refine WP.skip ?_
        refine thn_n ?_
        refine WP.seq ?_
        refine WP.seq ?_
        refine WP.pure {} [] [19] [.bool (decide (b < a))] .nil (by kernel_rfl) (fun b32 => ?_)
        refine thn_n ?_
        refine WP.test (p := b < a) rfl Bp.dec (fun h33 => ?_) (fun h33 => ?_)
        · refine WP.seq ?_
          refine WP.pure {} [] [4] [.int .i64 1] .nil (by kernel_rfl) (fun b34 => ?_)
          refine thn_n ?_
          refine WP.ret ?_
          refine thn_r ?_
          refine bodyQ.of _ rfl [.int .i64 1] ⟨rfl, trivial⟩ ?_
          exact ⟨by simp only [cmpI, pack]; congr 2; simp_all <;> omega, hp16.fr⟩
        · refine WP.skip ?_
          refine thn_n ?_
          refine WP.seq ?_
          refine WP.pure {} [] [4] [.int .i64 0] .nil (by kernel_rfl) (fun b35 => ?_)
          refine thn_n ?_
          refine WP.ret ?_
          refine bodyQ.of _ rfl [.int .i64 0] ⟨rfl, trivial⟩ ?_
          exact ⟨by simp only [cmpI, pack]; congr 2; simp_all <;> omega, hp16.fr⟩

theorem isNaN_int (a : Int) (w : World) :
    Calls Try.prog 52 #[.int .i64 a] w (fun r_ w' => ∃ f_, r_ = .returned (.bool f_) ∧ Bp f_ (False) ∧ Fram Non w w') := by
  refine calls_of Try.func52 rfl 6 rfl (by simp) ?_
  have hp0 := Hp.init w
  have he0 : List.map (env0 [.int .i64 a]) [0] = [.int .i64 a] := by kernel_rfl
  obtain ⟨b0, he0⟩ := toMk he0
  rw [he0]
  clear he0
  refine WP.seq ?_
  refine WP.pure {} [] [0] [.int .i64 a] .nil (by kernel_rfl) (fun b1 => ?_)
  refine thn_n ?_
  refine WP.seq ?_
  refine WP.pure {} [] [2] [.bool (decide (¬ (a = a)))] .nil (by kernel_rfl) (fun b2 => ?_)
  refine thn_n ?_
  refine WP.ret ?_
  refine bodyQ.of _ rfl [.bool (decide (¬ (a = a)))] ⟨rfl, trivial⟩ ?_
  exact ⟨_, rfl, Bp.of Bp.dec (by simp), hp0.fr⟩

theorem cmp_int (a b : Int) (w : World) :
    Calls Try.prog 41 #[.int .i64 a, .int .i64 b] w (fun r_ w' => r_ = .returned (.int .i64 (cmpI a b)) ∧ Fram Non w w') := by
  refine calls_of Try.func41 rfl 20 rfl (by simp) ?_
  have hp0 := Hp.init w
  have he0 : List.map (env0 [.int .i64 a, .int .i64 b]) [0, 1] = [.int .i64 a, .int .i64 b] := by kernel_rfl
  obtain ⟨b0, he0⟩ := toMk he0
  rw [he0]
  clear he0
  refine WP.seq ?_
  refine WP.pure {} [] [0, 1] [.int .i64 a, .int .i64 b] .nil (by kernel_rfl) (fun b1 => ?_)
  refine thn_n ?_
  refine WP.seq ?_
  refine WP.region _ rfl (by kernel_rfl) ?_
  refine OPS.batch 1 {} [] [0, 1, 7] [.int .i64 a, .int .i64 b, .int .i64 a] .nil (by kernel_rfl) (fun b2 => ?_)
  refine OPS.cons (opStep.call (some 8) [.int .i64 a] (by kernel_rfl) (isNaN_int a _) ?_)
  rintro _ w5 ⟨b8, rfl, hb9, hf6⟩
  refine ⟨_, rfl, ?_⟩
  have hp7 := hp0.step hf6
  refine OPS.batch 1 {} [] [0, 1, 5] [.int .i64 a, .int .i64 b, .bool b8] .nil (by kernel_rfl) (fun b10 => ?_)
  refine OPS.nil ?_
  refine thn_n ?_
  refine WP.seq ?_
  refine WP.region _ rfl (by kernel_rfl) ?_
  refine OPS.batch 1 {} [] [0, 1, 5, 9] [.int .i64 a, .int .i64 b, .bool b8, .int .i64 b] .nil (by kernel_rfl) (fun b11 => ?_)
  refine OPS.cons (opStep.call (some 10) [.int .i64 b] (by kernel_rfl) (isNaN_int b _) ?_)
  rintro _ w14 ⟨b17, rfl, hb18, hf15⟩
  refine ⟨_, rfl, ?_⟩
  have hp16 := hp7.step hf15
  refine OPS.batch 1 {} [] [0, 1, 5, 6] [.int .i64 a, .int .i64 b, .bool b8, .bool b17] .nil (by kernel_rfl) (fun b19 => ?_)
  refine OPS.nil ?_
  refine thn_n ?_
  refine WP.seq ?_
  refine WP.seq ?_
  refine WP.pure {} [] [0, 1, 6, 11] [.int .i64 a, .int .i64 b, .bool b17, .bool b8] .nil (by kernel_rfl) (fun b20 => ?_)
  refine thn_n ?_
  refine WP.test (p := False) rfl hb9 (fun h21 => ?_) (fun h21 => ?_)
  · refine WP.seq ?_
    refine WP.seq ?_
    refine WP.pure {} [] [12] [.bool b17] .nil (by kernel_rfl) (fun b22 => ?_)
    refine thn_n ?_
    refine WP.test (p := False) rfl hb18 (fun h23 => ?_) (fun h23 => ?_)
    · refine WP.seq ?_
      refine WP.pure {} [] [4] [.int .i64 0] .nil (by kernel_rfl) (fun b24 => ?_)
      refine thn_n ?_
      refine WP.ret ?_
      refine thn_r ?_
      refine thn_r ?_
      refine bodyQ.of _ rfl [.int .i64 0] ⟨rfl, trivial⟩ ?_
      exact ⟨by simp only [cmpI, pack]; congr 2; simp_all <;> omega, hp16.fr⟩
    · refine WP.skip ?_
      refine thn_n ?_
      refine WP.seq ?_
      refine WP.pure {} [] [4] [.int .i64 (-1)] .nil (by kernel_rfl) (fun b25 => ?_)
      refine thn_n ?_
      refine WP.ret ?_
      refine thn_r ?_
      refine bodyQ.of _ rfl [.int .i64 (-1)] ⟨rfl, trivial⟩ ?_
      exact ⟨by simp only [cmpI, pack]; congr 2; simp_all <;> omega, hp16.fr⟩
  · refine WP.skip ?_
    refine thn_n ?_
    refine WP.seq ?_
    refine WP.seq ?_
    refine WP.pure {} [] [0, 1, 13] [.int .i64 a, .int .i64 b, .bool b17] .nil (by kernel_rfl) (fun b26 => ?_)
    refine thn_n ?_
    refine WP.test (p := False) rfl hb18 (fun h27 => ?_) (fun h27 => ?_)
    · refine WP.seq ?_
      refine WP.pure {} [] [4] [.int .i64 1] .nil (by kernel_rfl) (fun b28 => ?_)
      refine thn_n ?_
      refine WP.ret ?_
      refine thn_r ?_
      refine bodyQ.of _ rfl [.int .i64 1] ⟨rfl, trivial⟩ ?_
      exact ⟨by simp only [cmpI, pack]; congr 2; simp_all <;> omega, hp16.fr⟩
    · refine WP.skip ?_
      refine thn_n ?_
      refine WP.seq ?_
      refine WP.seq ?_
      refine WP.pure {} [] [0, 1, 16] [.int .i64 a, .int .i64 b, .bool (decide (a < b))] .nil (by kernel_rfl) (fun b29 => ?_)
      refine thn_n ?_
      refine WP.test (p := a < b) rfl Bp.dec (fun h30 => ?_) (fun h30 => ?_)
      · refine WP.seq ?_
        refine WP.pure {} [] [4] [.int .i64 (-1)] .nil (by kernel_rfl) (fun b31 => ?_)
        refine thn_n ?_
        refine WP.ret ?_
        refine thn_r ?_
        refine bodyQ.of _ rfl [.int .i64 (-1)] ⟨rfl, trivial⟩ ?_
        exact ⟨by simp only [cmpI, pack]; congr 2; simp_all <;> omega, hp16.fr⟩
      · refine WP.skip ?_
        refine thn_n ?_
        refine WP.seq ?_
        refine WP.seq ?_
        refine WP.pure {} [] [19] [.bool (decide (b < a))] .nil (by kernel_rfl) (fun b32 => ?_)
        refine thn_n ?_
        refine WP.test (p := b < a) rfl Bp.dec (fun h33 => ?_) (fun h33 => ?_)
        · refine WP.seq ?_
          refine WP.pure {} [] [4] [.int .i64 1] .nil (by kernel_rfl) (fun b34 => ?_)
          refine thn_n ?_
          refine WP.ret ?_
          refine thn_r ?_
          refine bodyQ.of _ rfl [.int .i64 1] ⟨rfl, trivial⟩ ?_
          exact ⟨by simp only [cmpI, pack]; congr 2; simp_all <;> omega, hp16.fr⟩
        · refine WP.skip ?_
          refine thn_n ?_
          refine WP.seq ?_
          refine WP.pure {} [] [4] [.int .i64 0] .nil (by kernel_rfl) (fun b35 => ?_)
          refine thn_n ?_
          refine WP.ret ?_
          refine bodyQ.of _ rfl [.int .i64 0] ⟨rfl, trivial⟩ ?_
          exact ⟨by simp only [cmpI, pack]; congr 2; simp_all <;> omega, hp16.fr⟩

theorem tag_Compare (a b : GTag) (w : World) :
    Calls Try.prog 21 #[GTag.val a, GTag.val b] w (fun r_ w' => r_ = .returned (.int .i64 (tagCmp a b)) ∧ Fram Non w w') := by
  refine calls_of Try.func21 rfl 19 rfl (by simp) ?_
  have hp0 := Hp.init w
  have he0 : List.map (env0 [GTag.val a, GTag.val b]) [0, 1] = [GTag.val a, GTag.val b] := by kernel_rfl
  obtain ⟨b0, he0⟩ := toMk he0
  rw [he0]
  clear he0
  refine WP.seq ?_
  refine WP.region _ rfl (by kernel_rfl) ?_
  refine OPS.cons (opStep.box hp0 [.int .i64 a.Count, .int .i64 a.Client] (by kernel_rfl) (fun g3 w1 hp2 => ?_))
  refine OPS.cons (opStep.box hp2 [.int .i64 b.Count, .int .i64 b.Client] (by kernel_rfl) (fun g6 w4 hp5 => ?_))
  refine OPS.batch 1 {} [] [2, 3] [.pointer (some ⟨g3, 0, none⟩), .pointer (some ⟨g6, 0, none⟩)] .nil (by kernel_rfl) (fun b7 => ?_)
  refine OPS.nil ?_
  refine thn_n ?_
  refine WP.seq ?_
  refine WP.seq ?_
  refine WP.region _ rfl (by kernel_rfl) ?_
  refine OPS.batch 4 {} [.int .i64 a.Count, .int .i64 b.Count] [2, 3, 7, 9] [.pointer (some ⟨g3, 0, none⟩), .pointer (some ⟨g6, 0, none⟩), .int .i64 a.Count, .int .i64 b.Count] (.cons (Ld.row1 (P := Try.prog) (t := 2) (o := 0) (v := .int .i64 a.Count) hp5.get1 (by kernel_rfl)) (.cons (Ld.row1 (P := Try.prog) (t := 2) (o := 0) (v := .int .i64 b.Count) hp5.get0 (by kernel_rfl)) .nil)) (by kernel_rfl) (fun b8 => ?_)
  refine OPS.cons (opStep.call (some 10) [.int .i64 a.Count, .int .i64 b.Count] (by kernel_rfl) (cmp_int64 a.Count b.Count _) ?_)
  rintro _ w11 ⟨rfl, hf12⟩
  refine ⟨_, rfl, ?_⟩
  have hp13 := hp5.step hf12
  refine OPS.batch 1 {} [] [2, 3, 5] [.pointer (some ⟨g3, 0, none⟩), .pointer (some ⟨g6, 0, none⟩), .int .i64 (cmpI a.Count b.Count)] .nil (by kernel_rfl) (fun b14 => ?_)
  refine OPS.nil ?_
  refine thn_n ?_
  refine WP.seq ?_
  refine WP.pure {} [] [2, 3, 5, 12] [.pointer (some ⟨g3, 0, none⟩), .pointer (some ⟨g6, 0, none⟩), .int .i64 (cmpI a.Count b.Count), .bool (decide (¬ ((cmpI a.Count b.Count) = 0)))] .nil (by kernel_rfl) (fun b15 => ?_)
  refine thn_n ?_
  refine WP.test (p := ¬ ((cmpI a.Count b.Count) = 0)) rfl Bp.dec (fun h16 => ?_) (fun h16 => ?_)
  · refine WP.seq ?_
    refine WP.pure {} [] [4] [.int .i64 (cmpI a.Count b.Count)] .nil (by kernel_rfl) (fun b17 => ?_)
    refine thn_n ?_
    refine WP.ret ?_
    refine thn_r ?_
    refine bodyQ.of _ rfl [.int .i64 (cmpI a.Count b.Count)] ⟨rfl, trivial⟩ ?_
    exact ⟨by simp only [tagCmp, pack]; congr 2; simp_all, hp13.fr⟩
  · replace h16 := Classical.not_not.1 h16
    refine WP.skip ?_
    refine thn_n ?_
    refine WP.seq ?_
    refine WP.region _ rfl (by kernel_rfl) ?_
    refine OPS.batch 4 {} [.int .i64 a.Client, .int .i64 b.Client] [15, 17] [.int .i64 a.Client, .int .i64 b.Client] (.cons (Ld.row1 (P := Try.prog) (t := 3) (o := 1) (v := .int .i64 a.Client) hp13.get1 (by kernel_rfl)) (.cons (Ld.row1 (P := Try.prog) (t := 3) (o := 1) (v := .int .i64 b.Client) hp13.get0 (by kernel_rfl)) .nil)) (by kernel_rfl) (fun b18 => ?_)
    refine OPS.cons (opStep.call (some 18) [.int .i64 a.Client, .int .i64 b.Client] (by kernel_rfl) (cmp_int a.Client b.Client _) ?_)
    rintro _ w21 ⟨rfl, hf22⟩
    refine ⟨_, rfl, ?_⟩
    have hp23 := hp13.step hf22
    refine OPS.batch 1 {} [] [4] [.int .i64 (cmpI a.Client b.Client)] .nil (by kernel_rfl) (fun b24 => ?_)
    refine OPS.nil ?_
    refine thn_n ?_
    refine WP.ret ?_
    refine bodyQ.of _ rfl [.int .i64 (cmpI a.Client b.Client)] ⟨rfl, trivial⟩ ?_
    exact ⟨by simp only [tagCmp, pack]; congr 2; simp_all, hp23.fr⟩

def maxT : List GTag → GTag
  | [] => ⟨0, 0⟩
  | x :: l => l.foldl (fun m y => if 0 < tagCmp y m then y else m) x
theorem maxT_one {l : List GTag} {y : GTag} (h : l[0]? = some y) : maxT (l.take 1) = y := by
  cases l with
  | nil => simp at h
  | cons a l => simp at h; subst h; simp [maxT]
theorem maxT_step {l : List GTag} {k : Nat} {y : GTag} (h1 : 1 ≤ k) (hy : l[k]? = some y) : maxT (l.take (k + 1)) = if 0 < tagCmp y (maxT (l.take k)) then y else maxT (l.take k) := by
  have hlt : k < l.length := (List.getElem?_eq_some_iff.1 hy).1
  have hget : l[k] = y := (List.getElem?_eq_some_iff.1 hy).2
  rw [List.take_succ_eq_append_getElem hlt, hget]
  cases l with
  | nil => simp at hlt
  | cons a l =>
    obtain ⟨k, rfl⟩ : ∃ j, k = j + 1 := ⟨k - 1, by omega⟩
    simp only [List.take_succ_cons, List.cons_append, maxT, List.foldl_append, List.foldl_cons, List.foldl_nil]
    rfl
theorem maxFunc (l : List GTag) (a : Option Addr) (c : Nat) (w : World) (hs : SlR w a l.length (l.flatMap GTag.cells)) (hl : 0 < l.length) (hb : l.length ≤ 8796093022207) :
    Calls Try.prog 45 #[.slice a l.length c, .func (.func 21) #[] #[]] w (fun r_ w' => r_ = .returned (GTag.val (maxT l)) ∧ Fram Non w w') := by
  refine calls_of Try.func45 rfl 33 rfl (by simp) ?_
  have hp0 := Hp.init w
  have he0 : List.map (env0 [.slice a l.length c, .func (.func 21) #[] #[]]) [0, 1] = [.slice a l.length c, .func (.func 21) #[] #[]] := by kernel_rfl
  obtain ⟨b0, he0⟩ := toMk he0
  rw [he0]
  clear he0
  refine WP.seq ?_
  refine WP.region _ rfl (by kernel_rfl) ?_
  refine OPS.cons (opStep.alloc hp0 [.int .i64 0, .int .i64 0] (by kernel_rfl) (fun g3 w1 hp2 => ?_))
  refine OPS.nil ?_
  refine thn_n ?_
  refine WP.seq ?_
  refine WP.seq ?_
  refine WP.pure {} [] [0, 1, 4, 9] [.slice a l.length c, .func (.func 21) #[] #[], .pointer (some ⟨g3, 0, none⟩), .bool (decide (((l.length : Nat) : Int) < 1))] .nil (by kernel_rfl) (fun b4 => ?_)
  refine thn_n ?_
  refine WP.test (p := ((l.length : Nat) : Int) < 1) rfl Bp.dec (fun h5 => ?_) (fun h5 => ?_)
  · refine WP.region _ rfl (by kernel_rfl) ?_
    refine OPS.batch 1 {} [] [0, 1, 4, 10] [.slice a l.length c, .func (.func 21) #[] #[], .pointer (some ⟨g3, 0, none⟩), .iface 9 (.string ⟨#[115, 108, 105, 99, 101, 115, 46, 77, 97, 120, 70, 117, 110, 99, 58, 32, 101, 109, 112, 116, 121, 32, 108, 105, 115, 116]⟩)] .nil (by kernel_rfl) (fun b6 => ?_)
    exfalso
    omega
  · refine WP.skip ?_
    refine thn_n ?_
    refine WP.seq ?_
    refine WP.region _ rfl (by kernel_rfl) ?_
    obtain ⟨y11, hy12⟩ : ∃ y, (l)[0]? = some y := ⟨_, List.getElem?_eq_getElem (by first | (omega) | (simp only [List.length_append, List.length_cons, List.length_nil]; omega) | (simp only [List.length_take, List.length_append, List.length_cons, List.length_nil]; omega))⟩
    refine OPS.batch 3 {} [GTag.val y11] [0, 1, 4, 13] [.slice a l.length c, .func (.func 21) #[] #[], .pointer (some ⟨g3, 0, none⟩), GTag.val y11] (.cons (show InB (0) (l.length) from ⟨by omega, by omega⟩) (.cons ((hs.at hp2).some (by omega)) (.cons (Ld.add0 (Ld.elN (P := Try.prog) (t := 31) (hs.at hp2).rd 2 (fun _ => rfl) hy12 (o := 0) (cs := [.int .i64 y11.Count, .int .i64 y11.Client]) (by kernel_rfl))) .nil))) (by kernel_rfl) (fun b13 => ?_)
    refine OPS.cons (opStep.alloc hp2 [.int .i64 0, .int .i64 0] (by kernel_rfl) (fun g16 w14 hp15 => ?_))
    refine OPS.cons (opStep.store0 hp15 rfl [.int .i64 y11.Count, .int .i64 y11.Client] [.int .i64 y11.Count, .int .i64 y11.Client] (by kernel_rfl) (fun w17 hp18 => ?_))
    refine OPS.nil ?_
    refine thn_n ?_
    refine WP.seq ?_
    refine WP.seq ?_
    refine WP.pure {} [] [0, 1, 4, 5, 6] [.slice a l.length c, .func (.func 21) #[] #[], .pointer (some ⟨g3, 0, none⟩), .pointer (some ⟨g16, 0, none⟩), .int .i64 1] .nil (by kernel_rfl) (fun b19 => ?_)
    refine thn_n ?_
    refine WP.block ?_
    refine WP.loop (fun mz_ e20 w21 => ∃ (k : Nat) (m : GTag), mz_ = l.length - k ∧ (1 ≤ k ∧ k ≤ l.length ∧ m = maxT (l.take k)) ∧ List.map e20 [0, 1, 4, 5, 6] = [.slice a l.length c, .func (.func 21) #[] #[], .pointer (some ⟨g3, 0, none⟩), .pointer (some ⟨g16, 0, none⟩), .int .i64 (k : Int)] ∧ Hp w Non [Res.row g16 [.int .i64 m.Count, .int .i64 m.Client] 31, Res.row g3 [.int .i64 0, .int .i64 0] 31] w21) (l.length - (1)) ⟨1, y11, rfl, ⟨by omega, by omega, (maxT_one hy12).symm⟩, by kernel_rfl, hp18⟩ ?_
    rintro _ e20 w21 ⟨k, m, rfl, hI23, hE24, hp22⟩
    obtain ⟨b25, rfl⟩ := toMk hE24
    clear hE24
    obtain ⟨h1, h2, h3⟩ := hI23
    refine WP.seq ?_
    refine WP.seq ?_
    refine WP.pure {} [] [0, 1, 4, 5, 6, 17] [.slice a l.length c, .func (.func 21) #[] #[], .pointer (some ⟨g3, 0, none⟩), .pointer (some ⟨g16, 0, none⟩), .int .i64 (k : Int), .bool (decide ((k : Int) < ((l.length : Nat) : Int)))] .nil (by kernel_rfl) (fun b26 => ?_)
    refine thn_n ?_
    refine WP.test (p := (k : Int) < ((l.length : Nat) : Int)) rfl Bp.dec (fun h27 => ?_) (fun h27 => ?_)
    · refine WP.skip ?_
      refine thn_n ?_
      refine WP.seq ?_
      refine WP.block ?_
      refine WP.seq ?_
      have hp30 := hp22.drew
      refine WP.quiet (fun w28 => Hp w Non [Res.row g16 [.int .i64 m.Count, .int .i64 m.Client] 31, Res.row g3 [.int .i64 0, .int .i64 0] 31] w28) (by kernel_rfl) hp30 ?_
      have hnehp30 : ∃ wz_, (fun w28 => Hp w Non [Res.row g16 [.int .i64 m.Count, .int .i64 m.Client] 31, Res.row g3 [.int .i64 0, .int .i64 0] 31] w28) wz_ := ⟨_, hp30⟩
      obtain ⟨y33, hy34⟩ : ∃ y, (l)[k]? = some y := ⟨_, List.getElem?_eq_getElem (by first | (omega) | (simp only [List.length_append, List.length_cons, List.length_nil]; omega) | (simp only [List.length_take, List.length_append, List.length_cons, List.length_nil]; omega))⟩
      refine QOPS.batch 6 {} [GTag.val y33, GTag.val m] [0, 1, 4, 5, 6, 20, 24, 25] [.slice a l.length c, .func (.func 21) #[] #[], .pointer (some ⟨g3, 0, none⟩), .pointer (some ⟨g16, 0, none⟩), .int .i64 (k : Int), .func (.func 21) #[] #[], GTag.val y33, GTag.val m] hnehp30 (fun w31 hp32 => QB.mk (.cons (show InB ((k : Int)) (l.length) from ⟨by omega, by omega⟩) (.cons ((hs.at hp32).some (by omega)) (.cons (Ld.add0 (Ld.elN (P := Try.prog) (t := 31) (hs.at hp32).rd 2 (fun _ => rfl) hy34 (o := 0) (cs := [.int .i64 y33.Count, .int .i64 y33.Client]) (by kernel_rfl))) (.cons (show Ld Try.prog w31 31 ⟨g16, 0, none⟩ (GTag.val m) from Ld.rowN (cs := [.int .i64 m.Count, .int .i64 m.Client]) hp32.get0 (by kernel_rfl)) .nil)))) (by kernel_rfl)) (fun b35 => ?_)
      refine QOPS.callV (some 26) [GTag.val y33, GTag.val m] rfl (by kernel_rfl) (fun w36 hp37 => (tag_Compare y33 m _).mono fun _ _ h => ⟨h.1, hp37.step h.2⟩) ?_
      refine QOPS.batch 1 {} [] [0, 1, 4, 5, 6, 27] [.slice a l.length c, .func (.func 21) #[] #[], .pointer (some ⟨g3, 0, none⟩), .pointer (some ⟨g16, 0, none⟩), .int .i64 (k : Int), .bool (decide (0 < (tagCmp y33 m)))] hnehp30 (fun w38 hp39 => QB.mk .nil (by kernel_rfl)) (fun b40 => ?_)
      refine QOPS.nil (fun w41 hp42 => ?_)
      refine thn_n ?_
      refine WP.test (p := 0 < (tagCmp y33 m)) rfl Bp.dec (fun h43 => ?_) (fun h43 => ?_)
      · refine WP.region _ rfl (by kernel_rfl) ?_
        refine OPS.batch 4 {} [GTag.val y33] [0, 1, 4, 5, 6, 31] [.slice a l.length c, .func (.func 21) #[] #[], .pointer (some ⟨g3, 0, none⟩), .pointer (some ⟨g16, 0, none⟩), .int .i64 (k : Int), GTag.val y33] (.cons (show InB ((k : Int)) (l.length) from ⟨by omega, by omega⟩) (.cons ((hs.at hp42).some (by omega)) (.cons (Ld.add0 (Ld.elN (P := Try.prog) (t := 31) (hs.at hp42).rd 2 (fun _ => rfl) hy34 (o := 0) (cs := [.int .i64 y33.Count, .int .i64 y33.Client]) (by kernel_rfl))) .nil))) (by kernel_rfl) (fun b44 => ?_)
        refine OPS.cons (opStep.store0 hp42 rfl [.int .i64 y33.Count, .int .i64 y33.Client] [.int .i64 y33.Count, .int .i64 y33.Client] (by kernel_rfl) (fun w45 hp46 => ?_))
        refine OPS.nil ?_
        refine blk_n ?_
        refine thn_n ?_
        refine WP.pure {} [] [0, 1, 4, 5, 6] [.slice a l.length c, .func (.func 21) #[] #[], .pointer (some ⟨g3, 0, none⟩), .pointer (some ⟨g16, 0, none⟩), .int .i64 ((k : Int) + 1)] (.cons (show Rng .i64 ((k : Int) + 1) from Rng.i64 (by omega)) .nil) (by kernel_rfl) (fun b47 => ?_)
        refine thn_n ?_
        exact ⟨l.length - (k + 1), (by omega), k + 1, y33, rfl, ⟨by omega, by omega, by rw [maxT_step h1 hy34, ← h3, if_pos h43]⟩, by kernel_rfl, hp46⟩
      · refine WP.skip ?_
        refine blk_n ?_
        refine thn_n ?_
        refine WP.pure {} [] [0, 1, 4, 5, 6] [.slice a l.length c, .func (.func 21) #[] #[], .pointer (some ⟨g3, 0, none⟩), .pointer (some ⟨g16, 0, none⟩), .int .i64 ((k : Int) + 1)] (.cons (show Rng .i64 ((k : Int) + 1) from Rng.i64 (by omega)) .nil) (by kernel_rfl) (fun b48 => ?_)
        refine thn_n ?_
        exact ⟨l.length - (k + 1), (by omega), k + 1, m, rfl, ⟨by omega, by omega, by rw [maxT_step h1 hy34, ← h3, if_neg h43]⟩, by kernel_rfl, hp42⟩
    · refine WP.exit ?_
      refine thn_x ?_
      refine thn_x ?_
      refine blk_hit ?_
      refine thn_n ?_
      refine WP.seq ?_
      refine WP.region _ rfl (by kernel_rfl) ?_
      refine OPS.batch 1 {} [GTag.val m] [4, 32] [.pointer (some ⟨g3, 0, none⟩), GTag.val m] (.cons (show Ld Try.prog w21 31 ⟨g16, 0, none⟩ (GTag.val m) from Ld.rowN (cs := [.int .i64 m.Count, .int .i64 m.Client]) hp22.get0 (by kernel_rfl)) .nil) (by kernel_rfl) (fun b49 => ?_)
      refine OPS.cons (opStep.store1 hp22 rfl [.int .i64 m.Count, .int .i64 m.Client] [.int .i64 m.Count, .int .i64 m.Client] (by kernel_rfl) (fun w50 hp51 => ?_))
      refine OPS.nil ?_
      refine thn_n ?_
      refine WP.ret ?_
      refine bodyQ.of _ rfl [GTag.val m] ⟨⟨_, rfl, (show Ld Try.prog w50 31 ⟨g3, 0, none⟩ (GTag.val m) from Ld.rowN (cs := [.int .i64 m.Count, .int .i64 m.Client]) hp51.get1 (by kernel_rfl))⟩, trivial⟩ ?_
      exact ⟨by rw [show maxT l = m from by rw [h3, List.take_of_length_le (by omega)]]; rfl, hp51.fr⟩

theorem tag_Max (l : List GTag) (a : Option Addr) (c : Nat) (w : World) (hs : SlR w a l.length (l.flatMap GTag.cells)) (hb : l.length ≤ 8796093022207) :
    Calls Try.prog 32 #[.slice a l.length c] w (fun r_ w' => r_ = .returned (GTag.val (maxT l)) ∧ Fram Non w w') := by
  refine calls_of Try.func32 rfl 9 rfl (by simp) ?_
  have hp0 := Hp.init w
  have he0 : List.map (env0 [.slice a l.length c]) [0] = [.slice a l.length c] := by kernel_rfl
  obtain ⟨b0, he0⟩ := toMk he0
  rw [he0]
  clear he0
  refine WP.seq ?_
  refine WP.region _ rfl (by kernel_rfl) ?_
  refine OPS.cons (opStep.alloc hp0 [.int .i64 0, .int .i64 0] (by kernel_rfl) (fun g3 w1 hp2 => ?_))
  refine OPS.nil ?_
  refine thn_n ?_
  refine WP.seq ?_
  refine WP.seq ?_
  refine WP.pure {} [] [0, 2, 5] [.slice a l.length c, .pointer (some ⟨g3, 0, none⟩), .bool (decide (((l.length : Nat) : Int) = 0))] .nil (by kernel_rfl) (fun b4 => ?_)
  refine thn_n ?_
  refine WP.test (p := ((l.length : Nat) : Int) = 0) rfl Bp.dec (fun h5 => ?_) (fun h5 => ?_)
  · refine WP.seq ?_
    refine WP.region _ rfl (by kernel_rfl) ?_
    refine OPS.batch 1 {} [] [2, 6] [.pointer (some ⟨g3, 0, none⟩), .agg #[.int .i64 0, .int .i64 0]] .nil (by kernel_rfl) (fun b6 => ?_)
    refine OPS.cons (opStep.store0 hp2 rfl [.int .i64 0, .int .i64 0] [.int .i64 0, .int .i64 0] (by kernel_rfl) (fun w7 hp8 => ?_))
    refine OPS.nil ?_
    refine thn_n ?_
    refine WP.ret ?_
    refine thn_r ?_
    refine bodyQ.of _ rfl [.agg #[.int .i64 0, .int .i64 0]] ⟨⟨_, rfl, (show Ld Try.prog w7 31 ⟨g3, 0, none⟩ (.agg #[.int .i64 0, .int .i64 0]) from Ld.rowN (cs := [.int .i64 0, .int .i64 0]) hp8.get0 (by kernel_rfl))⟩, trivial⟩ ?_
    exact ⟨by first | rfl | (rw [show l = [] from List.eq_nil_of_length_eq_zero (by omega)]; rfl), hp8.fr⟩
  · refine WP.skip ?_
    refine thn_n ?_
    refine WP.seq ?_
    refine WP.region _ rfl (by kernel_rfl) ?_
    refine OPS.batch 1 {} [] [2, 7] [.pointer (some ⟨g3, 0, none⟩), .slice a l.length c] .nil (by kernel_rfl) (fun b9 => ?_)
    refine OPS.cons (opStep.call (some 8) [.slice a l.length c, .func (.func 21) #[] #[]] (by kernel_rfl) (maxFunc l _ c _ (hs.at hp2) (by omega) (by omega)) ?_)
    rintro _ w12 ⟨rfl, hf13⟩
    refine ⟨_, rfl, ?_⟩
    have hp14 := hp2.step hf13
    refine OPS.cons (opStep.store0 hp14 rfl [.int .i64 ((maxT l).Count), .int .i64 ((maxT l).Client)] [.int .i64 ((maxT l).Count), .int .i64 ((maxT l).Client)] (by kernel_rfl) (fun w15 hp16 => ?_))
    refine OPS.nil ?_
    refine thn_n ?_
    refine WP.ret ?_
    refine bodyQ.of _ rfl [GTag.val (maxT l)] ⟨⟨_, rfl, (show Ld Try.prog w15 31 ⟨g3, 0, none⟩ (GTag.val (maxT l)) from Ld.rowN (cs := [.int .i64 ((maxT l).Count), .int .i64 ((maxT l).Client)]) hp16.get0 (by kernel_rfl))⟩, trivial⟩ ?_
    exact ⟨by first | rfl | (rw [show l = [] from List.eq_nil_of_length_eq_zero (by omega)]; rfl), hp16.fr⟩

end Go.Proofs.Ytdkgdidnknojlaa.K
namespace Go.Proofs.Ytdkgdidnknojlaa.K
open Go Go.RowKit
set_option linter.unusedVariables false
set_option linter.unusedSimpArgs false

structure KeyNr {κ : Type} [DecidableEq κ] (P : Program) (t : TypeId) (kf : κ → Value) : Prop where
  same : ∃ d, P.underlying t = some d ∧ ∀ a b, Instr.sameNow d (kf a) (kf b) = some (decide (a = b))
  chk : ∀ a, chkB P t (kf a) = true
  bits : ∀ a, Instr.sameBits 10000 (kf a) (kf a) = true
theorem ba_beq (a b : ByteArray) : (a == b) = decide (a = b) := by
  cases a with | mk a =>
  cases b with | mk b =>
  show (a == b) = _
  by_cases e : a = b
  · subst e; simp
  · rw [decide_eq_false (fun h => e (by cases h; rfl))]; exact beq_eq_false_iff_ne.2 e
theorem keyStr {P : Program} {t : TypeId} (h : P.underlying t = some .string) : KeyNr (κ := ByteArray) P t (fun s => .string s) where
  same := ⟨_, h, fun a b => by
    simp only [Instr.sameNow, ba_beq]⟩
  chk := fun a => by simp [chkB, h]
  bits := fun a => by unfold Instr.sameBits; rw [ba_beq]; exact decide_eq_true rfl
section
variable {κ ν : Type} {P : Program} {t : TypeId} {kf : κ → Value} {vf : ν → Value} [DecidableEq κ] {w : World}
theorem find_now {d : TypeDesc} (hd : ∀ a b, Instr.sameNow d (kf a) (kf b) = some (decide (a = b))) (k : κ) : ∀ (es : List MapEntry) (l : List (κ × ν)) (i : Nat), es.map (fun e => (e.key, e.val)) = l.map (fun p => (kf p.1, vf p.2)) →
    Instr.findNow d (kf k) es i = some ((l.findIdx? (fun p => decide (k = p.1))).bind fun j => (l[j]?).map fun p => (i + j, vf p.2))
  | [], [], i, _ => by simp [Instr.findNow]
  | [], _ :: _, _, h => by simp at h
  | _ :: _, [], _, h => by simp at h
  | e :: es, p :: l, i, h => by
    simp only [List.map_cons, List.cons.injEq, Prod.mk.injEq] at h
    obtain ⟨⟨h1, h2⟩, h3⟩ := h
    have ih := find_now hd k es l (i + 1) h3
    simp only [Instr.findNow, h1, hd]
    by_cases hk : k = p.1
    · simp [hk, h2, List.findIdx?_cons]
    · simp only [hk, decide_false, ih, List.findIdx?_cons]
      cases hf : l.findIdx? (fun p => decide (k = p.1)) with
      | none => simp
      | some j => simp [Nat.add_comm, Nat.add_left_comm]
theorem find_nr (K : KeyNr P t kf) (k : κ) (es : List MapEntry) (l : List (κ × ν)) (h : es.map (fun e => (e.key, e.val)) = l.map (fun p => (kf p.1, vf p.2))) :
    (Instr.findKey t (kf k) es).run P w = .ok ((l.findIdx? (fun p => decide (k = p.1))).bind fun j => (l[j]?).map fun p => (0 + j, vf p.2)) w := by
  obtain ⟨d, hu, hd⟩ := K.same
  simp only [Instr.findKey, Sem.run_bind, run_underlying hu, Result.andThen_ok, find_now hd k es l 0 h, Sem.run_pure]
theorem Lk.okN {mt et : TypeId} {b : Nat} {l : List (κ × ν)} (K : KeyNr P t kf) (hm : P.underlying mt = some (.map t et)) (h : (Res.mp b kf vf l).holds w) (k : κ) {z : Value} (hz : (zeroValue et).run P w = .ok z w) (ok : Bool) :
    Lk P w mt (.map (some b)) (kf k) ok (if ok then .tuple #[(match mapV l k with | some v => vf v | none => z), .bool (mapV l k).isSome] else (match mapV l k with | some v => vf v | none => z)) := by
  obtain ⟨es, c, hb, he, hbn⟩ := h
  have hf := find_nr (P := P) (w := w) K k es.toList l he
  have hg : (getObj b).run P w = .ok (.map es c) w := MapKept.run_getObj_map hb
  unfold Lk Instr.lookup
  simp only [Sem.run_bind, run_underlying hm, Result.andThen_ok, hg, Sem.run_pure, run_chk (K.chk k), hf]
  unfold mapV
  cases l.findIdx? (fun p => decide (k = p.1)) with
  | none => simp [hz]
  | some j =>
    cases hj : l[j]? with
    | none => simp [hj, hz]
    | some p => simp [hj]
theorem zero_of {et : TypeId} {z : Value} (hz : (P.info? et).bind (·.zero) = some z) : (zeroValue et).run P w = .ok z w := by
  cases hi : P.info? et with
  | none => simp [hi] at hz
  | some i => simp [hi] at hz; simp [zeroValue, typeInfo, hi, hz]
theorem Lk.noD {mt et : TypeId} {b : Nat} {l : List (κ × ν)} (K : KeyNr P t kf) (hm : P.underlying mt = some (.map t et)) (h : (Res.mp b kf vf l).holds w) (k : κ) (d : ν) (hz : (P.info? et).bind (·.zero) = some (vf d)) :
    Lk P w mt (.map (some b)) (kf k) false (vf ((mapV l k).getD d)) := by
  have := Lk.okN K hm h k (zero_of (w := w) hz) false
  rw [if_neg (by decide)] at this
  cases hv : mapV l k <;> simpa [hv] using this
end
section
variable {κ ν : Type} {P : Program} {t : TypeId} {kf : κ → Value} {vf : ν → Value} [DecidableEq κ] {N : Nat} {ops : Array Oper} {Q : Post} {next : Env → World → Prop} {e : Env} {w w0 : World} {M : Nat → Prop} {A B : List Res} {ty : TypeId} {pos : String} {af : Array Edge}
theorem run_mapUpdateN {mt et : TypeId} {b : Nat} {l : List (κ × ν)} (K : KeyNr P t kf) (hm : P.underlying mt = some (.map t et)) (h : (Res.mp b kf vf l).holds w) (k : κ) (v : ν) :
    ∃ w', (Instr.mapUpdate mt (.map (some b)) (kf k) (vf v)).run P w = .ok () w' ∧ (Res.mp b kf vf (mapPut l k v)).holds w' ∧ Fram (fun x => x = b) w w' := by
  obtain ⟨es, c, hb, he, hbn⟩ := h
  have hf := find_nr (P := P) (w := w) K k es.toList l he
  have hg : (getObj b).run P w = .ok (.map es c) w := MapKept.run_getObj_map hb
  have fr : ∀ o, Fram (fun x => x = b) w { w with heap := w.heap.setIfInBounds b o } := fun o => ⟨rfl, rfl, rfl, by simp, fun i _ hn => (MapKept.heap_set hb).2 i hn⟩
  cases hx : l.findIdx? (fun p => decide (k = p.1)) with
  | none =>
    refine ⟨_, ?_, ⟨es.push { key := kf k, val := vf v, born := c }, c + 1, (MapKept.heap_set (o' := .map (es.push { key := kf k, val := vf v, born := c }) (c + 1)) hb).1, ?_, hbn.push⟩, fr _⟩
    · simp only [Instr.mapUpdate, Sem.run_bind, run_underlying hm, Result.andThen_ok, hg, run_chk (K.chk k), hf, hx, Option.bind_none]
      exact MapKept.run_setObj_map _ hb
    · unfold Ents at *
      simp [mapPut, hx, he]
  | some j =>
    obtain ⟨hj, hp, _⟩ := List.findIdx?_eq_some_iff_getElem.1 hx
    have hlen : es.size = l.length := by have := congrArg List.length he; simpa using this
    have hkey : (es[j]'(by omega)).key = kf k := by
      have := congrArg (fun q => q[j]?) he
      simp [hlen, hj] at this
      rw [this.1, show l[j].1 = k from (of_decide_eq_true hp).symm]
    refine ⟨_, ?_, ⟨es.modify j fun e => { e with key := kf k, val := vf v }, c, (MapKept.heap_set (o' := .map (es.modify j fun e => { e with key := kf k, val := vf v }) c) hb).1, ?_, hbn.modify⟩, fr _⟩
    · simp only [Instr.mapUpdate, Sem.run_bind, run_underlying hm, Result.andThen_ok, hg, run_chk (K.chk k), hf, hx, Option.bind_some, List.getElem?_eq_getElem hj, Option.map_some, Nat.zero_add]
      simp only [Instr.keyThatStays, show es[j]? = some (es[j]'(by omega)) from by simp [hlen, hj], Option.map_some, Option.getD_some, hkey, K.bits k, if_true, Sem.run_pure, Result.andThen_ok]
      exact MapKept.run_setObj_map _ hb
    · unfold Ents at *
      simp only [mapPut, hx]
      apply List.ext_getElem?
      intro i
      have hi := congrArg (fun q => q[i]?) he
      simp only [List.getElem?_map, Array.getElem?_toList] at hi
      simp only [List.getElem?_map, Array.getElem?_toList, Array.getElem?_modify, List.getElem?_modify]
      by_cases hij : j = i
      · subst hij; simp [hlen, hj]
      · simp [hij, hi]
theorem opStep.mapUpdateN {mt et : TypeId} {x y z : Operand} {b : Nat} {l : List (κ × ν)} (K : KeyNr P t kf) (hm : P.underlying mt = some (.map t et)) (hp : Hp w0 M (Res.mp b kf vf l :: B) w) (k : κ) (v : ν)
    (hx : (ev e x, ev e y, ev e z) = (.map (some b), kf k, vf v))
    (h : ∀ w', Hp w0 M (Res.mp b kf vf (mapPut l k v) :: B) w' → next e w') :
    opStep P N ops Q ⟨none, .mapUpdate mt x y z, ty, pos, af, none⟩ next e w := by
  simp only [Prod.mk.injEq] at hx
  obtain ⟨hx, hy, hz⟩ := hx
  obtain ⟨w', hrun, hh, hf⟩ := run_mapUpdateN (P := P) (w := w) K hm (Hp.get (A := []) hp) k v
  refine opStep.skip (w' := w') rfl ?_ (h w' ?_)
  · simp [execOp, hx, hy, hz, hrun]
  · exact Hp.mod (A := []) hp hf _ hh fun i hi => ⟨Nat.lt_of_lt_of_le (Hp.lt (A := []) hp i hi) hf.size, .inl hi⟩
end
theorem mapV_put {κ ν : Type} [DecidableEq κ] {l : List (κ × ν)} {k j : κ} {v : ν} : mapV (mapPut l k v) j = if j = k then some v else mapV l j := by
  induction l with
  | nil => show mapV [(k, v)] j = _; rw [mapV_cons]
  | cons p l ih =>
    unfold mapPut at ih ⊢
    rw [List.findIdx?_cons]
    by_cases h : k = p.1
    · simp only [h, decide_true, if_true, List.modify_zero_cons, mapV_cons]
      by_cases hj : j = p.1 <;> simp [hj]
    · simp only [h, decide_false, Bool.false_eq_true, if_false]
      cases hf : l.findIdx? (fun p => decide (k = p.1)) with
      | none =>
        simp only [hf, Option.map_none, List.cons_append, mapV_cons] at ih ⊢
        rw [ih]
        by_cases hj : j = p.1
        · subst hj; rw [if_pos rfl, if_neg (fun e => h e.symm)]; exact (if_pos rfl).symm
        · rw [if_neg hj]; by_cases e : j = k <;> simp [e, hj, h]
      | some i =>
        simp only [hf, Option.map_some, List.modify_succ_cons, mapV_cons] at ih ⊢
        rw [ih]
        by_cases hj : j = p.1
        · subst hj; rw [if_pos rfl, if_neg (fun e => h e.symm)]; exact (if_pos rfl).symm
        · rw [if_neg hj]; by_cases e : j = k <;> simp [e, hj, h]
end Go.Proofs.Ytdkgdidnknojlaa.K
namespace Go.Proofs.Ytdkgdidnknojlaa.K
open Go Go.RowKit
set_option linter.unusedVariables false
set_option linter.unusedSimpArgs false
/-- A map that is gone through: which of its pairs, by their numbers, have come, in this order. -/
def Res.mpi {κ ν : Type} (b r : Nat) (kf : κ → Value) (vf : ν → Value) (l : List (κ × ν)) (done : List Nat) : Res :=
  ⟨fun k => k = b ∨ k = r, fun w => ∃ es c seen, w.heap[b]? = some (.map es c) ∧ Ents kf vf es l ∧ Born es c ∧ w.heap[r]? = some (.mapIter (some b) c seen c) ∧ seen.toList = done.map (fun i => (es.toList.map (·.born))[i]!) ∧ done.Nodup ∧ (∀ i ∈ done, i < l.length),
    fun h ⟨es, c, seen, h1, h2, h3, h4, h5⟩ => ⟨es, c, seen, (h _ (.inl rfl)).trans h1, h2, h3, (h _ (.inr rfl)).trans h4, h5⟩⟩
theorem ents_len {κ ν : Type} {kf : κ → Value} {vf : ν → Value} {es : Array MapEntry} {l : List (κ × ν)} (h : Ents kf vf es l) : es.size = l.length := by
  have := congrArg List.length h
  simpa using this
theorem ents_at {κ ν : Type} {kf : κ → Value} {vf : ν → Value} {es : Array MapEntry} {l : List (κ × ν)} (h : Ents kf vf es l) {i : Nat} {p : κ × ν} (hp : l[i]? = some p) : ∃ e, es[i]? = some e ∧ e.key = kf p.1 ∧ e.val = vf p.2 := by
  have h1 := congrArg (fun q => q[i]?) h
  simp only [List.getElem?_map, Array.getElem?_toList, hp, Option.map_some] at h1
  cases he : es[i]? with
  | none => simp [he] at h1
  | some e => simp [he] at h1; exact ⟨e, rfl, h1.1, h1.2⟩
theorem born_bang {es : Array MapEntry} {i : Nat} {e : MapEntry} (h : es[i]? = some e) : (es.toList.map (·.born))[i]! = e.born := by
  rw [List.getElem!_eq_getElem?_getD, List.getElem?_map, Array.getElem?_toList, h]; rfl
theorem born_inj {es : Array MapEntry} {c i j : Nat} {e f : MapEntry} (h : Born es c) (hi : es[i]? = some e) (hj : es[j]? = some f) (hb : e.born = f.born) : i = j := by
  have h1 := List.pairwise_iff_getElem.1 h.1
  obtain ⟨a1, a2⟩ := Array.getElem?_eq_some_iff.1 hi
  obtain ⟨b1, b2⟩ := Array.getElem?_eq_some_iff.1 hj
  by_cases e1 : i < j
  · have := h1 i j (by simpa using a1) (by simpa using b1) e1
    simp only [Array.getElem_toList, a2, b2] at this; omega
  · by_cases e2 : j < i
    · have := h1 j i (by simpa using b1) (by simpa using a1) e2
      simp only [Array.getElem_toList, a2, b2] at this; omega
    · omega
section
variable {κ ν : Type} {P : Program} {kf : κ → Value} {vf : ν → Value} {w : World}
theorem run_getIter {r : Nat} {m : Option Nat} {a b : Nat} {s : Array Nat} (hb : w.heap[r]? = some (.mapIter m a s b)) : (getObj r).run P w = .ok (.mapIter m a s b) w := by simp [getObj, Sem.run, hb]
theorem run_setIter {r : Nat} {m : Option Nat} {a b : Nat} {s : Array Nat} (o' : Obj) (hb : w.heap[r]? = some (.mapIter m a s b)) : (setObj r o').run P w = .ok () { w with heap := w.heap.setIfInBounds r o' } := by simp [setObj, Sem.run, hb]
theorem seen_in {es : Array MapEntry} {c : Nat} {seen : Array Nat} {done : List Nat} {n : Nat} (hb : Born es c) (hn : es.size = n) (hs : seen.toList = done.map (fun i => (es.toList.map (·.born))[i]!)) (hd : ∀ i ∈ done, i < n) {i : Nat} {e : MapEntry} (he : es[i]? = some e) :
    seen.contains e.born = true ↔ i ∈ done := by
  rw [← Array.contains_toList, hs, List.contains_iff_mem, List.mem_map]
  constructor
  · rintro ⟨j, hj, e1⟩
    have hjl := hd j hj
    obtain ⟨f, hf⟩ : ∃ f, es[j]? = some f := ⟨_, Array.getElem?_eq_getElem (by omega)⟩
    rw [born_bang hf] at e1
    rw [born_inj hb he hf e1.symm]; exact hj
  · intro h; exact ⟨i, h, born_bang he⟩
theorem run_nextM {b r : Nat} {l : List (κ × ν)} {done : List Nat} {T : TypeId} (h : (Res.mpi b r kf vf l done).holds w) :
    ((Instr.next (.pointer (some ⟨r, 0, none⟩)) false T).run P w = .ok (.tuple #[.bool false]) w ∧ ∀ i, i < l.length → i ∈ done) ∨
    (∃ i p w', l[i]? = some p ∧ i ∉ done ∧ (Instr.next (.pointer (some ⟨r, 0, none⟩)) false T).run P w = .ok (.tuple #[.bool true, kf p.1, vf p.2]) w' ∧ (Res.mpi b r kf vf l (done ++ [i])).holds w' ∧ Fram (fun x => x = r) w w') := by
  obtain ⟨es, c, seen, hb, he, hbn, hr, hs, hnd, hlt⟩ := h
  have hlen := ents_len he
  have hg1 := run_getIter (P := P) hr
  have hg2 := MapKept.run_getObj_map (P := P) hb
  have hck : (!seen.isEmpty && !es.isEmpty && es.all (·.born ≥ c)) = false := by
    by_cases h0 : es.size = 0
    · have : es.isEmpty = true := by simpa [Array.isEmpty] using h0
      simp [this]
    · have : es.all (·.born ≥ c) = false := by
        rw [Bool.eq_false_iff]
        intro hall
        have h1 := Array.all_eq_true.1 hall 0 (by omega)
        have h2 := hbn.2 es[0] (by simp)
        simp at h1; omega
      simp [this]
  generalize hL : es.filter (fun e => !seen.contains e.born) = left
  have hold : left.filter (·.born < c) = left := by
    rw [Array.filter_eq_self]
    intro a ha
    rw [← hL] at ha
    have := (Array.mem_filter.1 ha).1
    exact decide_eq_true (hbn.2 a (by simpa using this))
  have hnew : left.filter (·.born ≥ c) = #[] := by
    rw [Array.filter_eq_empty_iff]
    intro a ha
    rw [← hL] at ha
    have := hbn.2 a (by simpa using (Array.mem_filter.1 ha).1)
    simp; omega
  by_cases h0 : left.size = 0
  · left
    have hz : left = #[] := Array.eq_empty_of_size_eq_zero h0
    refine ⟨?_, fun i hi => ?_⟩
    · unfold Instr.next
      simp only [Sem.run_bind, hg1, hg2, Result.andThen_ok, hck, hL, hold, hnew, hz]
      simp [Question.forced]
    · obtain ⟨e, hei⟩ : ∃ e, es[i]? = some e := ⟨_, Array.getElem?_eq_getElem (by omega)⟩
      apply Classical.byContradiction
      intro hn
      have h1 : e ∈ left := by
        rw [← hL, Array.mem_filter]
        refine ⟨Array.mem_of_getElem? hei, ?_⟩
        have := seen_in hbn hlen hs hlt hei
        simp only [Bool.not_eq_true', Bool.eq_false_iff]
        exact fun hh => hn (this.1 hh)
      rw [hz] at h1; simp at h1
  · right
    have hne : left.isEmpty = false := by simp [Array.isEmpty, h0]
    have hcand : ((if left.isEmpty then #[none] else #[]) ++ (left ++ (#[] : Array MapEntry)).map some) = left.map some := by simp [hne]
    obtain ⟨k, w1, hk, hch, hw1⟩ : ∃ k w1, k < left.size ∧ (choose (.mapNext left.size)).run P w = .ok k w1 ∧ (w1 = w ∨ w1 = w.drew) := by
      by_cases h1 : left.size ≤ 1
      · exact ⟨0, w, by omega, by simp [Question.forced, h1], .inl rfl⟩
      · exact ⟨w.tape w.drawn (.mapNext left.size) % left.size, w.drew, Nat.mod_lt _ (by omega), by simp only [run_choose_drew, Question.forced, h1, decide_false, Bool.false_eq_true, if_false, Question.cut], .inr rfl⟩
    have hkm : left[k] ∈ es.filter (fun e => !seen.contains e.born) := by rw [hL]; exact Array.getElem_mem hk
    rw [Array.mem_filter] at hkm
    obtain ⟨hm1, hm2⟩ := hkm
    obtain ⟨i, hi⟩ := Array.getElem?_of_mem hm1
    have hil : i < l.length := by have := (Array.getElem?_eq_some_iff.1 hi).1; omega
    obtain ⟨p, hp⟩ : ∃ p, l[i]? = some p := ⟨_, List.getElem?_eq_getElem hil⟩
    obtain ⟨e', he', hk1, hk2⟩ := ents_at he hp
    obtain rfl := Option.some.inj (hi.symm.trans he')
    have hnd2 : i ∉ done := fun hd => by
      have := (seen_in hbn hlen hs hlt hi).2 hd
      rw [this] at hm2; simp at hm2
    have hr1 : w1.heap = w.heap := by rcases hw1 with rfl | rfl <;> rfl
    have hfr1 : Fram Non w w1 := by rcases hw1 with rfl | rfl; exact Fram.refl _ _; exact Fram.drew _ _
    have hbr : b ≠ r := fun e => by subst e; rw [hb] at hr; cases hr
    refine ⟨i, p, { w1 with heap := w1.heap.setIfInBounds r (.mapIter (some b) c (seen.push left[k].born) c) }, hp, hnd2, ?_, ⟨es, c, seen.push left[k].born, ?_, he, hbn, ?_, ?_, ?_, ?_⟩, ?_⟩
    · unfold Instr.next
      simp only [Sem.run_bind, hg1, hg2, Result.andThen_ok, hck, hL, hold, hnew, hcand, Array.size_map, hch, Bool.false_eq_true, if_false]
      simp only [Array.getElem?_map, Array.getElem?_eq_getElem hk, Option.map_some, Sem.run_bind]
      rw [run_setIter (P := P) (w := w1) _ (hr1 ▸ hr)]
      simp only [Result.andThen_ok, Sem.run_pure, hk1, hk2]
    · show (w1.heap.setIfInBounds r _)[b]? = _
      rw [hr1]; exact ((MapKept.heap_set hr).2 b hbr).trans hb
    · show (w1.heap.setIfInBounds r _)[r]? = _
      rw [hr1]; exact (MapKept.heap_set hr).1
    · rw [Array.toList_push, hs, List.map_append, List.map_cons, List.map_nil, born_bang hi]
    · rw [List.nodup_append]
      exact ⟨hnd, List.nodup_cons.2 ⟨by simp, List.nodup_nil⟩, fun a ha c hc e => by rw [List.mem_singleton.1 hc] at e; subst e; exact hnd2 ha⟩
    · intro j hj
      rcases List.mem_append.1 hj with hj | hj
      · exact hlt j hj
      · rw [List.mem_singleton.1 hj]; exact hil
    · refine ⟨hfr1.os, hfr1.tape, hfr1.output, ?_, fun j hj hn => ?_⟩
      · show w.heap.size ≤ (w1.heap.setIfInBounds r _).size
        rw [hr1]; simp
      · show (w1.heap.setIfInBounds r _)[j]? = _
        rw [hr1]; exact (MapKept.heap_set hr).2 j hn
theorem run_entryM {b r : Nat} {l : List (κ × ν)} {done : List Nat} {i : Nat} {p : κ × ν} (h : (Res.mpi b r kf vf l (done ++ [i])).holds w) (hp : l[i]? = some p) :
    (Instr.entry (.pointer (some ⟨r, 0, none⟩))).run P w = .ok (.tuple #[kf p.1, vf p.2]) w := by
  obtain ⟨es, c, seen, hb, he, hbn, hr, hs, hnd, hlt⟩ := h
  obtain ⟨e, he1, hk1, hk2⟩ := ents_at he hp
  have hback : seen.back? = some e.born := by
    rw [← Array.getLast?_toList, hs, List.map_append, List.map_cons, List.map_nil, List.getLast?_append, List.getLast?_singleton, born_bang he1]; rfl
  have hfind : es.find? (fun f => f.born == e.born) = some e := by
    rw [Array.find?_eq_some_iff_getElem]
    refine ⟨by simp, i, (Array.getElem?_eq_some_iff.1 he1).1, (Array.getElem?_eq_some_iff.1 he1).2, fun j hj => ?_⟩
    simp only [Bool.not_eq_true', beq_eq_false_iff_ne, ne_eq]
    intro e2
    have hjl : j < es.size := Nat.lt_trans hj (Array.getElem?_eq_some_iff.1 he1).1
    have := born_inj hbn (Array.getElem?_eq_getElem hjl) he1 e2
    omega
  unfold Instr.entry
  simp only [Sem.run_bind, run_getIter (P := P) hr, MapKept.run_getObj_map (P := P) hb, Result.andThen_ok, hback, bne_self_eq_false, Bool.false_eq_true, if_false, hfind, Sem.run_pure, hk1, hk2]
end
section
variable {κ ν : Type} {P : Program} {kf : κ → Value} {vf : ν → Value} {N : Nat} {ops : Array Oper} {Q : Post} {next : Env → World → Prop} {e : Env} {w w0 : World} {M : Nat → Prop} {A B : List Res} {ty : TypeId} {pos : String} {af : Array Edge} {d : Tmp}
end
end Go.Proofs.Ytdkgdidnknojlaa.K
namespace Go.Proofs.Ytdkgdidnknojlaa.K
open Go Go.RowKit
set_option linter.unusedVariables false
set_option linter.unusedSimpArgs false
def mapDel {κ ν : Type} [DecidableEq κ] (l : List (κ × ν)) (k : κ) : List (κ × ν) := match l.findIdx? (fun p => decide (k = p.1)) with
  | some j => l.eraseIdx j
  | none => l
theorem map_erase {α β : Type} (f : α → β) : ∀ (l : List α) (j : Nat), (l.eraseIdx j).map f = (l.map f).eraseIdx j
  | [], j => by simp
  | x :: l, 0 => by simp
  | x :: l, j + 1 => by simp [map_erase f l j]
theorem row_at {w w' : World} {b : Nat} {c : List Value} {T : TypeId} (h : (Res.row b c T).holds w) (hf : Fram Non w w') : (Res.row b c T).holds w' := by
  have h' : w.heap[b]? = some (.cells c.toArray T (0, 0)) := h
  exact (hf.block b (Array.getElem?_eq_some_iff.1 h').1 id).trans h'
theorem mp_at {κ ν : Type} {kf : κ → Value} {vf : ν → Value} {l : List (κ × ν)} {w w' : World} {b : Nat} (h : (Res.mp b kf vf l).holds w) (hf : Fram Non w w') : (Res.mp b kf vf l).holds w' := by
  obtain ⟨es, c, h1, h2⟩ := h
  exact ⟨es, c, (hf.block b (Array.getElem?_eq_some_iff.1 h1).1 id).trans h1, h2⟩
section
variable {κ ν : Type} {P : Program} {t : TypeId} {kf : κ → Value} {vf : ν → Value} [DecidableEq κ] {N : Nat} {ops : Array Oper} {Q : Post} {next : Env → World → Prop} {e : Env} {w w0 : World} {M : Nat → Prop} {A B : List Res} {ty : TypeId} {pos : String} {af : Array Edge}
theorem Born.erase {es : Array MapEntry} {c i : Nat} (h : Born es c) : Born (es.eraseIdxIfInBounds i) c := by
  have hs : (es.eraseIdxIfInBounds i).toList.Sublist es.toList := by
    unfold Array.eraseIdxIfInBounds
    split
    · rw [Array.toList_eraseIdx]; exact List.eraseIdx_sublist _ _
    · exact List.Sublist.refl _
  exact ⟨h.1.sublist hs, fun e he => h.2 e (hs.subset he)⟩
end
end Go.Proofs.Ytdkgdidnknojlaa.K
namespace Go.Proofs.Ytdkgdidnknojlaa.K
open Go Go.RowKit
set_option linter.unusedVariables false
set_option linter.unusedSimpArgs false
section
variable {κ ν : Type} {P : Program} {t : TypeId} {kf : κ → Value} {vf : ν → Value} {w w' : World} {sm : Option Nat} {es : Array MapEntry} {c : Nat} {l : List (κ × ν)}
def MapO (w : World) (sm : Option Nat) (kf : κ → Value) (vf : ν → Value) (es : Array MapEntry) (c : Nat) (l : List (κ × ν)) : Prop :=
  (sm = none ∧ es = #[] ∧ c = 0 ∧ l = []) ∨ ∃ b, sm = some b ∧ w.heap[b]? = some (.map es c) ∧ Ents kf vf es l ∧ Born es c
def MO (w : World) (sm : Option Nat) (kf : κ → Value) (vf : ν → Value) (l : List (κ × ν)) : Prop := ∃ es c, MapO w sm kf vf es c l
theorem MapO.fram (h : MapO w sm kf vf es c l) (hf : Fram Non w w') : MapO w' sm kf vf es c l := by
  rcases h with h | ⟨b, h1, h2, h3⟩
  · exact .inl h
  · exact .inr ⟨b, h1, (hf.block b (Array.getElem?_eq_some_iff.1 h2).1 id).trans h2, h3⟩
theorem MO.fram (h : MO w sm kf vf l) (hf : Fram Non w w') : MO w' sm kf vf l := by
  obtain ⟨es, c, h⟩ := h
  exact ⟨es, c, h.fram hf⟩
theorem MO.nil : MO w none kf vf ([] : List (κ × ν)) := ⟨#[], 0, .inl ⟨rfl, rfl, rfl, rfl⟩⟩
theorem MO.of {b : Nat} (h : (Res.mp b kf vf l).holds w) : MO w (some b) kf vf l := by
  obtain ⟨es, c, h1, h2, h3⟩ := h
  exact ⟨es, c, .inr ⟨b, rfl, h1, h2, h3⟩⟩
theorem MapO.len (h : MapO w sm kf vf es c l) : es.size = l.length := by
  rcases h with ⟨_, rfl, _, rfl⟩ | ⟨b, _, _, h3, _⟩
  · rfl
  · exact ents_len h3
/-- The iterator of a map that is only read. -/
def Res.mit (r : Nat) (sm : Option Nat) (es : Array MapEntry) (c : Nat) (done : List Nat) : Res :=
  ⟨fun k => k = r, fun w => ∃ seen, w.heap[r]? = some (.mapIter sm c seen c) ∧ seen.toList = done.map (fun i => (es.toList.map (·.born))[i]!) ∧ done.Nodup ∧ (∀ i ∈ done, i < es.size),
    fun h ⟨seen, h1, h2⟩ => ⟨seen, (h _ rfl).trans h1, h2⟩⟩
theorem mit_done {r : Nat} {done : List Nat} (h : (Res.mit r sm es c done).holds w) : done.Nodup ∧ ∀ i ∈ done, i < es.size := by
  obtain ⟨_, _, _, h1, h2⟩ := h; exact ⟨h1, h2⟩
theorem mit_mpi {r b : Nat} {done : List Nat} (h : (Res.mit r (some b) es c done).holds w) (h1 : w.heap[b]? = some (.map es c)) (h2 : Ents kf vf es l) (h3 : Born es c) : (Res.mpi b r kf vf l done).holds w := by
  obtain ⟨seen, q1, q2, q3, q4⟩ := h
  exact ⟨es, c, seen, h1, h2, h3, q1, q2, q3, fun i hi => by rw [← ents_len h2]; exact q4 i hi⟩
theorem run_nextX {r : Nat} {done : List Nat} {T : TypeId} (hm : MapO w sm kf vf es c l) (h : (Res.mit r sm es c done).holds w) :
    ((Instr.next (.pointer (some ⟨r, 0, none⟩)) false T).run P w = .ok (.tuple #[.bool false]) w ∧ ∀ i, i < l.length → i ∈ done) ∨
    (∃ i p w', l[i]? = some p ∧ i ∉ done ∧ (Instr.next (.pointer (some ⟨r, 0, none⟩)) false T).run P w = .ok (.tuple #[.bool true, kf p.1, vf p.2]) w' ∧ (Res.mit r sm es c (done ++ [i])).holds w' ∧ Fram (fun x => x = r) w w') := by
  rcases hm with ⟨rfl, rfl, rfl, rfl⟩ | ⟨b, rfl, h1, h2, h3⟩
  · left
    obtain ⟨seen, q1, _⟩ := h
    refine ⟨?_, fun i hi => by simp at hi⟩
    unfold Instr.next
    simp only [Sem.run_bind, run_getIter (P := P) q1, Result.andThen_ok, Sem.run_pure]
  · have hbr : b ≠ r := fun e => by obtain ⟨seen, q1, _⟩ := h; subst e; rw [h1] at q1; cases q1
    rcases run_nextM (P := P) (T := T) (mit_mpi h h1 h2 h3) with q | ⟨i, p, w', q1, q2, q3, q4, q5⟩
    · exact .inl q
    · right
      refine ⟨i, p, w', q1, q2, q3, ?_, q5⟩
      obtain ⟨es', c', seen, a1, a2, a3, a4, a5, a6, a7⟩ := q4
      have hb : w'.heap[b]? = some (.map es c) := (q5.block b (Array.getElem?_eq_some_iff.1 h1).1 hbr).trans h1
      rw [hb] at a1
      cases a1
      exact ⟨seen, a4, a5, a6, fun j hj => by rw [ents_len h2]; exact a7 j hj⟩
theorem run_entryX {r : Nat} {done : List Nat} {i : Nat} {p : κ × ν} (hm : MapO w sm kf vf es c l) (h : (Res.mit r sm es c (done ++ [i])).holds w) (hp : l[i]? = some p) :
    (Instr.entry (.pointer (some ⟨r, 0, none⟩))).run P w = .ok (.tuple #[kf p.1, vf p.2]) w := by
  rcases hm with ⟨rfl, rfl, rfl, rfl⟩ | ⟨b, rfl, h1, h2, h3⟩
  · simp at hp
  · exact run_entryM (mit_mpi h h1 h2 h3) hp
end
section
variable {κ ν : Type} {P : Program} {t : TypeId} {kf : κ → Value} {vf : ν → Value} [DecidableEq κ] {w : World} {sm : Option Nat} {l : List (κ × ν)}
theorem Lk.wide {mt et : TypeId} {b : Nat} (K : KeyOk P t kf) (hm : P.underlying mt = some (.map t et)) (h : (Res.mp b kf vf l).holds w) (k : κ) {z : Value} (hz : (zeroValue et).run P w = .ok z w) :
    Lk P w mt (.map (some b)) (kf k) false (match mapV l k with | some v => vf v | none => z) := by
  obtain ⟨es, c, hb, he, hbn⟩ := h
  have hf := find_ents (P := P) (w := w) K k es.toList l 0 he
  have hg : (getObj b).run P w = .ok (.map es c) w := MapKept.run_getObj_map hb
  unfold Lk Instr.lookup
  simp only [Sem.run_bind, run_underlying hm, Result.andThen_ok, hg, Sem.run_pure, run_chk (K.chk k), findKey_wide K, hf]
  unfold mapV
  cases l.findIdx? (fun p => decide (k = p.1)) with
  | none => simp [hz]
  | some j =>
    cases hj : l[j]? with
    | none => simp [hj, hz]
    | some p => simp [hj]
theorem Lk.moW {mt et : TypeId} (K : KeyOk P t kf) (hm : P.underlying mt = some (.map t et)) (h : MO w sm kf vf l) (k : κ) (d : ν) (hz : (P.info? et).bind (·.zero) = some (vf d)) :
    Lk P w mt (.map sm) (kf k) false (vf ((mapV l k).getD d)) := by
  obtain ⟨es, c, ⟨rfl, rfl, rfl, rfl⟩ | ⟨b, rfl, h1, h2, h3⟩⟩ := h
  · have hf := find_ents (P := P) (w := w) (vf := vf) K k [] [] 0 rfl
    unfold Lk Instr.lookup
    simp only [Sem.run_bind, run_underlying hm, Result.andThen_ok, Sem.run_pure, run_chk (K.chk k), findKey_wide K, hf]
    simp [mapV, zero_of (w := w) hz]
  · have := Lk.wide K hm (⟨es, c, h1, h2, h3⟩ : (Res.mp b kf vf l).holds w) k (zero_of (w := w) hz)
    cases hv : mapV l k <;> simpa [hv] using this
end
section
variable {κ ν : Type} {P : Program} {kf : κ → Value} {vf : ν → Value} {N : Nat} {ops : Array Oper} {Q : Post} {next : Env → World → Prop} {e : Env} {w w0 : World} {M : Nat → Prop} {L : List Res} {ty : TypeId} {pos : String} {af : Array Edge} {d : Tmp} {sm : Option Nat} {es : Array MapEntry} {c : Nat} {l : List (κ × ν)}
theorem opStep.rangeX {T et kt : TypeId} {x : Operand} (hm : P.underlying T = some (.map kt et)) (hp : Hp w0 M L w) (hmo : MapO w sm kf vf es c l) (hx : ev e x = .map sm)
    (h : ∀ r w', Hp w0 M (Res.mit r sm es c [] :: L) w' → next (upd e d (.pointer (some ⟨r, 0, none⟩))) w') :
    opStep P N ops Q ⟨some d, .range T x, ty, pos, af, none⟩ next e w := by
  have hs := MapKept.heap_alloc w (.mapIter sm c #[] c)
  refine opStep.val (v := .pointer (some ⟨w.heap.size, 0, none⟩)) (w' := w.alloc (.mapIter sm c #[] c)) rfl ?_ (h w.heap.size _ ?_)
  · rcases hmo with ⟨rfl, rfl, rfl, rfl⟩ | ⟨b, rfl, h1, h2, h3⟩
    · simp [execOp, hx, Instr.range, run_underlying hm]
    · simp [execOp, hx, Instr.range, run_underlying hm, MapKept.run_getObj_map (P := P) h1]
  · refine hp.new (Fram.alloc _ w _) _ ⟨#[], hs.1, rfl, List.nodup_nil, fun i hi => by cases hi⟩ fun i hi => ?_
    have hsz : (w.alloc (.mapIter sm c #[] c)).heap.size = w.heap.size + 1 := by simp
    have : i = w.heap.size := hi
    omega
theorem opStep.nextX {x : Operand} {r : Nat} {done : List Nat} (hp : Hp w0 M (Res.mit r sm es c done :: L) w) (hmo : MapO w sm kf vf es c l) (hx : ev e x = .pointer (some ⟨r, 0, none⟩))
    (h0 : (∀ i, i < l.length → i ∈ done) → next (upd e d (.tuple #[.bool false])) w)
    (h1 : ∀ i p w', l[i]? = some p → i ∉ done → Hp w0 M (Res.mit r sm es c (done ++ [i]) :: L) w' → next (upd e d (.tuple #[.bool true, kf p.1, vf p.2])) w') :
    opStep P N ops Q ⟨some d, .next x false, ty, pos, af, none⟩ next e w := by
  rcases run_nextX (P := P) (T := ty) hmo (Hp.get (A := []) hp) with ⟨q1, q2⟩ | ⟨i, p, w', q1, q2, q3, q4, q5⟩
  · exact opStep.val rfl (by simp [execOp, hx, q1]) (h0 q2)
  · refine opStep.val rfl (by simp [execOp, hx, q3]) (h1 i p w' q1 q2 ?_)
    exact Hp.mod (A := []) hp q5 _ q4 fun j hj => ⟨Nat.lt_of_lt_of_le (Hp.lt (A := []) hp j hj) q5.size, .inl hj⟩
theorem opStep.entryX {x : Operand} {r : Nat} {done : List Nat} {i : Nat} {p : κ × ν} (hp : Hp w0 M (Res.mit r sm es c (done ++ [i]) :: L) w) (hmo : MapO w sm kf vf es c l) (hq : l[i]? = some p) (hx : ev e x = .pointer (some ⟨r, 0, none⟩))
    (h : next (upd e d (.tuple #[kf p.1, vf p.2])) w) :
    opStep P N ops Q ⟨some d, .entry x, ty, pos, af, none⟩ next e w :=
  opStep.val rfl (by simp [execOp, hx, run_entryX (P := P) hmo (Hp.get (A := []) hp) hq]) h
end
/-- A permutation of what a range has met. -/
theorem met_perm {α : Type} [Inhabited α] {l : List α} {done : List Nat} (hn : done.Nodup) (hl : ∀ i ∈ done, i < l.length) (ha : ∀ i, i < l.length → i ∈ done) : (done.map fun i => l[i]!).Perm l := by
  have hp : done.Perm (List.range l.length) := by
    rw [List.perm_ext_iff_of_nodup hn List.nodup_range]
    intro i
    rw [List.mem_range]
    exact ⟨hl i, ha i⟩
  have h2 := hp.map (fun i => l[i]!)
  have e : (List.range l.length).map (fun i => l[i]!) = l := by
    apply List.ext_getElem
    · simp
    · intro i h1 h2
      rw [List.getElem_map, List.getElem_range, getElem!_pos l i h2]
  rw [e] at h2
  exact h2
end Go.Proofs.Ytdkgdidnknojlaa.K
namespace Go.Proofs.Ytdkgdidnknojlaa.K
open Go Go.RowKit
set_option linter.unusedVariables false
set_option linter.unusedSimpArgs false
section
variable {κ ν : Type} {P : Program} {t : TypeId} {kf : κ → Value} {vf : ν → Value} {w w' : World}
/-- done: the keys that have come, in this order; cur: the last of them is there still. -/
def Res.mpk (b r : Nat) (kf : κ → Value) (vf : ν → Value) (l : List (κ × ν)) (done : List κ) (cur : Bool) : Res :=
  ⟨fun k => k = b ∨ k = r, fun w => ∃ es c seen, w.heap[b]? = some (.map es c) ∧ Ents kf vf es l ∧ Born es c ∧ w.heap[r]? = some (.mapIter (some b) c seen c) ∧ (l.map Prod.fst).Nodup ∧ (∀ (i : Nat) (e : MapEntry) (p : κ × ν), es[i]? = some e → l[i]? = some p → (e.born ∈ seen.toList ↔ p.1 ∈ done)) ∧ (cur = true → ∃ (i : Nat) (e : MapEntry) (p : κ × ν), es[i]? = some e ∧ l[i]? = some p ∧ done.getLast? = some p.1 ∧ seen.back? = some e.born),
    fun h ⟨es, c, seen, h1, h2, h3, h4, h5⟩ => ⟨es, c, seen, (h _ (.inl rfl)).trans h1, h2, h3, (h _ (.inr rfl)).trans h4, h5⟩⟩
theorem key_inj' {l : List (κ × ν)} (hn : (l.map Prod.fst).Nodup) {i j : Nat} {p q : κ × ν} (hi : l[i]? = some p) (hj : l[j]? = some q) (he : p.1 = q.1) : i = j := by
  have h1 : (l.map Prod.fst)[i]? = some p.1 := by rw [List.getElem?_map, hi]; rfl
  have h2 : (l.map Prod.fst)[j]? = some p.1 := by rw [List.getElem?_map, hj, he]; rfl
  have hil : i < (l.map Prod.fst).length := (List.getElem?_eq_some_iff.1 h1).1
  exact (List.getElem?_inj hil hn).1 (h1.trans h2.symm)
theorem run_nextK {b r : Nat} {l : List (κ × ν)} {done : List κ} {cur : Bool} {T : TypeId} (h : (Res.mpk b r kf vf l done cur).holds w) :
    ((Instr.next (.pointer (some ⟨r, 0, none⟩)) false T).run P w = .ok (.tuple #[.bool false]) w ∧ ∀ p ∈ l, p.1 ∈ done) ∨
    (∃ p w', p ∈ l ∧ p.1 ∉ done ∧ (Instr.next (.pointer (some ⟨r, 0, none⟩)) false T).run P w = .ok (.tuple #[.bool true, kf p.1, vf p.2]) w' ∧ (Res.mpk b r kf vf l (done ++ [p.1]) true).holds w' ∧ Fram (fun x => x = r) w w') := by
  obtain ⟨es, c, seen, hb, he, hbn, hr, hnd, hs, hcu⟩ := h
  have hlen := ents_len he
  have hg1 := run_getIter (P := P) hr
  have hg2 := MapKept.run_getObj_map (P := P) hb
  have hck : (!seen.isEmpty && !es.isEmpty && es.all (·.born ≥ c)) = false := by
    by_cases h0 : es.size = 0
    · have : es.isEmpty = true := by simpa [Array.isEmpty] using h0
      simp [this]
    · have : es.all (·.born ≥ c) = false := by
        rw [Bool.eq_false_iff]
        intro hall
        have h1 := Array.all_eq_true.1 hall 0 (by omega)
        have h2 := hbn.2 es[0] (by simp)
        simp at h1; omega
      simp [this]
  generalize hL : es.filter (fun e => !seen.contains e.born) = left
  have hold : left.filter (·.born < c) = left := by
    rw [Array.filter_eq_self]
    intro a ha
    rw [← hL] at ha
    have := (Array.mem_filter.1 ha).1
    exact decide_eq_true (hbn.2 a (by simpa using this))
  have hnew : left.filter (·.born ≥ c) = #[] := by
    rw [Array.filter_eq_empty_iff]
    intro a ha
    rw [← hL] at ha
    have := hbn.2 a (by simpa using (Array.mem_filter.1 ha).1)
    simp; omega
  by_cases h0 : left.size = 0
  · left
    have hz : left = #[] := Array.eq_empty_of_size_eq_zero h0
    refine ⟨?_, fun p hp => ?_⟩
    · unfold Instr.next
      simp only [Sem.run_bind, hg1, hg2, Result.andThen_ok, hck, hL, hold, hnew, hz]
      simp [Question.forced]
    · obtain ⟨i, hi⟩ := List.getElem?_of_mem hp
      have hil := (List.getElem?_eq_some_iff.1 hi).1
      obtain ⟨e, hei⟩ : ∃ e, es[i]? = some e := ⟨_, Array.getElem?_eq_getElem (by omega)⟩
      apply Classical.byContradiction
      intro hn
      have h1 : e ∈ left := by
        rw [← hL, Array.mem_filter]
        refine ⟨Array.mem_of_getElem? hei, ?_⟩
        simp only [Bool.not_eq_true', Bool.eq_false_iff]
        intro hh
        rw [← Array.contains_toList, List.contains_iff_mem] at hh
        exact hn ((hs i e p hei hi).1 hh)
      rw [hz] at h1; simp at h1
  · right
    have hne : left.isEmpty = false := by simp [Array.isEmpty, h0]
    have hcand : ((if left.isEmpty then #[none] else #[]) ++ (left ++ (#[] : Array MapEntry)).map some) = left.map some := by simp [hne]
    obtain ⟨k, w1, hk, hch, hw1⟩ : ∃ k w1, k < left.size ∧ (choose (.mapNext left.size)).run P w = .ok k w1 ∧ (w1 = w ∨ w1 = w.drew) := by
      by_cases h1 : left.size ≤ 1
      · exact ⟨0, w, by omega, by simp [Question.forced, h1], .inl rfl⟩
      · exact ⟨w.tape w.drawn (.mapNext left.size) % left.size, w.drew, Nat.mod_lt _ (by omega), by simp only [run_choose_drew, Question.forced, h1, decide_false, Bool.false_eq_true, if_false, Question.cut], .inr rfl⟩
    have hkm : left[k] ∈ es.filter (fun e => !seen.contains e.born) := by rw [hL]; exact Array.getElem_mem hk
    rw [Array.mem_filter] at hkm
    obtain ⟨hm1, hm2⟩ := hkm
    obtain ⟨i, hi⟩ := Array.getElem?_of_mem hm1
    have hil : i < l.length := by have := (Array.getElem?_eq_some_iff.1 hi).1; omega
    obtain ⟨p, hp⟩ : ∃ p, l[i]? = some p := ⟨_, List.getElem?_eq_getElem hil⟩
    obtain ⟨e', he', hk1, hk2⟩ := ents_at he hp
    obtain rfl := Option.some.inj (hi.symm.trans he')
    have hnd2 : p.1 ∉ done := fun hd => by
      have := (hs i left[k] p hi hp).2 hd
      rw [← List.contains_iff_mem, Array.contains_toList] at this
      rw [this] at hm2; simp at hm2
    have hr1 : w1.heap = w.heap := by rcases hw1 with rfl | rfl <;> rfl
    have hfr1 : Fram Non w w1 := by rcases hw1 with rfl | rfl; exact Fram.refl _ _; exact Fram.drew _ _
    have hbr : b ≠ r := fun e => by subst e; rw [hb] at hr; cases hr
    refine ⟨p, { w1 with heap := w1.heap.setIfInBounds r (.mapIter (some b) c (seen.push left[k].born) c) }, List.mem_of_getElem? hp, hnd2, ?_, ⟨es, c, seen.push left[k].born, ?_, he, hbn, ?_, hnd, ?_, ?_⟩, ?_⟩
    · unfold Instr.next
      simp only [Sem.run_bind, hg1, hg2, Result.andThen_ok, hck, hL, hold, hnew, hcand, Array.size_map, hch, Bool.false_eq_true, if_false]
      simp only [Array.getElem?_map, Array.getElem?_eq_getElem hk, Option.map_some, Sem.run_bind]
      rw [run_setIter (P := P) (w := w1) _ (hr1 ▸ hr)]
      simp only [Result.andThen_ok, Sem.run_pure, hk1, hk2]
    · show (w1.heap.setIfInBounds r _)[b]? = _
      rw [hr1]; exact ((MapKept.heap_set hr).2 b hbr).trans hb
    · show (w1.heap.setIfInBounds r _)[r]? = _
      rw [hr1]; exact (MapKept.heap_set hr).1
    · intro j f q hf hq
      rw [Array.toList_push, List.mem_append, List.mem_singleton, List.mem_append, List.mem_singleton, hs j f q hf hq]
      constructor
      · rintro (a | a)
        · exact .inl a
        · obtain rfl := born_inj hbn hf hi a
          rw [hp] at hq; cases hq; exact .inr rfl
      · rintro (a | a)
        · exact .inl a
        · obtain rfl := key_inj' hnd hq hp a
          rw [hi] at hf; cases hf; exact .inr rfl
    · intro _
      exact ⟨i, left[k], p, hi, hp, by simp, by simp⟩
    · refine ⟨hfr1.os, hfr1.tape, hfr1.output, ?_, fun j hj hn => ?_⟩
      · show w.heap.size ≤ (w1.heap.setIfInBounds r _).size
        rw [hr1]; simp
      · show (w1.heap.setIfInBounds r _)[j]? = _
        rw [hr1]; exact (MapKept.heap_set hr).2 j hn
theorem run_entryK {b r : Nat} {l : List (κ × ν)} {done : List κ} {p : κ × ν} (h : (Res.mpk b r kf vf l (done ++ [p.1]) true).holds w) (hp : p ∈ l) :
    (Instr.entry (.pointer (some ⟨r, 0, none⟩))).run P w = .ok (.tuple #[kf p.1, vf p.2]) w := by
  obtain ⟨es, c, seen, hb, he, hbn, hr, hnd, hs, hcu⟩ := h
  obtain ⟨i, e, q, he1, hq, hl, hback⟩ := hcu rfl
  have hq1 : q.1 = p.1 := by simpa using hl.symm
  obtain ⟨j, hj⟩ := List.getElem?_of_mem hp
  obtain rfl := key_inj' hnd hq hj hq1
  rw [hj] at hq; cases hq
  obtain ⟨e', he', hk1, hk2⟩ := ents_at he hj
  obtain rfl := Option.some.inj (he1.symm.trans he')
  have hfind : es.find? (fun f => f.born == e.born) = some e := by
    rw [Array.find?_eq_some_iff_getElem]
    refine ⟨by simp, i, (Array.getElem?_eq_some_iff.1 he1).1, (Array.getElem?_eq_some_iff.1 he1).2, fun j hj => ?_⟩
    simp only [Bool.not_eq_true', beq_eq_false_iff_ne, ne_eq]
    intro e2
    have hjl : j < es.size := Nat.lt_trans hj (Array.getElem?_eq_some_iff.1 he1).1
    have := born_inj hbn (Array.getElem?_eq_getElem hjl) he1 e2
    omega
  unfold Instr.entry
  simp only [Sem.run_bind, run_getIter (P := P) hr, MapKept.run_getObj_map (P := P) hb, Result.andThen_ok, hback, bne_self_eq_false, Bool.false_eq_true, if_false, hfind, Sem.run_pure, hk1, hk2]
variable [DecidableEq κ]
theorem run_deleteK {mt et kt ty : TypeId} {b r : Nat} {l : List (κ × ν)} {done : List κ} {cur : Bool} (K : KeyOk P t kf) (hm : P.underlying mt = some (.map t et)) (h : (Res.mpk b r kf vf l done cur).holds w) (k : κ) :
    ∃ w', (Builtin.delete_ #[mt, kt] ty #[.map (some b), kf k]).run P w = .ok (.tuple #[]) w' ∧ (Res.mpk b r kf vf (mapDel l k) done false).holds w' ∧ Fram (fun x => x = b) w w' := by
  obtain ⟨es, c, seen, hb, he, hbn, hr, hnd, hs, hcu⟩ := h
  have hf := find_ents (P := P) (w := w) K k es.toList l 0 he
  have hg : (getObj b).run P w = .ok (.map es c) w := MapKept.run_getObj_map hb
  have hbr : r ≠ b := fun e => by subst e; rw [hb] at hr; cases hr
  have fr : ∀ o, Fram (fun x => x = b) w { w with heap := w.heap.setIfInBounds b o } := fun o => ⟨rfl, rfl, rfl, by simp, fun i _ hn => (MapKept.heap_set hb).2 i hn⟩
  cases hx : l.findIdx? (fun p => decide (k = p.1)) with
  | none =>
    refine ⟨_, ?_, ⟨es, c, seen, (MapKept.heap_set (o' := .map es c) hb).1, ?_, hbn, ((MapKept.heap_set hb).2 r hbr).trans hr, ?_, ?_, fun q => by cases q⟩, fr _⟩
    · simp only [Builtin.delete_, Sem.run_bind, run_underlying hm, Result.andThen_ok, hg, run_chk (K.chk k), findKey_wide K, hf, hx, Option.bind_none, List.getElem?_toArray, List.getElem?_cons_zero, List.getElem?_cons_succ]
      rw [MapKept.run_setObj_map _ hb]; rfl
    · unfold mapDel; rw [hx]; exact he
    · unfold mapDel; rw [hx]; exact hnd
    · unfold mapDel; rw [hx]; exact hs
  | some j =>
    obtain ⟨hj, hp, _⟩ := List.findIdx?_eq_some_iff_getElem.1 hx
    have hlen : es.size = l.length := ents_len he
    have hlt : j < es.size := by omega
    refine ⟨_, ?_, ⟨es.eraseIdxIfInBounds j, c, seen, (MapKept.heap_set (o' := .map (es.eraseIdxIfInBounds j) c) hb).1, ?_, hbn.erase, ((MapKept.heap_set hb).2 r hbr).trans hr, ?_, ?_, fun q => by cases q⟩, fr _⟩
    · simp only [Builtin.delete_, Sem.run_bind, run_underlying hm, Result.andThen_ok, hg, run_chk (K.chk k), findKey_wide K, hf, hx, Option.bind_some, List.getElem?_eq_getElem hj, Option.map_some, Nat.zero_add, List.getElem?_toArray, List.getElem?_cons_zero, List.getElem?_cons_succ]
      rw [MapKept.run_setObj_map _ hb]; rfl
    · unfold mapDel; rw [hx]
      unfold Ents at *
      unfold Array.eraseIdxIfInBounds
      rw [dif_pos hlt, Array.toList_eraseIdx, map_erase, map_erase, he]
    · unfold mapDel; rw [hx]
      exact hnd.sublist ((List.eraseIdx_sublist l j).map _)
    · unfold mapDel; rw [hx]
      intro i e p h1 h2
      unfold Array.eraseIdxIfInBounds at h1
      rw [dif_pos hlt, ← Array.getElem?_toList, Array.toList_eraseIdx, List.getElem?_eraseIdx] at h1
      simp only at h2
      rw [List.getElem?_eraseIdx] at h2
      by_cases hij : i < j
      · rw [if_pos hij] at h1 h2
        exact hs i e p (by rw [← Array.getElem?_toList]; exact h1) h2
      · rw [if_neg hij] at h1 h2
        exact hs (i + 1) e p (by rw [← Array.getElem?_toList]; exact h1) h2
end
section
variable {κ ν : Type} {P : Program} {t : TypeId} {kf : κ → Value} {vf : ν → Value} {N : Nat} {ops : Array Oper} {Q : Post} {next : Env → World → Prop} {e : Env} {w w0 : World} {M : Nat → Prop} {A B : List Res} {ty : TypeId} {pos : String} {af : Array Edge} {d : Tmp}
theorem opStep.rangeK {T et kt : TypeId} {x : Operand} {b : Nat} {l : List (κ × ν)} (hm : P.underlying T = some (.map kt et)) (hn : (l.map Prod.fst).Nodup) (hp : Hp w0 M (Res.mp b kf vf l :: B) w) (hx : ev e x = .map (some b))
    (h : ∀ r w', Hp w0 M (Res.mpk b r kf vf l [] false :: B) w' → next (upd e d (.pointer (some ⟨r, 0, none⟩))) w') :
    opStep P N ops Q ⟨some d, .range T x, ty, pos, af, none⟩ next e w := by
  obtain ⟨es, c, hb, he, hbn⟩ := Hp.get (A := []) hp
  have hlt : b < w.heap.size := (Array.getElem?_eq_some_iff.1 hb).1
  have hs := MapKept.heap_alloc w (.mapIter (some b) c #[] c)
  refine opStep.val (v := .pointer (some ⟨w.heap.size, 0, none⟩)) (w' := w.alloc (.mapIter (some b) c #[] c)) rfl ?_ (h w.heap.size _ ?_)
  · simp [execOp, hx, Instr.range, run_underlying hm, MapKept.run_getObj_map (P := P) hb]
  · refine Hp.mod (A := []) hp ((Fram.alloc _ w _)) _ ⟨es, c, #[], (hs.2 b hlt).trans hb, he, hbn, hs.1, hn, fun i e p _ _ => by simp, fun q => by cases q⟩ fun i hi => ?_
    have hsz : (w.alloc (.mapIter (some b) c #[] c)).heap.size = w.heap.size + 1 := by simp
    rcases hi with rfl | rfl
    · exact ⟨by omega, .inl rfl⟩
    · exact ⟨by omega, .inr (Nat.le_refl _)⟩
theorem opStep.nextK {x : Operand} {b r : Nat} {l : List (κ × ν)} {done : List κ} {cur : Bool} (hp : Hp w0 M (Res.mpk b r kf vf l done cur :: B) w) (hx : ev e x = .pointer (some ⟨r, 0, none⟩))
    (h0 : (∀ p ∈ l, p.1 ∈ done) → next (upd e d (.tuple #[.bool false])) w)
    (h1 : ∀ p w', p ∈ l → p.1 ∉ done → Hp w0 M (Res.mpk b r kf vf l (done ++ [p.1]) true :: B) w' → next (upd e d (.tuple #[.bool true, kf p.1, vf p.2])) w') :
    opStep P N ops Q ⟨some d, .next x false, ty, pos, af, none⟩ next e w := by
  rcases run_nextK (P := P) (T := ty) (Hp.get (A := []) hp) with ⟨q1, q2⟩ | ⟨p, w', q1, q2, q3, q4, q5⟩
  · exact opStep.val rfl (by simp [execOp, hx, q1]) (h0 q2)
  · refine opStep.val rfl (by simp [execOp, hx, q3]) (h1 p w' q1 q2 ?_)
    refine Hp.mod (A := []) hp (q5.mono fun k _ hk => .inr hk) _ q4 fun j hj => ⟨Nat.lt_of_lt_of_le (Hp.lt (A := []) hp j hj) q5.size, .inl hj⟩
theorem opStep.entryK {x : Operand} {b r : Nat} {l : List (κ × ν)} {done : List κ} {p : κ × ν} (hp : Hp w0 M (Res.mpk b r kf vf l (done ++ [p.1]) true :: B) w) (hq : p ∈ l) (hx : ev e x = .pointer (some ⟨r, 0, none⟩))
    (h : next (upd e d (.tuple #[kf p.1, vf p.2])) w) :
    opStep P N ops Q ⟨some d, .entry x, ty, pos, af, none⟩ next e w :=
  opStep.val rfl (by simp [execOp, hx, run_entryK (P := P) (Hp.get (A := []) hp) hq]) h
theorem opStep.deleteKk [DecidableEq κ] {mt et kt : TypeId} {x y : Operand} {b r : Nat} {l : List (κ × ν)} {done : List κ} {cur : Bool} (K : KeyOk P t kf) (hm : P.underlying mt = some (.map t et)) (hp : Hp w0 M (Res.mpk b r kf vf l done cur :: B) w) (k : κ)
    (hx : (ev e x, ev e y) = (.map (some b), kf k))
    (h : ∀ w', Hp w0 M (Res.mpk b r kf vf (mapDel l k) done false :: B) w' → next e w') :
    opStep P N ops Q ⟨none, .call ⟨.builtin .delete, #[x, y], #[mt, kt]⟩, ty, pos, af, none⟩ next e w := by
  simp only [Prod.mk.injEq] at hx
  obtain ⟨hx, hy⟩ := hx
  obtain ⟨w', hrun, hh, hf⟩ := run_deleteK (P := P) (w := w) (ty := ty) (kt := kt) K hm (Hp.get (A := []) hp) k
  refine opStep.val (v := .tuple #[]) (w' := w') rfl ?_ (h w' ?_)
  · simp [execOp, resolve, invoke, builtin, hx, hy, hrun]
  · exact Hp.mod (A := []) hp (hf.mono fun k _ hk => .inl hk) _ hh fun i hi => ⟨Nat.lt_of_lt_of_le (Hp.lt (A := []) hp i hi) hf.size, .inl hi⟩
theorem Hp.mpkEnd {b r : Nat} {l : List (κ × ν)} {done : List κ} {cur : Bool} (hp : Hp w0 M (Res.mpk b r kf vf l done cur :: B) w) : Hp w0 M (Res.mp b kf vf l :: B) w :=
  Hp.turn (A := []) hp _ (fun ⟨es, c, _, h1, h2, h3, _⟩ => ⟨es, c, h1, h2, h3⟩) fun i hi => .inl hi
theorem mpk_cur {b r : Nat} {l : List (κ × ν)} {done : List κ} {cur : Bool} (h : (Res.mpk b r kf vf l done cur).holds w) : (Res.mpk b r kf vf l done false).holds w := by
  obtain ⟨es, c, seen, h1, h2, h3, h4, h5, h6, _⟩ := h
  exact ⟨es, c, seen, h1, h2, h3, h4, h5, h6, fun q => by cases q⟩
theorem Hp.mpkOld {b r : Nat} {l : List (κ × ν)} {done : List κ} {cur : Bool} (hp : Hp w0 M (Res.mpk b r kf vf l done cur :: B) w) : Hp w0 M (Res.mpk b r kf vf l done false :: B) w :=
  Hp.turn (A := []) hp _ mpk_cur fun i hi => hi
end
end Go.Proofs.Ytdkgdidnknojlaa.K
namespace Go.Proofs.Ytdkgdidnknojlaa.K
open Go Go.RowKit

abbrev u8c : Int → List Value := fun y => [.int .u8 y]
def strOf (ns : List Int) : ByteArray := ns.foldl (fun r n => r.push (UInt8.ofNat n.toNat)) ByteArray.empty
def bytesAt (w : World) (s : SlH) : List Int := (List.range s.n).map fun i => match w.cell? ((adr s.a).add i) with | some (.int _ x) => x | _ => 0
def valAt (w : World) (s : SlH) : ByteArray := strOf (bytesAt w s)
theorem u8c_map (ns : List Int) : ns.flatMap u8c = ns.map (Value.int .u8) := by induction ns <;> simp_all [u8c]
theorem Bs.of {P : Program} {w : World} {a : Option Addr} {n c : Nat} {ns : List Int} (h : SlR w a n (ns.flatMap u8c)) (hn : ns.length = n) : Bs P w (.slice a n c) (.string (strOf ns)) := by
  unfold Bs
  cases a with
  | none =>
    have : n = 0 := by
      rcases Nat.eq_zero_or_pos n with h0 | h0
      · exact h0
      · have := h.some h0; simp at this
    subst this
    obtain rfl : ns = [] := List.eq_nil_of_length_eq_zero hn
    simp [Conv.bytesToString, strOf]
  | some ad =>
    refine run_bytesToString w ad n c ns ?_
    have := run_loadCells_list (P := P) w ad (ns.map (Value.int .u8)) (by rw [← u8c_map]; exact h.rd)
    rwa [List.length_map, hn] at this
theorem bytesAt_of {w : World} {s : SlH} {ns : List Int} (h : SlR w s.a s.n (ns.flatMap u8c)) (hn : ns.length = s.n) : bytesAt w s = ns := by
  apply List.ext_getElem?
  intro i
  unfold bytesAt
  rw [List.getElem?_map, ← hn]
  by_cases hi : i < ns.length
  · rw [List.getElem?_range hi, List.getElem?_eq_getElem hi]
    have := h.rd i (.int .u8 ns[i]) (by rw [u8c_map]; simp [hi])
    simp [this]
  · simp [hi]
/-- A slice that holds bytes. -/
def VB (w : World) (s : SlH) : Prop := SlR w s.a s.n ((bytesAt w s).flatMap u8c)
theorem bytesAt_len (w : World) (s : SlH) : (bytesAt w s).length = s.n := by simp [bytesAt]
theorem VB.bs {P : Program} {w0 w : World} {L : List Res} {s : SlH} (h : VB w0 s) (hp : Hp w0 Non L w) : Bs P w s.v (.string (valAt w0 s)) := Bs.of (SlR.at h hp) (bytesAt_len _ _)
theorem VB.of {w : World} {ok : Int → Prop} {Bn : Nat} {s : SlH} {l : List Int} (h : SlD w u8c ok Bn s l) : VB w s := by
  unfold VB
  have h2 : SlR w s.a s.n (l.flatMap u8c) := h.rd
  rw [bytesAt_of h2 h.len.symm]
  exact h2
theorem VB.fram {w w' : World} {s : SlH} (h : VB w s) (hf : Fram Non w w') : bytesAt w' s = bytesAt w s := bytesAt_of (SlR.fram h hf) (bytesAt_len _ _)
end Go.Proofs.Ytdkgdidnknojlaa.K
namespace Go.Proofs.Ytdkgdidnknojlaa.K
open Go Go.RowKit

section
variable {w w0 w' : World} {M : Nat → Prop} {A B L : List Res}
/-- All of a list, as one thing. -/
def Res.all (rs : List Res) : Res :=
  ⟨fun k => ∃ r ∈ rs, r.foot k, fun w => (∀ r ∈ rs, r.holds w) ∧ rs.Pairwise fun (r s : Res) => ∀ b : Nat, r.foot b → ¬ s.foot b, fun h hw => ⟨fun r hr => r.stable (fun b hb => h b ⟨r, hr, hb⟩) (hw.1 r hr), hw.2⟩⟩
theorem Hp.allNil (h : Hp w0 M L w) : Hp w0 M (Res.all [] :: L) w :=
  h.new (Fram.refl _ _) _ ⟨by simp, List.Pairwise.nil⟩ fun b hb => by obtain ⟨r, hr, _⟩ := hb; simp at hr
theorem Hp.allPush {rs : List Res} {r : Res} (h : Hp w0 M (r :: Res.all rs :: L) w) : Hp w0 M (Res.all (rs ++ [r]) :: L) w := by
  have hap := h.apart
  rw [List.pairwise_cons, List.pairwise_cons] at hap
  obtain ⟨h1, h2, h3⟩ := hap
  have hr : r.holds w := h.holds r (by simp)
  have hrs : (Res.all rs).holds w := h.holds _ (by simp)
  refine ⟨h.fr, ?_, ?_, ?_⟩
  · intro s hs
    rcases List.mem_cons.1 hs with rfl | hs
    · refine ⟨fun t ht => ?_, ?_⟩
      · rcases List.mem_append.1 ht with q | q
        · exact hrs.1 t q
        · simp at q; subst q; exact hr
      · rw [List.pairwise_append]
        refine ⟨hrs.2, by simp, fun u hu t ht b hb hb2 => ?_⟩
        simp at ht
        subst ht
        exact h1 (Res.all rs) (by simp) b hb2 ⟨u, hu, hb⟩
    · exact h.holds s (by simp [hs])
  · intro s hs b hb
    rcases List.mem_cons.1 hs with rfl | hs
    · obtain ⟨t, ht, hb⟩ := hb
      rcases List.mem_append.1 ht with q | q
      · exact h.range (Res.all rs) (by simp) b ⟨t, q, hb⟩
      · simp at q; subst q; exact h.range t (by simp) b hb
    · exact h.range s (by simp [hs]) b hb
  · rw [List.pairwise_cons]
    refine ⟨fun s hs b hb hb2 => ?_, h3⟩
    obtain ⟨t, ht, hb⟩ := hb
    rcases List.mem_append.1 ht with q | q
    · exact h2 s hs b ⟨t, q, hb⟩ hb2
    · simp at q; subst q; exact h1 s (by simp [hs]) b hb hb2
/-- What a callee made is the caller's. -/
theorem Hp.made {r : Res} (h : Hp w0 M L w) (k : Hp w Non [r] w') : Hp w0 M (r :: L) w' :=
  h.new k.fr r (k.holds r (by simp)) fun b hb => by
    obtain ⟨h1, h2⟩ := k.range r (by simp) b hb
    rcases h2 with h2 | h2
    · exact ⟨h2, h1⟩
    · exact h2.elim
end
end Go.Proofs.Ytdkgdidnknojlaa.K
namespace Go.Proofs.Ytdkgdidnknojlaa.K
open Go Go.RowKit

def bytesI (s : ByteArray) : List Int := s.data.toList.map fun b => (b.toNat : Int)
theorem bytesI_len (s : ByteArray) : (bytesI s).length = s.size := by simp [bytesI]
/-- A row that begins with a string's bytes. -/
def Res.bs (b : Nat) (s : ByteArray) : Res :=
  ⟨fun k => k = b, fun w => ∃ (cs : Array Value) (t : TypeId) (m : Nat × Nat), w.heap[b]? = some (.cells cs t m) ∧ ∀ (j : Nat) (u : Value), ((bytesI s).flatMap u8c)[j]? = some u → cs[j]? = some u, by
    rintro w w' h ⟨cs, t, m, h1, h2⟩
    exact ⟨cs, t, m, (h _ rfl).trans h1, h2⟩⟩
theorem SlR.bs {w : World} {b : Nat} {s : ByteArray} (h : (Res.bs b s).holds w) : SlR w (Option.some ⟨b, 0, none⟩) s.size ((bytesI s).flatMap u8c) := by
  obtain ⟨cs, t, m, h1, h2⟩ := h
  refine ⟨fun j u hu => ?_, fun _ => rfl⟩
  show w.cell? ((⟨b, 0, none⟩ : Addr).add j) = Option.some u
  rw [add_mk, Nat.zero_add]
  simp [World.cell?, h1, h2 j u hu]
theorem VB.mk {w : World} {s : SlH} {ns : List Int} (h : SlR w s.a s.n (ns.flatMap u8c)) (hn : ns.length = s.n) : VB w s ∧ valAt w s = strOf ns := by
  have e := bytesAt_of h hn
  unfold VB valAt
  rw [e]
  exact ⟨h, rfl⟩
section
variable {P : Program} {N : Nat} {ops : Array Oper} {Q : Post} {next : Env → World → Prop} {e : Env} {w w0 : World} {M : Nat → Prop} {L : List Res} {ty : TypeId} {pos : String} {af : Array Edge} {d : Nat}
end
end Go.Proofs.Ytdkgdidnknojlaa.K
