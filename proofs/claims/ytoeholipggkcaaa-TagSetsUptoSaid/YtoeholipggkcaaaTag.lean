/- The walks of Tag: what each function computes. -/
import Derived.Test.YtoeholipggkcaaaProg
import Derived.Test.YtoeholipggkcaaaCoreO
import Derived.Test.YtoeholipggkcaaaInsB
namespace Go.Proofs.Ytoeholipggkcaaa.K
open Go Go.Proofs Go.RowKit
set_option linter.unusedVariables false
set_option linter.unusedSimpArgs false
set_option maxRecDepth 20000
set_option maxHeartbeats 4000000

def tagZero (t : GTag) : Prop := t.Count = 0 ∧ t.Client = 0
def tagProper (t : GTag) : Prop := 1 ≤ t.Count ∧ t.Count ≤ 4611686018427387903 ∧ 1 ≤ t.Client ∧ t.Client ≤ 65535
def tagValid (t : GTag) : Prop := tagZero t ∨ tagProper t
def cmpI (a b : Int) : Int := if a < b then -1 else if b < a then 1 else 0
def tagCmp (a b : GTag) : Int := if cmpI a.Count b.Count ≠ 0 then cmpI a.Count b.Count else cmpI a.Client b.Client
theorem tagCmp_cases (a b : GTag) : ((a.Count < b.Count ∨ a.Count = b.Count ∧ a.Client < b.Client) ∧ tagCmp a b = -1) ∨ ((a.Count = b.Count ∧ a.Client = b.Client) ∧ tagCmp a b = 0) ∨ ((b.Count < a.Count ∨ a.Count = b.Count ∧ b.Client < a.Client) ∧ tagCmp a b = 1) := by
  unfold tagCmp cmpI
  split <;> (split at * <;> (try split at *)) <;> (try split) <;> (try split) <;> omega

theorem tag_proper (t : GTag) (w : World) :
    Calls Try.prog 16 #[GTag.val t] w (fun r_ w' => ∃ f_, r_ = .returned (.bool f_) ∧ Bp f_ (tagProper t) ∧ Fram Non w w') := by
  refine calls_of Try.func16 rfl 21 rfl (by simp) ?_
  have hp0 := Hp.init w
  have he0 : List.map (env0 [GTag.val t]) [0] = [GTag.val t] := by kernel_rfl
  obtain ⟨b0, he0⟩ := toMk he0
  rw [he0]
  clear he0
  refine WP.seq ?_
  refine WP.region _ rfl (by kernel_rfl) ?_
  refine OPS.cons (opStep.box hp0 [.int .i64 t.Count, .int .i64 t.Client] (by kernel_rfl) (fun g3 w1 hp2 => ?_))
  refine OPS.batch 1 {} [] [1] [.pointer (some ⟨g3, 0, none⟩)] .nil (by kernel_rfl) (fun b4 => ?_)
  refine OPS.nil ?_
  refine thn_n ?_
  refine WP.cut (fun e24 w25 => ∃ (x22 : Bool), (True) ∧ Bp x22 ((1 ≤ t.Count) ∧ (t.Count ≤ 4611686018427387903) ∧ (1 ≤ t.Client) ∧ (t.Client ≤ 65535)) ∧ List.map e24 [2] = [.bool x22] ∧ Hp w Non [Res.row g3 [.int .i64 t.Count, .int .i64 t.Client] 29] w25) ?_ ?_
  · refine WP.region _ rfl (by kernel_rfl) ?_
    refine OPS.batch 4 {} [.int .i64 t.Count] [1, 6] [.pointer (some ⟨g3, 0, none⟩), .bool (decide (1 ≤ t.Count))] (.cons (Ld.row1 (P := Try.prog) (t := 2) (o := 0) (v := .int .i64 t.Count) hp2.get0 (by kernel_rfl)) .nil) (by kernel_rfl) (fun b6 => ?_)
    by_cases h7 : 1 ≤ t.Count
    · refine OPS.batch 0 {} [] [1, 6] [.pointer (some ⟨g3, 0, none⟩), .bool (decide (1 ≤ t.Count))] .nil (by kernel_rfl) (fun b8 => ?_)
      refine OPS.re [.pointer (some ⟨g3, 0, none⟩), .bool true] (by rw [show (decide (1 ≤ t.Count)) = true from Bp.dec.tt h7]) ?_
      refine OPS.batch 5 { wraps := [10] } [.int .i64 t.Count] [1, 11] [.pointer (some ⟨g3, 0, none⟩), .bool (decide (t.Count ≤ 4611686018427387903))] (.cons (Ld.row1 (P := Try.prog) (t := 2) (o := 0) (v := .int .i64 t.Count) hp2.get0 (by kernel_rfl)) .nil) (by kernel_rfl) (fun b9 => ?_)
      by_cases h10 : t.Count ≤ 4611686018427387903
      · refine OPS.batch 0 {} [] [1, 11] [.pointer (some ⟨g3, 0, none⟩), .bool (decide (t.Count ≤ 4611686018427387903))] .nil (by kernel_rfl) (fun b11 => ?_)
        refine OPS.re [.pointer (some ⟨g3, 0, none⟩), .bool true] (by rw [show (decide (t.Count ≤ 4611686018427387903)) = true from Bp.dec.tt h10]) ?_
        refine OPS.batch 5 { wraps := [15] } [.int .i64 t.Client] [1, 16] [.pointer (some ⟨g3, 0, none⟩), .bool (decide (1 ≤ t.Client))] (.cons (Ld.row1 (P := Try.prog) (t := 3) (o := 1) (v := .int .i64 t.Client) hp2.get0 (by kernel_rfl)) .nil) (by kernel_rfl) (fun b12 => ?_)
        by_cases h13 : 1 ≤ t.Client
        · refine OPS.batch 0 {} [] [1, 16] [.pointer (some ⟨g3, 0, none⟩), .bool (decide (1 ≤ t.Client))] .nil (by kernel_rfl) (fun b14 => ?_)
          refine OPS.re [.pointer (some ⟨g3, 0, none⟩), .bool true] (by rw [show (decide (1 ≤ t.Client)) = true from Bp.dec.tt h13]) ?_
          refine OPS.batch 5 { wraps := [20] } [.int .i64 t.Client] [2] [.bool (decide (t.Client ≤ 65535))] (.cons (Ld.row1 (P := Try.prog) (t := 3) (o := 1) (v := .int .i64 t.Client) hp2.get0 (by kernel_rfl)) .nil) (by kernel_rfl) (fun b15 => ?_)
          refine OPS.nil ?_
          refine thn_n ?_
          exact ⟨decide (t.Client ≤ 65535), trivial, Bp.of Bp.dec (by first | (simp only [h7, h10, h13, iff_false, false_iff, iff_true, true_iff, Classical.not_not, and_true, true_and, and_false, false_and, or_true, true_or, or_false, false_or, not_true_eq_false, not_false_eq_true, and_self, or_self, iff_self]; done) | (simp [h7, h10, h13]; done) | grind | (simp_all; done)), by kernel_rfl, hp2⟩
        · refine OPS.batch 0 {} [] [1, 16] [.pointer (some ⟨g3, 0, none⟩), .bool (decide (1 ≤ t.Client))] .nil (by kernel_rfl) (fun b16 => ?_)
          refine OPS.re [.pointer (some ⟨g3, 0, none⟩), .bool false] (by rw [show (decide (1 ≤ t.Client)) = false from Bp.dec.ff h13]) ?_
          refine OPS.batch 5 { wraps := [20] } [] [2] [.bool false] .nil (by kernel_rfl) (fun b17 => ?_)
          refine OPS.nil ?_
          refine thn_n ?_
          exact ⟨false, trivial, Bp.of Bp.f (by first | (simp only [h7, h10, h13, iff_false, false_iff, iff_true, true_iff, Classical.not_not, and_true, true_and, and_false, false_and, or_true, true_or, or_false, false_or, not_true_eq_false, not_false_eq_true, and_self, or_self, iff_self]; done) | (simp [h7, h10, h13]; done) | grind | (simp_all; done)), by kernel_rfl, hp2⟩
      · refine OPS.batch 0 {} [] [1, 11] [.pointer (some ⟨g3, 0, none⟩), .bool (decide (t.Count ≤ 4611686018427387903))] .nil (by kernel_rfl) (fun b18 => ?_)
        refine OPS.re [.pointer (some ⟨g3, 0, none⟩), .bool false] (by rw [show (decide (t.Count ≤ 4611686018427387903)) = false from Bp.dec.ff h10]) ?_
        refine OPS.batch 10 { wraps := [15, 20] } [] [2] [.bool false] .nil (by kernel_rfl) (fun b19 => ?_)
        refine OPS.nil ?_
        refine thn_n ?_
        exact ⟨false, trivial, Bp.of Bp.f (by first | (simp only [h7, h10, iff_false, false_iff, iff_true, true_iff, Classical.not_not, and_true, true_and, and_false, false_and, or_true, true_or, or_false, false_or, not_true_eq_false, not_false_eq_true, and_self, or_self, iff_self]; done) | (simp [h7, h10]; done) | grind | (simp_all; done)), by kernel_rfl, hp2⟩
    · refine OPS.batch 0 {} [] [1, 6] [.pointer (some ⟨g3, 0, none⟩), .bool (decide (1 ≤ t.Count))] .nil (by kernel_rfl) (fun b20 => ?_)
      refine OPS.re [.pointer (some ⟨g3, 0, none⟩), .bool false] (by rw [show (decide (1 ≤ t.Count)) = false from Bp.dec.ff h7]) ?_
      refine OPS.batch 15 { wraps := [10, 15, 20] } [] [2] [.bool false] .nil (by kernel_rfl) (fun b21 => ?_)
      refine OPS.nil ?_
      refine thn_n ?_
      exact ⟨false, trivial, Bp.of Bp.f (by first | (simp only [h7, iff_false, false_iff, iff_true, true_iff, Classical.not_not, and_true, true_and, and_false, false_and, or_true, true_or, or_false, false_or, not_true_eq_false, not_false_eq_true, and_self, or_self, iff_self]; done) | (simp [h7]; done) | grind | (simp_all; done)), by kernel_rfl, hp2⟩
  rintro e24 w25 ⟨x22, hd27, hb23, hE28, hp26⟩
  obtain ⟨b29, rfl⟩ := toMk hE28
  clear hE28
  clear hd27
  refine WP.ret ?_
  refine bodyQ.of _ rfl [.bool x22] ⟨rfl, trivial⟩ ?_
  exact ⟨_, rfl, Bp.of hb23 (by first | (simp only [tagProper, false_iff, true_iff]; done) | (simp only [tagProper, false_iff, true_iff]; omega)), hp26.fr⟩

theorem isNaN_int64 (a : Int) (w : World) :
    Calls Try.prog 36 #[.int .i64 a] w (fun r_ w' => ∃ f_, r_ = .returned (.bool f_) ∧ Bp f_ (False) ∧ Fram Non w w') := by
  refine calls_of Try.func36 rfl 6 rfl (by simp) ?_
  have hp0 := Hp.init w
  have he0 : List.map (env0 [.int .i64 a]) [0] = [.int .i64 a] := by kernel_rfl
  obtain ⟨b0, he0⟩ := toMk he0
  rw [he0]
  clear he0
  refine WP.seq ?_
  refine WP.pure {} [] [0] [.int .i64 a] .nil (by kernel_rfl) (fun b1 => ?_)
  refine thn_n ?_
  refine WP.seq ?_
  refine WP.pure {} [] [2] [.bool (decide (¬ (a = a)))] .nil (by kernel_rfl) (fun b2 => ?_)
  refine thn_n ?_
  refine WP.ret ?_
  refine bodyQ.of _ rfl [.bool (decide (¬ (a = a)))] ⟨rfl, trivial⟩ ?_
  exact ⟨_, rfl, Bp.of Bp.dec (by simp), hp0.fr⟩

theorem cmp_int64 (a b : Int) (w : World) :
    Calls Try.prog 30 #[.int .i64 a, .int .i64 b] w (fun r_ w' => r_ = .returned (.int .i64 (cmpI a b)) ∧ Fram Non w w') := by
  refine calls_of Try.func30 rfl 20 rfl (by simp) ?_
  have hp0 := Hp.init w
  have he0 : List.map (env0 [.int .i64 a, .int .i64 b]) [0, 1] = [.int .i64 a, .int .i64 b] := by kernel_rfl
  obtain ⟨b0, he0⟩ := toMk he0
  rw [he0]
  clear he0
  refine WP.seq ?_
  refine WP.pure {} [] [0, 1] [.int .i64 a, .int .i64 b] .nil (by kernel_rfl) (fun b1 => ?_)
  refine thn_n ?_
  refine WP.seq ?_
  refine WP.region _ rfl (by kernel_rfl) ?_
  refine OPS.batch 1 {} [] [0, 1, 7] [.int .i64 a, .int .i64 b, .int .i64 a] .nil (by kernel_rfl) (fun b2 => ?_)
  refine OPS.cons (opStep.call (some 8) [.int .i64 a] (by kernel_rfl) (isNaN_int64 a _) ?_)
  rintro _ w5 ⟨b8, rfl, hb9, hf6⟩
  refine ⟨_, rfl, ?_⟩
  have hp7 := hp0.step hf6
  refine OPS.batch 1 {} [] [0, 1, 5] [.int .i64 a, .int .i64 b, .bool b8] .nil (by kernel_rfl) (fun b10 => ?_)
  refine OPS.nil ?_
  refine thn_n ?_
  refine WP.seq ?_
  refine WP.region _ rfl (by kernel_rfl) ?_
  refine OPS.batch 1 {} [] [0, 1, 5, 9] [.int .i64 a, .int .i64 b, .bool b8, .int .i64 b] .nil (by kernel_rfl) (fun b11 => ?_)
  refine OPS.cons (opStep.call (some 10) [.int .i64 b] (by kernel_rfl) (isNaN_int64 b _) ?_)
  rintro _ w14 ⟨b17, rfl, hb18, hf15⟩
  refine ⟨_, rfl, ?_⟩
  have hp16 := hp7.step hf15
  refine OPS.batch 1 {} [] [0, 1, 5, 6] [.int .i64 a, .int .i64 b, .bool b8, .bool b17] .nil (by kernel_rfl) (fun b19 => ?_)
  refine OPS.nil ?_
  refine thn_n ?_
  refine WP.seq ?_
  refine WP.seq ?_
  refine WP.pure {} [] [0, 1, 6, 11] [.int .i64 a, .int .i64 b, .bool b17, .bool b8] .nil (by kernel_rfl) (fun b20 => ?_)
  refine thn_n ?_
  refine WP.test (p := False) rfl hb9 (fun h21 => ?_) (fun h21 => ?_)
  · refine WP.seq ?_
    refine WP.seq ?_
    refine WP.pure {} [] [12] [.bool b17] .nil (by kernel_rfl) (fun b22 => ?_)
    refine thn_n ?_
    refine WP.test (p := False) rfl hb18 (fun h23 => ?_) (fun h23 => ?_)
    · refine WP.seq ?_
      refine WP.pure {} [] [4] [.int .i64 0] .nil (by kernel_rfl) (fun b24 => ?_)
      refine thn_n ?_
      refine WP.ret ?_
      refine thn_r ?_
      refine thn_r ?_
      refine bodyQ.of _ rfl [.int .i64 0] ⟨rfl, trivial⟩ ?_
      exact ⟨by simp only [cmpI, pack]; congr 2; simp_all <;> omega, hp16.fr⟩
    · refine WP.skip ?_
      refine thn_n ?_
      refine WP.seq ?_
      refine WP.pure {} [] [4] [.int .i64 (-1)] .nil (by kernel_rfl) (fun b25 => ?_)
      refine thn_n ?_
      refine WP.ret ?_
      refine thn_r ?_
      refine bodyQ.of _ rfl [.int .i64 (-1)] ⟨rfl, trivial⟩ ?_
      exact ⟨by simp only [cmpI, pack]; congr 2; simp_all <;> omega, hp16.fr⟩
  · refine WP.skip ?_
    refine thn_n ?_
    refine WP.seq ?_
    refine WP.seq ?_
    refine WP.pure {} [] [0, 1, 13] [.int .i64 a, .int .i64 b, .bool b17] .nil (by kernel_rfl) (fun b26 => ?_)
    refine thn_n ?_
    refine WP.test (p := False) rfl hb18 (fun h27 => ?_) (fun h27 => ?_)
    · refine WP.seq ?_
      refine WP.pure {} [] [4] [.int .i64 1] .nil (by kernel_rfl) (fun b28 => ?_)
      refine thn_n ?_
      refine WP.ret ?_
      refine thn_r ?_
      refine bodyQ.of _ rfl [.int .i64 1] ⟨rfl, trivial⟩ ?_
      exact ⟨by simp only [cmpI, pack]; congr 2; simp_all <;> omega, hp16.fr⟩
    · refine WP.skip ?_
      refine thn_n ?_
      refine WP.seq ?_
      refine WP.seq ?_
      refine WP.pure {} [] [0, 1, 16] [.int .i64 a, .int .i64 b, .bool (decide (a < b))] .nil (by kernel_rfl) (fun b29 => ?_)
      refine thn_n ?_
      refine WP.test (p := a < b) rfl Bp.dec (fun h30 => ?_) (fun h30 => ?_)
      · refine WP.seq ?_
        refine WP.pure {} [] [4] [.int .i64 (-1)] .nil (by kernel_rfl) (fun b31 => ?_)
        refine thn_n ?_
        refine WP.ret ?_
        refine thn_r ?_
        refine bodyQ.of _ rfl [.int .i64 (-1)] ⟨rfl, trivial⟩ ?_
        exact ⟨by simp only [cmpI, pack]; congr 2; simp_all <;> omega, hp16.fr⟩
      · refine WP.skip ?_
        refine thn_n ?_
        refine WP.seq ?_
        refine WP.seq ?_
        refine WP.pure {} [] [19] [.bool (decide (b < a))] .nil (by kernel_rfl) (fun b32 => ?_)
        refine thn_n ?_
        refine WP.test (p := b < a) rfl Bp.dec (fun h33 => ?_) (fun h33 => ?_)
        · refine WP.seq ?_
          refine WP.pure {} [] [4] [.int .i64 1] .nil (by kernel_rfl) (fun b34 => ?_)
          refine thn_n ?_
          refine WP.ret ?_
          refine thn_r ?_
          refine bodyQ.of _ rfl [.int .i64 1] ⟨rfl, trivial⟩ ?_
          exact ⟨by simp only [cmpI, pack]; congr 2; simp_all <;> omega, hp16.fr⟩
        · refine WP.skip ?_
          refine thn_n ?_
          refine WP.seq ?_
          refine WP.pure {} [] [4] [.int .i64 0] .nil (by kernel_rfl) (fun b35 => ?_)
          refine thn_n ?_
          refine WP.ret ?_
          refine bodyQ.of _ rfl [.int .i64 0] ⟨rfl, trivial⟩ ?_
          exact ⟨by simp only [cmpI, pack]; congr 2; simp_all <;> omega, hp16.fr⟩

theorem isNaN_int (a : Int) (w : World) :
    Calls Try.prog 37 #[.int .i64 a] w (fun r_ w' => ∃ f_, r_ = .returned (.bool f_) ∧ Bp f_ (False) ∧ Fram Non w w') := by
  refine calls_of Try.func37 rfl 6 rfl (by simp) ?_
  have hp0 := Hp.init w
  have he0 : List.map (env0 [.int .i64 a]) [0] = [.int .i64 a] := by kernel_rfl
  obtain ⟨b0, he0⟩ := toMk he0
  rw [he0]
  clear he0
  refine WP.seq ?_
  refine WP.pure {} [] [0] [.int .i64 a] .nil (by kernel_rfl) (fun b1 => ?_)
  refine thn_n ?_
  refine WP.seq ?_
  refine WP.pure {} [] [2] [.bool (decide (¬ (a = a)))] .nil (by kernel_rfl) (fun b2 => ?_)
  refine thn_n ?_
  refine WP.ret ?_
  refine bodyQ.of _ rfl [.bool (decide (¬ (a = a)))] ⟨rfl, trivial⟩ ?_
  exact ⟨_, rfl, Bp.of Bp.dec (by simp), hp0.fr⟩

theorem cmp_int (a b : Int) (w : World) :
    Calls Try.prog 31 #[.int .i64 a, .int .i64 b] w (fun r_ w' => r_ = .returned (.int .i64 (cmpI a b)) ∧ Fram Non w w') := by
  refine calls_of Try.func31 rfl 20 rfl (by simp) ?_
  have hp0 := Hp.init w
  have he0 : List.map (env0 [.int .i64 a, .int .i64 b]) [0, 1] = [.int .i64 a, .int .i64 b] := by kernel_rfl
  obtain ⟨b0, he0⟩ := toMk he0
  rw [he0]
  clear he0
  refine WP.seq ?_
  refine WP.pure {} [] [0, 1] [.int .i64 a, .int .i64 b] .nil (by kernel_rfl) (fun b1 => ?_)
  refine thn_n ?_
  refine WP.seq ?_
  refine WP.region _ rfl (by kernel_rfl) ?_
  refine OPS.batch 1 {} [] [0, 1, 7] [.int .i64 a, .int .i64 b, .int .i64 a] .nil (by kernel_rfl) (fun b2 => ?_)
  refine OPS.cons (opStep.call (some 8) [.int .i64 a] (by kernel_rfl) (isNaN_int a _) ?_)
  rintro _ w5 ⟨b8, rfl, hb9, hf6⟩
  refine ⟨_, rfl, ?_⟩
  have hp7 := hp0.step hf6
  refine OPS.batch 1 {} [] [0, 1, 5] [.int .i64 a, .int .i64 b, .bool b8] .nil (by kernel_rfl) (fun b10 => ?_)
  refine OPS.nil ?_
  refine thn_n ?_
  refine WP.seq ?_
  refine WP.region _ rfl (by kernel_rfl) ?_
  refine OPS.batch 1 {} [] [0, 1, 5, 9] [.int .i64 a, .int .i64 b, .bool b8, .int .i64 b] .nil (by kernel_rfl) (fun b11 => ?_)
  refine OPS.cons (opStep.call (some 10) [.int .i64 b] (by kernel_rfl) (isNaN_int b _) ?_)
  rintro _ w14 ⟨b17, rfl, hb18, hf15⟩
  refine ⟨_, rfl, ?_⟩
  have hp16 := hp7.step hf15
  refine OPS.batch 1 {} [] [0, 1, 5, 6] [.int .i64 a, .int .i64 b, .bool b8, .bool b17] .nil (by kernel_rfl) (fun b19 => ?_)
  refine OPS.nil ?_
  refine thn_n ?_
  refine WP.seq ?_
  refine WP.seq ?_
  refine WP.pure {} [] [0, 1, 6, 11] [.int .i64 a, .int .i64 b, .bool b17, .bool b8] .nil (by kernel_rfl) (fun b20 => ?_)
  refine thn_n ?_
  refine WP.test (p := False) rfl hb9 (fun h21 => ?_) (fun h21 => ?_)
  · refine WP.seq ?_
    refine WP.seq ?_
    refine WP.pure {} [] [12] [.bool b17] .nil (by kernel_rfl) (fun b22 => ?_)
    refine thn_n ?_
    refine WP.test (p := False) rfl hb18 (fun h23 => ?_) (fun h23 => ?_)
    · refine WP.seq ?_
      refine WP.pure {} [] [4] [.int .i64 0] .nil (by kernel_rfl) (fun b24 => ?_)
      refine thn_n ?_
      refine WP.ret ?_
      refine thn_r ?_
      refine thn_r ?_
      refine bodyQ.of _ rfl [.int .i64 0] ⟨rfl, trivial⟩ ?_
      exact ⟨by simp only [cmpI, pack]; congr 2; simp_all <;> omega, hp16.fr⟩
    · refine WP.skip ?_
      refine thn_n ?_
      refine WP.seq ?_
      refine WP.pure {} [] [4] [.int .i64 (-1)] .nil (by kernel_rfl) (fun b25 => ?_)
      refine thn_n ?_
      refine WP.ret ?_
      refine thn_r ?_
      refine bodyQ.of _ rfl [.int .i64 (-1)] ⟨rfl, trivial⟩ ?_
      exact ⟨by simp only [cmpI, pack]; congr 2; simp_all <;> omega, hp16.fr⟩
  · refine WP.skip ?_
    refine thn_n ?_
    refine WP.seq ?_
    refine WP.seq ?_
    refine WP.pure {} [] [0, 1, 13] [.int .i64 a, .int .i64 b, .bool b17] .nil (by kernel_rfl) (fun b26 => ?_)
    refine thn_n ?_
    refine WP.test (p := False) rfl hb18 (fun h27 => ?_) (fun h27 => ?_)
    · refine WP.seq ?_
      refine WP.pure {} [] [4] [.int .i64 1] .nil (by kernel_rfl) (fun b28 => ?_)
      refine thn_n ?_
      refine WP.ret ?_
      refine thn_r ?_
      refine bodyQ.of _ rfl [.int .i64 1] ⟨rfl, trivial⟩ ?_
      exact ⟨by simp only [cmpI, pack]; congr 2; simp_all <;> omega, hp16.fr⟩
    · refine WP.skip ?_
      refine thn_n ?_
      refine WP.seq ?_
      refine WP.seq ?_
      refine WP.pure {} [] [0, 1, 16] [.int .i64 a, .int .i64 b, .bool (decide (a < b))] .nil (by kernel_rfl) (fun b29 => ?_)
      refine thn_n ?_
      refine WP.test (p := a < b) rfl Bp.dec (fun h30 => ?_) (fun h30 => ?_)
      · refine WP.seq ?_
        refine WP.pure {} [] [4] [.int .i64 (-1)] .nil (by kernel_rfl) (fun b31 => ?_)
        refine thn_n ?_
        refine WP.ret ?_
        refine thn_r ?_
        refine bodyQ.of _ rfl [.int .i64 (-1)] ⟨rfl, trivial⟩ ?_
        exact ⟨by simp only [cmpI, pack]; congr 2; simp_all <;> omega, hp16.fr⟩
      · refine WP.skip ?_
        refine thn_n ?_
        refine WP.seq ?_
        refine WP.seq ?_
        refine WP.pure {} [] [19] [.bool (decide (b < a))] .nil (by kernel_rfl) (fun b32 => ?_)
        refine thn_n ?_
        refine WP.test (p := b < a) rfl Bp.dec (fun h33 => ?_) (fun h33 => ?_)
        · refine WP.seq ?_
          refine WP.pure {} [] [4] [.int .i64 1] .nil (by kernel_rfl) (fun b34 => ?_)
          refine thn_n ?_
          refine WP.ret ?_
          refine thn_r ?_
          refine bodyQ.of _ rfl [.int .i64 1] ⟨rfl, trivial⟩ ?_
          exact ⟨by simp only [cmpI, pack]; congr 2; simp_all <;> omega, hp16.fr⟩
        · refine WP.skip ?_
          refine thn_n ?_
          refine WP.seq ?_
          refine WP.pure {} [] [4] [.int .i64 0] .nil (by kernel_rfl) (fun b35 => ?_)
          refine thn_n ?_
          refine WP.ret ?_
          refine bodyQ.of _ rfl [.int .i64 0] ⟨rfl, trivial⟩ ?_
          exact ⟨by simp only [cmpI, pack]; congr 2; simp_all <;> omega, hp16.fr⟩

theorem tag_Compare (a b : GTag) (w : World) :
    Calls Try.prog 18 #[GTag.val a, GTag.val b] w (fun r_ w' => r_ = .returned (.int .i64 (tagCmp a b)) ∧ Fram Non w w') := by
  refine calls_of Try.func18 rfl 19 rfl (by simp) ?_
  have hp0 := Hp.init w
  have he0 : List.map (env0 [GTag.val a, GTag.val b]) [0, 1] = [GTag.val a, GTag.val b] := by kernel_rfl
  obtain ⟨b0, he0⟩ := toMk he0
  rw [he0]
  clear he0
  refine WP.seq ?_
  refine WP.region _ rfl (by kernel_rfl) ?_
  refine OPS.cons (opStep.box hp0 [.int .i64 a.Count, .int .i64 a.Client] (by kernel_rfl) (fun g3 w1 hp2 => ?_))
  refine OPS.cons (opStep.box hp2 [.int .i64 b.Count, .int .i64 b.Client] (by kernel_rfl) (fun g6 w4 hp5 => ?_))
  refine OPS.batch 1 {} [] [2, 3] [.pointer (some ⟨g3, 0, none⟩), .pointer (some ⟨g6, 0, none⟩)] .nil (by kernel_rfl) (fun b7 => ?_)
  refine OPS.nil ?_
  refine thn_n ?_
  refine WP.seq ?_
  refine WP.seq ?_
  refine WP.region _ rfl (by kernel_rfl) ?_
  refine OPS.batch 4 {} [.int .i64 a.Count, .int .i64 b.Count] [2, 3, 7, 9] [.pointer (some ⟨g3, 0, none⟩), .pointer (some ⟨g6, 0, none⟩), .int .i64 a.Count, .int .i64 b.Count] (.cons (Ld.row1 (P := Try.prog) (t := 2) (o := 0) (v := .int .i64 a.Count) hp5.get1 (by kernel_rfl)) (.cons (Ld.row1 (P := Try.prog) (t := 2) (o := 0) (v := .int .i64 b.Count) hp5.get0 (by kernel_rfl)) .nil)) (by kernel_rfl) (fun b8 => ?_)
  refine OPS.cons (opStep.call (some 10) [.int .i64 a.Count, .int .i64 b.Count] (by kernel_rfl) (cmp_int64 a.Count b.Count _) ?_)
  rintro _ w11 ⟨rfl, hf12⟩
  refine ⟨_, rfl, ?_⟩
  have hp13 := hp5.step hf12
  refine OPS.batch 1 {} [] [2, 3, 5] [.pointer (some ⟨g3, 0, none⟩), .pointer (some ⟨g6, 0, none⟩), .int .i64 (cmpI a.Count b.Count)] .nil (by kernel_rfl) (fun b14 => ?_)
  refine OPS.nil ?_
  refine thn_n ?_
  refine WP.seq ?_
  refine WP.pure {} [] [2, 3, 5, 12] [.pointer (some ⟨g3, 0, none⟩), .pointer (some ⟨g6, 0, none⟩), .int .i64 (cmpI a.Count b.Count), .bool (decide (¬ ((cmpI a.Count b.Count) = 0)))] .nil (by kernel_rfl) (fun b15 => ?_)
  refine thn_n ?_
  refine WP.test (p := ¬ ((cmpI a.Count b.Count) = 0)) rfl Bp.dec (fun h16 => ?_) (fun h16 => ?_)
  · refine WP.seq ?_
    refine WP.pure {} [] [4] [.int .i64 (cmpI a.Count b.Count)] .nil (by kernel_rfl) (fun b17 => ?_)
    refine thn_n ?_
    refine WP.ret ?_
    refine thn_r ?_
    refine bodyQ.of _ rfl [.int .i64 (cmpI a.Count b.Count)] ⟨rfl, trivial⟩ ?_
    exact ⟨by simp only [tagCmp, pack]; congr 2; simp_all, hp13.fr⟩
  · replace h16 := Classical.not_not.1 h16
    refine WP.skip ?_
    refine thn_n ?_
    refine WP.seq ?_
    refine WP.region _ rfl (by kernel_rfl) ?_
    refine OPS.batch 4 {} [.int .i64 a.Client, .int .i64 b.Client] [15, 17] [.int .i64 a.Client, .int .i64 b.Client] (.cons (Ld.row1 (P := Try.prog) (t := 3) (o := 1) (v := .int .i64 a.Client) hp13.get1 (by kernel_rfl)) (.cons (Ld.row1 (P := Try.prog) (t := 3) (o := 1) (v := .int .i64 b.Client) hp13.get0 (by kernel_rfl)) .nil)) (by kernel_rfl) (fun b18 => ?_)
    refine OPS.cons (opStep.call (some 18) [.int .i64 a.Client, .int .i64 b.Client] (by kernel_rfl) (cmp_int a.Client b.Client _) ?_)
    rintro _ w21 ⟨rfl, hf22⟩
    refine ⟨_, rfl, ?_⟩
    have hp23 := hp13.step hf22
    refine OPS.batch 1 {} [] [4] [.int .i64 (cmpI a.Client b.Client)] .nil (by kernel_rfl) (fun b24 => ?_)
    refine OPS.nil ?_
    refine thn_n ?_
    refine WP.ret ?_
    refine bodyQ.of _ rfl [.int .i64 (cmpI a.Client b.Client)] ⟨rfl, trivial⟩ ?_
    exact ⟨by simp only [tagCmp, pack]; congr 2; simp_all, hp23.fr⟩

end Go.Proofs.Ytoeholipggkcaaa.K
