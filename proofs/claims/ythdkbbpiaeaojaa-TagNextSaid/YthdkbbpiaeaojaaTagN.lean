/- The walks of TagN: what each function computes. -/
import Derived.Test.YthdkbbpiaeaojaaProg
import Derived.Test.YthdkbbpiaeaojaaCoreO
import Derived.Test.YthdkbbpiaeaojaaTag
namespace Go.Proofs.Ythdkbbpiaeaojaa.K
open Go Go.Proofs Go.RowKit
set_option linter.unusedVariables false
set_option linter.unusedSimpArgs false
set_option maxRecDepth 20000
set_option maxHeartbeats 4000000

def nextN (t : GTag) (used client : Int) : Int := if max t.Count (used + 1) = t.Count ∧ client ≤ t.Client then max t.Count (used + 1) + 1 else max t.Count (used + 1)
def nextR (t : GTag) (used client : Int) (x : GTag) (e : Int) : Prop :=
  (e = 41 ∧ ¬ tagValid t ∧ x.Count = 0 ∧ x.Client = 0) ∨
  (e = 1 ∧ tagValid t ∧ (used < 0 ∨ 4611686018427387903 < used ∨ client < 1 ∨ 65535 < client) ∧ x.Count = 0 ∧ x.Client = 0) ∨
  (tagValid t ∧ 0 ≤ used ∧ used ≤ 4611686018427387903 ∧ 1 ≤ client ∧ client ≤ 65535 ∧
    ((e = 0 ∧ nextN t used client ≤ 4611686018427387903 ∧ x.Count = nextN t used client ∧ x.Client = client) ∨ (e = 42 ∧ 4611686018427387903 < nextN t used client ∧ x.Count = 0 ∧ x.Client = 0)))
theorem nextN_cases (t : GTag) (used client : Int) : ((t.Count = used + 1 ∨ used + 1 < t.Count) ∧ client ≤ t.Client ∧ nextN t used client = t.Count + 1) ∨ (used + 1 ≤ t.Count ∧ t.Client < client ∧ nextN t used client = t.Count) ∨ (t.Count < used + 1 ∧ nextN t used client = used + 1) := by
  unfold nextN
  split <;> omega

theorem tag_Next (t : GTag) (used client : Int) (w : World) :
    Calls Try.prog 15 #[GTag.val t, .int .i64 used, .int .i64 client] w (fun x w' => ∃ (y : GTag) (e : Int), x = .returned (.tuple #[GTag.val y, .int .i64 e]) ∧ nextR t used client y e ∧ Fram Non w w') := by
  refine calls_of Try.func15 rfl 51 rfl (by simp) ?_
  have hp0 := Hp.init w
  have he0 : List.map (env0 [GTag.val t, .int .i64 used, .int .i64 client]) [0, 1, 2] = [GTag.val t, .int .i64 used, .int .i64 client] := by kernel_rfl
  obtain ⟨b0, he0⟩ := toMk he0
  rw [he0]
  clear he0
  refine WP.seq ?_
  refine WP.region _ rfl (by kernel_rfl) ?_
  refine OPS.cons (opStep.box hp0 [.int .i64 t.Count, .int .i64 t.Client] (by kernel_rfl) (fun g3 w1 hp2 => ?_))
  refine OPS.cons (opStep.alloc hp2 [.int .i64 0, .int .i64 0] (by kernel_rfl) (fun g6 w4 hp5 => ?_))
  refine OPS.batch 1 {} [] [1, 2, 3, 6] [.int .i64 used, .int .i64 client, .pointer (some ⟨g3, 0, none⟩), .pointer (some ⟨g6, 0, none⟩)] .nil (by kernel_rfl) (fun b7 => ?_)
  refine OPS.nil ?_
  refine thn_n ?_
  refine WP.seq ?_
  refine WP.seq ?_
  refine WP.region _ rfl (by kernel_rfl) ?_
  refine OPS.batch 1 {} [GTag.val t] [1, 2, 3, 6, 9] [.int .i64 used, .int .i64 client, .pointer (some ⟨g3, 0, none⟩), .pointer (some ⟨g6, 0, none⟩), GTag.val t] (.cons (show Ld Try.prog w4 24 ⟨g3, 0, none⟩ (GTag.val t) from Ld.rowN (cs := [.int .i64 t.Count, .int .i64 t.Client]) hp5.get1 (by kernel_rfl)) .nil) (by kernel_rfl) (fun b8 => ?_)
  refine OPS.cons (opStep.call (some 10) [GTag.val t] (by kernel_rfl) (tag_Valid t _) ?_)
  rintro _ w11 ⟨b14, rfl, hb15, hf12⟩
  refine ⟨_, rfl, ?_⟩
  have hp13 := hp5.step hf12
  refine OPS.batch 1 {} [] [1, 2, 3, 6, 11] [.int .i64 used, .int .i64 client, .pointer (some ⟨g3, 0, none⟩), .pointer (some ⟨g6, 0, none⟩), .bool (!b14)] .nil (by kernel_rfl) (fun b16 => ?_)
  refine OPS.nil ?_
  refine thn_n ?_
  refine WP.test (p := ¬ (tagValid t)) rfl (Bp.not hb15) (fun h17 => ?_) (fun h17 => ?_)
  · refine WP.seq ?_
    refine WP.region _ rfl (by kernel_rfl) ?_
    refine OPS.batch 1 {} [] [6, 12] [.pointer (some ⟨g6, 0, none⟩), .agg #[.int .i64 0, .int .i64 0]] .nil (by kernel_rfl) (fun b18 => ?_)
    refine OPS.cons (opStep.store0 hp13 rfl [.int .i64 0, .int .i64 0] [.int .i64 0, .int .i64 0] (by kernel_rfl) (fun w19 hp20 => ?_))
    refine OPS.batch 1 {} [] [6, 7] [.pointer (some ⟨g6, 0, none⟩), .int .i64 41] .nil (by kernel_rfl) (fun b21 => ?_)
    refine OPS.nil ?_
    refine thn_n ?_
    refine WP.ret ?_
    refine thn_r ?_
    refine bodyQ.of _ rfl [.agg #[.int .i64 0, .int .i64 0], .int .i64 41] ⟨⟨_, rfl, (show Ld Try.prog w19 24 ⟨g6, 0, none⟩ (.agg #[.int .i64 0, .int .i64 0]) from Ld.rowN (cs := [.int .i64 0, .int .i64 0]) hp20.get0 (by kernel_rfl))⟩, rfl, trivial⟩ ?_
    exact ⟨(⟨0, 0⟩ : GTag), 41, rfl, by have hn := nextN_cases t used client; simp only [nextR, tagValid, tagProper, tagZero, iff_false, false_iff, iff_true, true_iff, Classical.not_not, and_true, true_and, and_false, false_and, or_true, true_or, or_false, false_or, not_true_eq_false, not_false_eq_true, and_self, or_self] at *; omega, hp20.fr⟩
  · replace h17 := Classical.not_not.1 h17
    refine WP.skip ?_
    refine thn_n ?_
    refine WP.seq ?_
    refine WP.cut (fun e35 w36 => ∃ (x33 : Bool), (True) ∧ Bp x33 (((used < 0)) ∨ ((¬ (used < 0)) ∧ (4611686018427387903 < used)) ∨ ((¬ (used < 0)) ∧ (¬ (4611686018427387903 < used)) ∧ (client < 1)) ∨ ((¬ (used < 0)) ∧ (¬ (4611686018427387903 < used)) ∧ (¬ (client < 1)) ∧ (65535 < client))) ∧ List.map e35 [1, 2, 3, 6, 26] = [.int .i64 used, .int .i64 client, .pointer (some ⟨g3, 0, none⟩), .pointer (some ⟨g6, 0, none⟩), .bool x33] ∧ Hp w Non [Res.row g6 [.int .i64 0, .int .i64 0] 24, Res.row g3 [.int .i64 t.Count, .int .i64 t.Client] 24] w36) ?_ ?_
    · refine WP.region _ rfl (by kernel_rfl) ?_
      refine OPS.batch 3 {} [] [1, 2, 3, 6, 15] [.int .i64 used, .int .i64 client, .pointer (some ⟨g3, 0, none⟩), .pointer (some ⟨g6, 0, none⟩), .bool (decide (used < 0))] .nil (by kernel_rfl) (fun b23 => ?_)
      by_cases h24 : used < 0
      · rw [show (decide (used < 0)) = true from Bp.dec.tt h24]
        refine OPS.batch 11 { wraps := [18, 22, 26] } [] [1, 2, 3, 6, 26] [.int .i64 used, .int .i64 client, .pointer (some ⟨g3, 0, none⟩), .pointer (some ⟨g6, 0, none⟩), .bool true] .nil (by kernel_rfl) (fun b25 => ?_)
        refine OPS.nil ?_
        refine thn_n ?_
        exact ⟨true, trivial, Bp.of Bp.t (by simp [h24]), by kernel_rfl, hp13⟩
      · rw [show (decide (used < 0)) = false from Bp.dec.ff h24]
        refine OPS.batch 4 { wraps := [18] } [] [1, 2, 3, 6, 19] [.int .i64 used, .int .i64 client, .pointer (some ⟨g3, 0, none⟩), .pointer (some ⟨g6, 0, none⟩), .bool (decide (4611686018427387903 < used))] .nil (by kernel_rfl) (fun b26 => ?_)
        by_cases h27 : 4611686018427387903 < used
        · rw [show (decide (4611686018427387903 < used)) = true from Bp.dec.tt h27]
          refine OPS.batch 7 { wraps := [22, 26] } [] [1, 2, 3, 6, 26] [.int .i64 used, .int .i64 client, .pointer (some ⟨g3, 0, none⟩), .pointer (some ⟨g6, 0, none⟩), .bool true] .nil (by kernel_rfl) (fun b28 => ?_)
          refine OPS.nil ?_
          refine thn_n ?_
          exact ⟨true, trivial, Bp.of Bp.t (by simp [h24, h27]), by kernel_rfl, hp13⟩
        · rw [show (decide (4611686018427387903 < used)) = false from Bp.dec.ff h27]
          refine OPS.batch 4 { wraps := [22] } [] [1, 2, 3, 6, 23] [.int .i64 used, .int .i64 client, .pointer (some ⟨g3, 0, none⟩), .pointer (some ⟨g6, 0, none⟩), .bool (decide (client < 1))] .nil (by kernel_rfl) (fun b29 => ?_)
          by_cases h30 : client < 1
          · rw [show (decide (client < 1)) = true from Bp.dec.tt h30]
            refine OPS.batch 3 { wraps := [26] } [] [1, 2, 3, 6, 26] [.int .i64 used, .int .i64 client, .pointer (some ⟨g3, 0, none⟩), .pointer (some ⟨g6, 0, none⟩), .bool true] .nil (by kernel_rfl) (fun b31 => ?_)
            refine OPS.nil ?_
            refine thn_n ?_
            exact ⟨true, trivial, Bp.of Bp.t (by simp [h24, h27, h30]), by kernel_rfl, hp13⟩
          · rw [show (decide (client < 1)) = false from Bp.dec.ff h30]
            refine OPS.batch 3 { wraps := [26] } [] [1, 2, 3, 6, 26] [.int .i64 used, .int .i64 client, .pointer (some ⟨g3, 0, none⟩), .pointer (some ⟨g6, 0, none⟩), .bool (decide (65535 < client))] .nil (by kernel_rfl) (fun b32 => ?_)
            refine OPS.nil ?_
            refine thn_n ?_
            exact ⟨decide (65535 < client), trivial, Bp.of Bp.dec (by simp [h24, h27, h30]), by kernel_rfl, hp13⟩
    rintro e35 w36 ⟨x33, hd38, hb34, hE39, hp37⟩
    obtain ⟨b40, rfl⟩ := toMk hE39
    clear hE39
    clear hd38
    refine WP.test (p := ((used < 0)) ∨ ((¬ (used < 0)) ∧ (4611686018427387903 < used)) ∨ ((¬ (used < 0)) ∧ (¬ (4611686018427387903 < used)) ∧ (client < 1)) ∨ ((¬ (used < 0)) ∧ (¬ (4611686018427387903 < used)) ∧ (¬ (client < 1)) ∧ (65535 < client))) rfl hb34 (fun h41 => ?_) (fun h41 => ?_)
    · refine WP.seq ?_
      refine WP.region _ rfl (by kernel_rfl) ?_
      refine OPS.batch 1 {} [] [6, 27] [.pointer (some ⟨g6, 0, none⟩), .agg #[.int .i64 0, .int .i64 0]] .nil (by kernel_rfl) (fun b42 => ?_)
      refine OPS.cons (opStep.store0 hp37 rfl [.int .i64 0, .int .i64 0] [.int .i64 0, .int .i64 0] (by kernel_rfl) (fun w43 hp44 => ?_))
      refine OPS.batch 1 {} [] [6, 7] [.pointer (some ⟨g6, 0, none⟩), .int .i64 1] .nil (by kernel_rfl) (fun b45 => ?_)
      refine OPS.nil ?_
      refine thn_n ?_
      refine WP.ret ?_
      refine thn_r ?_
      refine bodyQ.of _ rfl [.agg #[.int .i64 0, .int .i64 0], .int .i64 1] ⟨⟨_, rfl, (show Ld Try.prog w43 24 ⟨g6, 0, none⟩ (.agg #[.int .i64 0, .int .i64 0]) from Ld.rowN (cs := [.int .i64 0, .int .i64 0]) hp44.get0 (by kernel_rfl))⟩, rfl, trivial⟩ ?_
      exact ⟨(⟨0, 0⟩ : GTag), 1, rfl, by have hn := nextN_cases t used client; simp only [nextR, tagValid, tagProper, tagZero, iff_false, false_iff, iff_true, true_iff, Classical.not_not, and_true, true_and, and_false, false_and, or_true, true_or, or_false, false_or, not_true_eq_false, not_false_eq_true, and_self, or_self] at *; omega, hp44.fr⟩
    · refine WP.skip ?_
      refine thn_n ?_
      refine WP.seq ?_
      refine WP.pure {} [.int .i64 t.Count] [2, 3, 6, 8] [.int .i64 client, .pointer (some ⟨g3, 0, none⟩), .pointer (some ⟨g6, 0, none⟩), .int .i64 (max t.Count (used + 1))] (.cons (Ld.row1 (P := Try.prog) (t := 2) (o := 0) (v := .int .i64 t.Count) hp37.get1 (by kernel_rfl)) (.cons (show Rng .i64 (used + 1) from Rng.i64 (by (simp only [tagValid, tagProper, tagZero] at *; omega))) .nil)) (by kernel_rfl) (fun b46 => ?_)
      refine thn_n ?_
      refine WP.cut (fun e64 w65 => ∃ (x63 : Int), ((x63 = (max t.Count (used + 1)) + 1 ∧ (((max t.Count (used + 1)) = t.Count) ∧ (client ≤ t.Client)) ∧ True) ∨ (x63 = max t.Count (used + 1) ∧ (¬ (((max t.Count (used + 1)) = t.Count) ∧ (client ≤ t.Client))) ∧ True)) ∧ List.map e64 [2, 6, 8] = [.int .i64 client, .pointer (some ⟨g6, 0, none⟩), .int .i64 x63] ∧ Hp w Non [Res.row g6 [.int .i64 0, .int .i64 0] 24, Res.row g3 [.int .i64 t.Count, .int .i64 t.Client] 24] w65) ?_ ?_
      · refine WP.cut (fun e55 w56 => ∃ (x53 : Bool), (True) ∧ Bp x53 (((max t.Count (used + 1)) = t.Count) ∧ (client ≤ t.Client)) ∧ List.map e55 [2, 6, 8, 42] = [.int .i64 client, .pointer (some ⟨g6, 0, none⟩), .int .i64 (max t.Count (used + 1)), .bool x53] ∧ Hp w Non [Res.row g6 [.int .i64 0, .int .i64 0] 24, Res.row g3 [.int .i64 t.Count, .int .i64 t.Client] 24] w56) ?_ ?_
        · refine WP.region _ rfl (by kernel_rfl) ?_
          refine OPS.batch 5 {} [.int .i64 t.Count] [2, 3, 6, 8, 37] [.int .i64 client, .pointer (some ⟨g3, 0, none⟩), .pointer (some ⟨g6, 0, none⟩), .int .i64 (max t.Count (used + 1)), .bool (decide ((max t.Count (used + 1)) = t.Count))] (.cons (Ld.row1 (P := Try.prog) (t := 2) (o := 0) (v := .int .i64 t.Count) hp37.get1 (by kernel_rfl)) .nil) (by kernel_rfl) (fun b49 => ?_)
          by_cases h50 : (max t.Count (used + 1)) = t.Count
          · rw [show (decide ((max t.Count (used + 1)) = t.Count)) = true from Bp.dec.tt h50]
            refine OPS.batch 5 { wraps := [42] } [.int .i64 t.Client] [2, 6, 8, 42] [.int .i64 client, .pointer (some ⟨g6, 0, none⟩), .int .i64 (max t.Count (used + 1)), .bool (decide (client ≤ t.Client))] (.cons (Ld.row1 (P := Try.prog) (t := 3) (o := 1) (v := .int .i64 t.Client) hp37.get1 (by kernel_rfl)) .nil) (by kernel_rfl) (fun b51 => ?_)
            refine OPS.nil ?_
            refine thn_n ?_
            exact ⟨decide (client ≤ t.Client), trivial, Bp.of Bp.dec (by simp [h50]), by kernel_rfl, hp37⟩
          · rw [show (decide ((max t.Count (used + 1)) = t.Count)) = false from Bp.dec.ff h50]
            refine OPS.batch 5 { wraps := [42] } [] [2, 6, 8, 42] [.int .i64 client, .pointer (some ⟨g6, 0, none⟩), .int .i64 (max t.Count (used + 1)), .bool false] .nil (by kernel_rfl) (fun b52 => ?_)
            refine OPS.nil ?_
            refine thn_n ?_
            exact ⟨false, trivial, Bp.of Bp.f (by simp [h50]), by kernel_rfl, hp37⟩
        rintro e55 w56 ⟨x53, hd58, hb54, hE59, hp57⟩
        obtain ⟨b60, rfl⟩ := toMk hE59
        clear hE59
        clear hd58
        refine WP.test (p := ((max t.Count (used + 1)) = t.Count) ∧ (client ≤ t.Client)) rfl hb54 (fun h61 => ?_) (fun h61 => ?_)
        · refine WP.pure {} [] [2, 6, 8] [.int .i64 client, .pointer (some ⟨g6, 0, none⟩), .int .i64 ((max t.Count (used + 1)) + 1)] (.cons (show Rng .i64 ((max t.Count (used + 1)) + 1) from Rng.i64 (by (simp only [tagValid, tagProper, tagZero] at *; omega))) .nil) (by kernel_rfl) (fun b62 => ?_)
          refine thn_n ?_
          exact ⟨(max t.Count (used + 1)) + 1, Or.inl ⟨rfl, h61, trivial⟩, by kernel_rfl, hp57⟩
        · refine WP.skip ?_
          refine thn_n ?_
          exact ⟨max t.Count (used + 1), Or.inr (⟨rfl, h61, trivial⟩), by kernel_rfl, hp57⟩
      rintro e64 w65 ⟨x63, hd67, hE68, hp66⟩
      obtain ⟨b69, rfl⟩ := toMk hE68
      clear hE68
      refine WP.seq ?_
      refine WP.seq ?_
      refine WP.pure {} [] [2, 6, 8, 46] [.int .i64 client, .pointer (some ⟨g6, 0, none⟩), .int .i64 x63, .bool (decide (4611686018427387903 < x63))] .nil (by kernel_rfl) (fun b70 => ?_)
      refine thn_n ?_
      refine WP.test (p := 4611686018427387903 < x63) rfl Bp.dec (fun h71 => ?_) (fun h71 => ?_)
      · refine WP.seq ?_
        refine WP.region _ rfl (by kernel_rfl) ?_
        refine OPS.batch 1 {} [] [6, 47] [.pointer (some ⟨g6, 0, none⟩), .agg #[.int .i64 0, .int .i64 0]] .nil (by kernel_rfl) (fun b72 => ?_)
        refine OPS.cons (opStep.store0 hp66 rfl [.int .i64 0, .int .i64 0] [.int .i64 0, .int .i64 0] (by kernel_rfl) (fun w73 hp74 => ?_))
        refine OPS.batch 1 {} [] [6, 7] [.pointer (some ⟨g6, 0, none⟩), .int .i64 42] .nil (by kernel_rfl) (fun b75 => ?_)
        refine OPS.nil ?_
        refine thn_n ?_
        refine WP.ret ?_
        refine thn_r ?_
        refine bodyQ.of _ rfl [.agg #[.int .i64 0, .int .i64 0], .int .i64 42] ⟨⟨_, rfl, (show Ld Try.prog w73 24 ⟨g6, 0, none⟩ (.agg #[.int .i64 0, .int .i64 0]) from Ld.rowN (cs := [.int .i64 0, .int .i64 0]) hp74.get0 (by kernel_rfl))⟩, rfl, trivial⟩ ?_
        exact ⟨(⟨0, 0⟩ : GTag), 42, rfl, by have hn := nextN_cases t used client; simp only [nextR, tagValid, tagProper, tagZero, iff_false, false_iff, iff_true, true_iff, Classical.not_not, and_true, true_and, and_false, false_and, or_true, true_or, or_false, false_or, not_true_eq_false, not_false_eq_true, and_self, or_self] at *; omega, hp74.fr⟩
      · refine WP.skip ?_
        refine thn_n ?_
        refine WP.seq ?_
        refine WP.region _ rfl (by kernel_rfl) ?_
        refine OPS.batch 3 {} [] [6, 50] [.pointer (some ⟨g6, 0, none⟩), .agg #[.int .i64 x63, .int .i64 client]] .nil (by kernel_rfl) (fun b76 => ?_)
        refine OPS.cons (opStep.store0 hp66 rfl [.int .i64 x63, .int .i64 client] [.int .i64 x63, .int .i64 client] (by kernel_rfl) (fun w77 hp78 => ?_))
        refine OPS.batch 1 {} [] [6, 7] [.pointer (some ⟨g6, 0, none⟩), .int .i64 0] .nil (by kernel_rfl) (fun b79 => ?_)
        refine OPS.nil ?_
        refine thn_n ?_
        refine WP.ret ?_
        refine bodyQ.of _ rfl [.agg #[.int .i64 x63, .int .i64 client], .int .i64 0] ⟨⟨_, rfl, (show Ld Try.prog w77 24 ⟨g6, 0, none⟩ (.agg #[.int .i64 x63, .int .i64 client]) from Ld.rowN (cs := [.int .i64 x63, .int .i64 client]) hp78.get0 (by kernel_rfl))⟩, rfl, trivial⟩ ?_
        exact ⟨(⟨x63, client⟩ : GTag), 0, rfl, by have hn := nextN_cases t used client; simp only [nextR, tagValid, tagProper, tagZero, iff_false, false_iff, iff_true, true_iff, Classical.not_not, and_true, true_and, and_false, false_and, or_true, true_or, or_false, false_or, not_true_eq_false, not_false_eq_true, and_self, or_self] at *; omega, hp78.fr⟩

end Go.Proofs.Ythdkbbpiaeaojaa.K
