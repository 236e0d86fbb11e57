/- The walks of TagN: what each function computes. -/
import Derived.Test.YtpmcjhjlajmljaaDoorRRRRProg
import Derived.Test.YtpmcjhjlajmljaaDoorRRRRCoreO
import Derived.Test.YtpmcjhjlajmljaaDoorRRRRTag
namespace Go.Proofs.YtpmcjhjlajmljaaDoorRRRR.K
open Go Go.Proofs Go.RowKit
set_option linter.unusedVariables false
set_option linter.unusedSimpArgs false
set_option maxRecDepth 20000
set_option maxHeartbeats 4000000

def nextN (t : GTag) (used client : Int) : Int := if max t.Count (used + 1) = t.Count ∧ client ≤ t.Client then max t.Count (used + 1) + 1 else max t.Count (used + 1)
def nextR (t : GTag) (used client : Int) (x : GTag) (e : Int) : Prop :=
  (e = 41 ∧ ¬ tagValid t ∧ x.Count = 0 ∧ x.Client = 0) ∨
  (e = 1 ∧ tagValid t ∧ (used < 0 ∨ 4611686018427387903 < used ∨ client < 1 ∨ 65535 < client) ∧ x.Count = 0 ∧ x.Client = 0) ∨
  (tagValid t ∧ 0 ≤ used ∧ used ≤ 4611686018427387903 ∧ 1 ≤ client ∧ client ≤ 65535 ∧
    ((e = 0 ∧ nextN t used client ≤ 4611686018427387903 ∧ x.Count = nextN t used client ∧ x.Client = client) ∨ (e = 42 ∧ 4611686018427387903 < nextN t used client ∧ x.Count = 0 ∧ x.Client = 0)))
theorem nextN_cases (t : GTag) (used client : Int) : ((t.Count = used + 1 ∨ used + 1 < t.Count) ∧ client ≤ t.Client ∧ nextN t used client = t.Count + 1) ∨ (used + 1 ≤ t.Count ∧ t.Client < client ∧ nextN t used client = t.Count) ∨ (t.Count < used + 1 ∧ nextN t used client = used + 1) := by
  unfold nextN
  split <;> omega

theorem tag_Next (t : GTag) (used client : Int) (w : World) :
    Calls Tryd.prog 20 #[GTag.val t, .int .i64 used, .int .i64 client] w (fun x w' => ∃ (y : GTag) (e : Int), x = .returned (.tuple #[GTag.val y, .int .i64 e]) ∧ nextR t used client y e ∧ Fram Non w w') := by
  refine calls_of Tryd.func20 rfl 51 rfl (by simp) ?_
  have hp0 := Hp.init w
  have he0 : List.map (env0 [GTag.val t, .int .i64 used, .int .i64 client]) [0, 1, 2] = [GTag.val t, .int .i64 used, .int .i64 client] := by kernel_rfl
  obtain ⟨b0, he0⟩ := toMk he0
  rw [he0]
  clear he0
  refine WP.seq ?_
  refine WP.region _ rfl (by kernel_rfl) ?_
  refine OPS.cons (opStep.box hp0 [.int .i64 t.Count, .int .i64 t.Client] (by kernel_rfl) (fun g3 w1 hp2 => ?_))
  refine OPS.cons (opStep.alloc hp2 [.int .i64 0, .int .i64 0] (by kernel_rfl) (fun g6 w4 hp5 => ?_))
  refine OPS.batch 1 {} [] [1, 2, 3, 6] [.int .i64 used, .int .i64 client, .pointer (some ⟨g3, 0, none⟩), .pointer (some ⟨g6, 0, none⟩)] .nil (by kernel_rfl) (fun b7 => ?_)
  refine OPS.nil ?_
  refine thn_n ?_
  refine WP.seq ?_
  refine WP.seq ?_
  refine WP.region _ rfl (by kernel_rfl) ?_
  refine OPS.batch 1 {} [GTag.val t] [1, 2, 3, 6, 9] [.int .i64 used, .int .i64 client, .pointer (some ⟨g3, 0, none⟩), .pointer (some ⟨g6, 0, none⟩), GTag.val t] (.cons (show Ld Tryd.prog w4 23 ⟨g3, 0, none⟩ (GTag.val t) from Ld.rowN (cs := [.int .i64 t.Count, .int .i64 t.Client]) hp5.get1 (by kernel_rfl)) .nil) (by kernel_rfl) (fun b8 => ?_)
  refine OPS.cons (opStep.call (some 10) [GTag.val t] (by kernel_rfl) (tag_Valid t _) ?_)
  rintro _ w11 ⟨b14, rfl, hb15, hf12⟩
  refine ⟨_, rfl, ?_⟩
  have hp13 := hp5.step hf12
  refine OPS.batch 1 {} [] [1, 2, 3, 6, 11] [.int .i64 used, .int .i64 client, .pointer (some ⟨g3, 0, none⟩), .pointer (some ⟨g6, 0, none⟩), .bool (!b14)] .nil (by kernel_rfl) (fun b16 => ?_)
  refine OPS.nil ?_
  refine thn_n ?_
  refine WP.test (p := ¬ (tagValid t)) rfl (Bp.not hb15) (fun h17 => ?_) (fun h17 => ?_)
  · refine WP.seq ?_
    refine WP.region _ rfl (by kernel_rfl) ?_
    refine OPS.batch 1 {} [] [6, 12] [.pointer (some ⟨g6, 0, none⟩), .agg #[.int .i64 0, .int .i64 0]] .nil (by kernel_rfl) (fun b18 => ?_)
    refine OPS.cons (opStep.store0 hp13 rfl [.int .i64 0, .int .i64 0] [.int .i64 0, .int .i64 0] (by kernel_rfl) (fun w19 hp20 => ?_))
    refine OPS.batch 1 {} [] [6, 7] [.pointer (some ⟨g6, 0, none⟩), .int .i64 41] .nil (by kernel_rfl) (fun b21 => ?_)
    refine OPS.nil ?_
    refine thn_n ?_
    refine WP.ret ?_
    refine thn_r ?_
    refine bodyQ.of _ rfl [.agg #[.int .i64 0, .int .i64 0], .int .i64 41] ⟨⟨_, rfl, (show Ld Tryd.prog w19 23 ⟨g6, 0, none⟩ (.agg #[.int .i64 0, .int .i64 0]) from Ld.rowN (cs := [.int .i64 0, .int .i64 0]) hp20.get0 (by kernel_rfl))⟩, rfl, trivial⟩ ?_
    exact ⟨(⟨0, 0⟩ : GTag), 41, rfl, by have hn := nextN_cases t used client; simp only [nextR, tagValid, tagProper, tagZero, iff_false, false_iff, iff_true, true_iff, Classical.not_not, and_true, true_and, and_false, false_and, or_true, true_or, or_false, false_or, not_true_eq_false, not_false_eq_true, and_self, or_self] at *; omega, hp20.fr⟩
  · replace h17 := Classical.not_not.1 h17
    refine WP.skip ?_
    refine thn_n ?_
    refine WP.seq ?_
    refine WP.cut (fun e41 w42 => ∃ (x39 : Bool), (True) ∧ Bp x39 (((used < 0)) ∨ ((¬ (used < 0)) ∧ (4611686018427387903 < used)) ∨ ((¬ (used < 0)) ∧ (¬ (4611686018427387903 < used)) ∧ (client < 1)) ∨ ((¬ (used < 0)) ∧ (¬ (4611686018427387903 < used)) ∧ (¬ (client < 1)) ∧ (65535 < client))) ∧ List.map e41 [1, 2, 3, 6, 26] = [.int .i64 used, .int .i64 client, .pointer (some ⟨g3, 0, none⟩), .pointer (some ⟨g6, 0, none⟩), .bool x39] ∧ Hp w Non [Res.row g6 [.int .i64 0, .int .i64 0] 23, Res.row g3 [.int .i64 t.Count, .int .i64 t.Client] 23] w42) ?_ ?_
    · refine WP.region _ rfl (by kernel_rfl) ?_
      refine OPS.batch 3 {} [] [1, 2, 3, 6, 15] [.int .i64 used, .int .i64 client, .pointer (some ⟨g3, 0, none⟩), .pointer (some ⟨g6, 0, none⟩), .bool (decide (used < 0))] .nil (by kernel_rfl) (fun b23 => ?_)
      by_cases h24 : used < 0
      · refine OPS.batch 0 {} [] [1, 2, 3, 6, 15] [.int .i64 used, .int .i64 client, .pointer (some ⟨g3, 0, none⟩), .pointer (some ⟨g6, 0, none⟩), .bool (decide (used < 0))] .nil (by kernel_rfl) (fun b25 => ?_)
        refine OPS.re [.int .i64 used, .int .i64 client, .pointer (some ⟨g3, 0, none⟩), .pointer (some ⟨g6, 0, none⟩), .bool true] (by rw [show (decide (used < 0)) = true from Bp.dec.tt h24]) ?_
        refine OPS.batch 11 { wraps := [18, 22, 26] } [] [1, 2, 3, 6, 26] [.int .i64 used, .int .i64 client, .pointer (some ⟨g3, 0, none⟩), .pointer (some ⟨g6, 0, none⟩), .bool true] .nil (by kernel_rfl) (fun b26 => ?_)
        refine OPS.nil ?_
        refine thn_n ?_
        exact ⟨true, trivial, Bp.of Bp.t (by first | (simp only [h24, iff_false, false_iff, iff_true, true_iff, Classical.not_not, and_true, true_and, and_false, false_and, or_true, true_or, or_false, false_or, not_true_eq_false, not_false_eq_true, and_self, or_self, iff_self]; done) | (simp [h24]; done) | simp_all), by kernel_rfl, hp13⟩
      · refine OPS.batch 0 {} [] [1, 2, 3, 6, 15] [.int .i64 used, .int .i64 client, .pointer (some ⟨g3, 0, none⟩), .pointer (some ⟨g6, 0, none⟩), .bool (decide (used < 0))] .nil (by kernel_rfl) (fun b27 => ?_)
        refine OPS.re [.int .i64 used, .int .i64 client, .pointer (some ⟨g3, 0, none⟩), .pointer (some ⟨g6, 0, none⟩), .bool false] (by rw [show (decide (used < 0)) = false from Bp.dec.ff h24]) ?_
        refine OPS.batch 4 { wraps := [18] } [] [1, 2, 3, 6, 19] [.int .i64 used, .int .i64 client, .pointer (some ⟨g3, 0, none⟩), .pointer (some ⟨g6, 0, none⟩), .bool (decide (4611686018427387903 < used))] .nil (by kernel_rfl) (fun b28 => ?_)
        by_cases h29 : 4611686018427387903 < used
        · refine OPS.batch 0 {} [] [1, 2, 3, 6, 19] [.int .i64 used, .int .i64 client, .pointer (some ⟨g3, 0, none⟩), .pointer (some ⟨g6, 0, none⟩), .bool (decide (4611686018427387903 < used))] .nil (by kernel_rfl) (fun b30 => ?_)
          refine OPS.re [.int .i64 used, .int .i64 client, .pointer (some ⟨g3, 0, none⟩), .pointer (some ⟨g6, 0, none⟩), .bool true] (by rw [show (decide (4611686018427387903 < used)) = true from Bp.dec.tt h29]) ?_
          refine OPS.batch 7 { wraps := [22, 26] } [] [1, 2, 3, 6, 26] [.int .i64 used, .int .i64 client, .pointer (some ⟨g3, 0, none⟩), .pointer (some ⟨g6, 0, none⟩), .bool true] .nil (by kernel_rfl) (fun b31 => ?_)
          refine OPS.nil ?_
          refine thn_n ?_
          exact ⟨true, trivial, Bp.of Bp.t (by first | (simp only [h24, h29, iff_false, false_iff, iff_true, true_iff, Classical.not_not, and_true, true_and, and_false, false_and, or_true, true_or, or_false, false_or, not_true_eq_false, not_false_eq_true, and_self, or_self, iff_self]; done) | (simp [h24, h29]; done) | simp_all), by kernel_rfl, hp13⟩
        · refine OPS.batch 0 {} [] [1, 2, 3, 6, 19] [.int .i64 used, .int .i64 client, .pointer (some ⟨g3, 0, none⟩), .pointer (some ⟨g6, 0, none⟩), .bool (decide (4611686018427387903 < used))] .nil (by kernel_rfl) (fun b32 => ?_)
          refine OPS.re [.int .i64 used, .int .i64 client, .pointer (some ⟨g3, 0, none⟩), .pointer (some ⟨g6, 0, none⟩), .bool false] (by rw [show (decide (4611686018427387903 < used)) = false from Bp.dec.ff h29]) ?_
          refine OPS.batch 4 { wraps := [22] } [] [1, 2, 3, 6, 23] [.int .i64 used, .int .i64 client, .pointer (some ⟨g3, 0, none⟩), .pointer (some ⟨g6, 0, none⟩), .bool (decide (client < 1))] .nil (by kernel_rfl) (fun b33 => ?_)
          by_cases h34 : client < 1
          · refine OPS.batch 0 {} [] [1, 2, 3, 6, 23] [.int .i64 used, .int .i64 client, .pointer (some ⟨g3, 0, none⟩), .pointer (some ⟨g6, 0, none⟩), .bool (decide (client < 1))] .nil (by kernel_rfl) (fun b35 => ?_)
            refine OPS.re [.int .i64 used, .int .i64 client, .pointer (some ⟨g3, 0, none⟩), .pointer (some ⟨g6, 0, none⟩), .bool true] (by rw [show (decide (client < 1)) = true from Bp.dec.tt h34]) ?_
            refine OPS.batch 3 { wraps := [26] } [] [1, 2, 3, 6, 26] [.int .i64 used, .int .i64 client, .pointer (some ⟨g3, 0, none⟩), .pointer (some ⟨g6, 0, none⟩), .bool true] .nil (by kernel_rfl) (fun b36 => ?_)
            refine OPS.nil ?_
            refine thn_n ?_
            exact ⟨true, trivial, Bp.of Bp.t (by first | (simp only [h24, h29, h34, iff_false, false_iff, iff_true, true_iff, Classical.not_not, and_true, true_and, and_false, false_and, or_true, true_or, or_false, false_or, not_true_eq_false, not_false_eq_true, and_self, or_self, iff_self]; done) | (simp [h24, h29, h34]; done) | simp_all), by kernel_rfl, hp13⟩
          · refine OPS.batch 0 {} [] [1, 2, 3, 6, 23] [.int .i64 used, .int .i64 client, .pointer (some ⟨g3, 0, none⟩), .pointer (some ⟨g6, 0, none⟩), .bool (decide (client < 1))] .nil (by kernel_rfl) (fun b37 => ?_)
            refine OPS.re [.int .i64 used, .int .i64 client, .pointer (some ⟨g3, 0, none⟩), .pointer (some ⟨g6, 0, none⟩), .bool false] (by rw [show (decide (client < 1)) = false from Bp.dec.ff h34]) ?_
            refine OPS.batch 3 { wraps := [26] } [] [1, 2, 3, 6, 26] [.int .i64 used, .int .i64 client, .pointer (some ⟨g3, 0, none⟩), .pointer (some ⟨g6, 0, none⟩), .bool (decide (65535 < client))] .nil (by kernel_rfl) (fun b38 => ?_)
            refine OPS.nil ?_
            refine thn_n ?_
            exact ⟨decide (65535 < client), trivial, Bp.of Bp.dec (by first | (simp only [h24, h29, h34, iff_false, false_iff, iff_true, true_iff, Classical.not_not, and_true, true_and, and_false, false_and, or_true, true_or, or_false, false_or, not_true_eq_false, not_false_eq_true, and_self, or_self, iff_self]; done) | (simp [h24, h29, h34]; done) | simp_all), by kernel_rfl, hp13⟩
    rintro e41 w42 ⟨x39, hd44, hb40, hE45, hp43⟩
    obtain ⟨b46, rfl⟩ := toMk hE45
    clear hE45
    clear hd44
    refine WP.test (p := ((used < 0)) ∨ ((¬ (used < 0)) ∧ (4611686018427387903 < used)) ∨ ((¬ (used < 0)) ∧ (¬ (4611686018427387903 < used)) ∧ (client < 1)) ∨ ((¬ (used < 0)) ∧ (¬ (4611686018427387903 < used)) ∧ (¬ (client < 1)) ∧ (65535 < client))) rfl hb40 (fun h47 => ?_) (fun h47 => ?_)
    · refine WP.seq ?_
      refine WP.region _ rfl (by kernel_rfl) ?_
      refine OPS.batch 1 {} [] [6, 27] [.pointer (some ⟨g6, 0, none⟩), .agg #[.int .i64 0, .int .i64 0]] .nil (by kernel_rfl) (fun b48 => ?_)
      refine OPS.cons (opStep.store0 hp43 rfl [.int .i64 0, .int .i64 0] [.int .i64 0, .int .i64 0] (by kernel_rfl) (fun w49 hp50 => ?_))
      refine OPS.batch 1 {} [] [6, 7] [.pointer (some ⟨g6, 0, none⟩), .int .i64 1] .nil (by kernel_rfl) (fun b51 => ?_)
      refine OPS.nil ?_
      refine thn_n ?_
      refine WP.ret ?_
      refine thn_r ?_
      refine bodyQ.of _ rfl [.agg #[.int .i64 0, .int .i64 0], .int .i64 1] ⟨⟨_, rfl, (show Ld Tryd.prog w49 23 ⟨g6, 0, none⟩ (.agg #[.int .i64 0, .int .i64 0]) from Ld.rowN (cs := [.int .i64 0, .int .i64 0]) hp50.get0 (by kernel_rfl))⟩, rfl, trivial⟩ ?_
      exact ⟨(⟨0, 0⟩ : GTag), 1, rfl, by have hn := nextN_cases t used client; simp only [nextR, tagValid, tagProper, tagZero, iff_false, false_iff, iff_true, true_iff, Classical.not_not, and_true, true_and, and_false, false_and, or_true, true_or, or_false, false_or, not_true_eq_false, not_false_eq_true, and_self, or_self] at *; omega, hp50.fr⟩
    · refine WP.skip ?_
      refine thn_n ?_
      refine WP.seq ?_
      refine WP.pure {} [.int .i64 t.Count] [2, 3, 6, 8] [.int .i64 client, .pointer (some ⟨g3, 0, none⟩), .pointer (some ⟨g6, 0, none⟩), .int .i64 (max t.Count (used + 1))] (.cons (Ld.row1 (P := Tryd.prog) (t := 2) (o := 0) (v := .int .i64 t.Count) hp43.get1 (by kernel_rfl)) (.cons (show Rng .i64 (used + 1) from Rng.i64 (by (simp only [tagValid, tagProper, tagZero] at *; omega))) .nil)) (by kernel_rfl) (fun b52 => ?_)
      refine thn_n ?_
      refine WP.cut (fun e72 w73 => ∃ (x71 : Int), ((x71 = (max t.Count (used + 1)) + 1 ∧ (((max t.Count (used + 1)) = t.Count) ∧ (client ≤ t.Client)) ∧ True) ∨ (x71 = max t.Count (used + 1) ∧ (¬ (((max t.Count (used + 1)) = t.Count) ∧ (client ≤ t.Client))) ∧ True)) ∧ List.map e72 [2, 6, 8] = [.int .i64 client, .pointer (some ⟨g6, 0, none⟩), .int .i64 x71] ∧ Hp w Non [Res.row g6 [.int .i64 0, .int .i64 0] 23, Res.row g3 [.int .i64 t.Count, .int .i64 t.Client] 23] w73) ?_ ?_
      · refine WP.cut (fun e63 w64 => ∃ (x61 : Bool), (True) ∧ Bp x61 (((max t.Count (used + 1)) = t.Count) ∧ (client ≤ t.Client)) ∧ List.map e63 [2, 6, 8, 42] = [.int .i64 client, .pointer (some ⟨g6, 0, none⟩), .int .i64 (max t.Count (used + 1)), .bool x61] ∧ Hp w Non [Res.row g6 [.int .i64 0, .int .i64 0] 23, Res.row g3 [.int .i64 t.Count, .int .i64 t.Client] 23] w64) ?_ ?_
        · refine WP.region _ rfl (by kernel_rfl) ?_
          refine OPS.batch 5 {} [.int .i64 t.Count] [2, 3, 6, 8, 37] [.int .i64 client, .pointer (some ⟨g3, 0, none⟩), .pointer (some ⟨g6, 0, none⟩), .int .i64 (max t.Count (used + 1)), .bool (decide ((max t.Count (used + 1)) = t.Count))] (.cons (Ld.row1 (P := Tryd.prog) (t := 2) (o := 0) (v := .int .i64 t.Count) hp43.get1 (by kernel_rfl)) .nil) (by kernel_rfl) (fun b55 => ?_)
          by_cases h56 : (max t.Count (used + 1)) = t.Count
          · refine OPS.batch 0 {} [] [2, 3, 6, 8, 37] [.int .i64 client, .pointer (some ⟨g3, 0, none⟩), .pointer (some ⟨g6, 0, none⟩), .int .i64 (max t.Count (used + 1)), .bool (decide ((max t.Count (used + 1)) = t.Count))] .nil (by kernel_rfl) (fun b57 => ?_)
            refine OPS.re [.int .i64 client, .pointer (some ⟨g3, 0, none⟩), .pointer (some ⟨g6, 0, none⟩), .int .i64 (max t.Count (used + 1)), .bool true] (by rw [show (decide ((max t.Count (used + 1)) = t.Count)) = true from Bp.dec.tt h56]) ?_
            refine OPS.batch 5 { wraps := [42] } [.int .i64 t.Client] [2, 6, 8, 42] [.int .i64 client, .pointer (some ⟨g6, 0, none⟩), .int .i64 (max t.Count (used + 1)), .bool (decide (client ≤ t.Client))] (.cons (Ld.row1 (P := Tryd.prog) (t := 3) (o := 1) (v := .int .i64 t.Client) hp43.get1 (by kernel_rfl)) .nil) (by kernel_rfl) (fun b58 => ?_)
            refine OPS.nil ?_
            refine thn_n ?_
            exact ⟨decide (client ≤ t.Client), trivial, Bp.of Bp.dec (by first | (simp only [h56, iff_false, false_iff, iff_true, true_iff, Classical.not_not, and_true, true_and, and_false, false_and, or_true, true_or, or_false, false_or, not_true_eq_false, not_false_eq_true, and_self, or_self, iff_self]; done) | (simp [h56]; done) | simp_all), by kernel_rfl, hp43⟩
          · refine OPS.batch 0 {} [] [2, 3, 6, 8, 37] [.int .i64 client, .pointer (some ⟨g3, 0, none⟩), .pointer (some ⟨g6, 0, none⟩), .int .i64 (max t.Count (used + 1)), .bool (decide ((max t.Count (used + 1)) = t.Count))] .nil (by kernel_rfl) (fun b59 => ?_)
            refine OPS.re [.int .i64 client, .pointer (some ⟨g3, 0, none⟩), .pointer (some ⟨g6, 0, none⟩), .int .i64 (max t.Count (used + 1)), .bool false] (by rw [show (decide ((max t.Count (used + 1)) = t.Count)) = false from Bp.dec.ff h56]) ?_
            refine OPS.batch 5 { wraps := [42] } [] [2, 6, 8, 42] [.int .i64 client, .pointer (some ⟨g6, 0, none⟩), .int .i64 (max t.Count (used + 1)), .bool false] .nil (by kernel_rfl) (fun b60 => ?_)
            refine OPS.nil ?_
            refine thn_n ?_
            exact ⟨false, trivial, Bp.of Bp.f (by first | (simp only [h56, iff_false, false_iff, iff_true, true_iff, Classical.not_not, and_true, true_and, and_false, false_and, or_true, true_or, or_false, false_or, not_true_eq_false, not_false_eq_true, and_self, or_self, iff_self]; done) | (simp [h56]; done) | simp_all), by kernel_rfl, hp43⟩
        rintro e63 w64 ⟨x61, hd66, hb62, hE67, hp65⟩
        obtain ⟨b68, rfl⟩ := toMk hE67
        clear hE67
        clear hd66
        refine WP.test (p := ((max t.Count (used + 1)) = t.Count) ∧ (client ≤ t.Client)) rfl hb62 (fun h69 => ?_) (fun h69 => ?_)
        · refine WP.pure {} [] [2, 6, 8] [.int .i64 client, .pointer (some ⟨g6, 0, none⟩), .int .i64 ((max t.Count (used + 1)) + 1)] (.cons (show Rng .i64 ((max t.Count (used + 1)) + 1) from Rng.i64 (by (simp only [tagValid, tagProper, tagZero] at *; omega))) .nil) (by kernel_rfl) (fun b70 => ?_)
          refine thn_n ?_
          exact ⟨(max t.Count (used + 1)) + 1, Or.inl ⟨rfl, h69, trivial⟩, by kernel_rfl, hp65⟩
        · refine WP.skip ?_
          refine thn_n ?_
          exact ⟨max t.Count (used + 1), Or.inr (⟨rfl, h69, trivial⟩), by kernel_rfl, hp65⟩
      rintro e72 w73 ⟨x71, hd75, hE76, hp74⟩
      obtain ⟨b77, rfl⟩ := toMk hE76
      clear hE76
      refine WP.seq ?_
      refine WP.seq ?_
      refine WP.pure {} [] [2, 6, 8, 46] [.int .i64 client, .pointer (some ⟨g6, 0, none⟩), .int .i64 x71, .bool (decide (4611686018427387903 < x71))] .nil (by kernel_rfl) (fun b78 => ?_)
      refine thn_n ?_
      refine WP.test (p := 4611686018427387903 < x71) rfl Bp.dec (fun h79 => ?_) (fun h79 => ?_)
      · refine WP.seq ?_
        refine WP.region _ rfl (by kernel_rfl) ?_
        refine OPS.batch 1 {} [] [6, 47] [.pointer (some ⟨g6, 0, none⟩), .agg #[.int .i64 0, .int .i64 0]] .nil (by kernel_rfl) (fun b80 => ?_)
        refine OPS.cons (opStep.store0 hp74 rfl [.int .i64 0, .int .i64 0] [.int .i64 0, .int .i64 0] (by kernel_rfl) (fun w81 hp82 => ?_))
        refine OPS.batch 1 {} [] [6, 7] [.pointer (some ⟨g6, 0, none⟩), .int .i64 42] .nil (by kernel_rfl) (fun b83 => ?_)
        refine OPS.nil ?_
        refine thn_n ?_
        refine WP.ret ?_
        refine thn_r ?_
        refine bodyQ.of _ rfl [.agg #[.int .i64 0, .int .i64 0], .int .i64 42] ⟨⟨_, rfl, (show Ld Tryd.prog w81 23 ⟨g6, 0, none⟩ (.agg #[.int .i64 0, .int .i64 0]) from Ld.rowN (cs := [.int .i64 0, .int .i64 0]) hp82.get0 (by kernel_rfl))⟩, rfl, trivial⟩ ?_
        exact ⟨(⟨0, 0⟩ : GTag), 42, rfl, by have hn := nextN_cases t used client; simp only [nextR, tagValid, tagProper, tagZero, iff_false, false_iff, iff_true, true_iff, Classical.not_not, and_true, true_and, and_false, false_and, or_true, true_or, or_false, false_or, not_true_eq_false, not_false_eq_true, and_self, or_self] at *; omega, hp82.fr⟩
      · refine WP.skip ?_
        refine thn_n ?_
        refine WP.seq ?_
        refine WP.region _ rfl (by kernel_rfl) ?_
        refine OPS.batch 3 {} [] [6, 50] [.pointer (some ⟨g6, 0, none⟩), .agg #[.int .i64 x71, .int .i64 client]] .nil (by kernel_rfl) (fun b84 => ?_)
        refine OPS.cons (opStep.store0 hp74 rfl [.int .i64 x71, .int .i64 client] [.int .i64 x71, .int .i64 client] (by kernel_rfl) (fun w85 hp86 => ?_))
        refine OPS.batch 1 {} [] [6, 7] [.pointer (some ⟨g6, 0, none⟩), .int .i64 0] .nil (by kernel_rfl) (fun b87 => ?_)
        refine OPS.nil ?_
        refine thn_n ?_
        refine WP.ret ?_
        refine bodyQ.of _ rfl [.agg #[.int .i64 x71, .int .i64 client], .int .i64 0] ⟨⟨_, rfl, (show Ld Tryd.prog w85 23 ⟨g6, 0, none⟩ (.agg #[.int .i64 x71, .int .i64 client]) from Ld.rowN (cs := [.int .i64 x71, .int .i64 client]) hp86.get0 (by kernel_rfl))⟩, rfl, trivial⟩ ?_
        exact ⟨(⟨x71, client⟩ : GTag), 0, rfl, by have hn := nextN_cases t used client; simp only [nextR, tagValid, tagProper, tagZero, iff_false, false_iff, iff_true, true_iff, Classical.not_not, and_true, true_and, and_false, false_and, or_true, true_or, or_false, false_or, not_true_eq_false, not_false_eq_true, and_self, or_self] at *; omega, hp86.fr⟩

def maxT : List GTag → GTag
  | [] => ⟨0, 0⟩
  | x :: l => l.foldl (fun m y => if 0 < tagCmp y m then y else m) x
theorem maxT_one {l : List GTag} {y : GTag} (h : l[0]? = some y) : maxT (l.take 1) = y := by
  cases l with
  | nil => simp at h
  | cons a l => simp at h; subst h; simp [maxT]
theorem maxT_step {l : List GTag} {k : Nat} {y : GTag} (h1 : 1 ≤ k) (hy : l[k]? = some y) : maxT (l.take (k + 1)) = if 0 < tagCmp y (maxT (l.take k)) then y else maxT (l.take k) := by
  have hlt : k < l.length := (List.getElem?_eq_some_iff.1 hy).1
  have hget : l[k] = y := (List.getElem?_eq_some_iff.1 hy).2
  rw [List.take_succ_eq_append_getElem hlt, hget]
  cases l with
  | nil => simp at hlt
  | cons a l =>
    obtain ⟨k, rfl⟩ : ∃ j, k = j + 1 := ⟨k - 1, by omega⟩
    simp only [List.take_succ_cons, List.cons_append, maxT, List.foldl_append, List.foldl_cons, List.foldl_nil]
    rfl
theorem maxT_pos {l : List GTag} : l.length ≠ 0 → l ≠ [] := by intro h e; subst e; simp at h

theorem maxFunc (l : List GTag) (a : Option Addr) (c : Nat) (w : World) (hs : SlR w a l.length (l.flatMap GTag.cells)) (hl : 0 < l.length) (hb : l.length ≤ 8796093022207) :
    Calls Tryd.prog 41 #[.slice a l.length c, .func (.func 15) #[] #[]] w (fun r_ w' => r_ = .returned (GTag.val (maxT l)) ∧ Fram Non w w') := by
  refine calls_of Tryd.func41 rfl 33 rfl (by simp) ?_
  have hp0 := Hp.init w
  have he0 : List.map (env0 [.slice a l.length c, .func (.func 15) #[] #[]]) [0, 1] = [.slice a l.length c, .func (.func 15) #[] #[]] := by kernel_rfl
  obtain ⟨b0, he0⟩ := toMk he0
  rw [he0]
  clear he0
  refine WP.seq ?_
  refine WP.region _ rfl (by kernel_rfl) ?_
  refine OPS.cons (opStep.alloc hp0 [.int .i64 0, .int .i64 0] (by kernel_rfl) (fun g3 w1 hp2 => ?_))
  refine OPS.nil ?_
  refine thn_n ?_
  refine WP.seq ?_
  refine WP.seq ?_
  refine WP.pure {} [] [0, 1, 4, 9] [.slice a l.length c, .func (.func 15) #[] #[], .pointer (some ⟨g3, 0, none⟩), .bool (decide (((l.length : Nat) : Int) < 1))] .nil (by kernel_rfl) (fun b4 => ?_)
  refine thn_n ?_
  refine WP.test (p := ((l.length : Nat) : Int) < 1) rfl Bp.dec (fun h5 => ?_) (fun h5 => ?_)
  · refine WP.region _ rfl (by kernel_rfl) ?_
    refine OPS.batch 1 {} [] [0, 1, 4, 10] [.slice a l.length c, .func (.func 15) #[] #[], .pointer (some ⟨g3, 0, none⟩), .iface 9 (.string ⟨#[115, 108, 105, 99, 101, 115, 46, 77, 97, 120, 70, 117, 110, 99, 58, 32, 101, 109, 112, 116, 121, 32, 108, 105, 115, 116]⟩)] .nil (by kernel_rfl) (fun b6 => ?_)
    exfalso
    omega
  · refine WP.skip ?_
    refine thn_n ?_
    refine WP.seq ?_
    refine WP.region _ rfl (by kernel_rfl) ?_
    obtain ⟨y11, hy12⟩ : ∃ y, (l)[0]? = some y := ⟨_, List.getElem?_eq_getElem (by first | (omega) | (simp only [List.length_append, List.length_cons, List.length_nil]; omega) | (simp only [List.length_take, List.length_append, List.length_cons, List.length_nil]; omega))⟩
    refine OPS.batch 3 {} [GTag.val y11] [0, 1, 4, 13] [.slice a l.length c, .func (.func 15) #[] #[], .pointer (some ⟨g3, 0, none⟩), GTag.val y11] (.cons (show InB (0) (l.length) from ⟨by omega, by omega⟩) (.cons ((hs.at hp2).some (by omega)) (.cons (Ld.add0 (Ld.elN (P := Tryd.prog) (t := 23) (hs.at hp2).rd 2 (fun _ => rfl) hy12 (o := 0) (cs := [.int .i64 y11.Count, .int .i64 y11.Client]) (by kernel_rfl))) .nil))) (by kernel_rfl) (fun b13 => ?_)
    refine OPS.cons (opStep.alloc hp2 [.int .i64 0, .int .i64 0] (by kernel_rfl) (fun g16 w14 hp15 => ?_))
    refine OPS.cons (opStep.store0 hp15 rfl [.int .i64 y11.Count, .int .i64 y11.Client] [.int .i64 y11.Count, .int .i64 y11.Client] (by kernel_rfl) (fun w17 hp18 => ?_))
    refine OPS.nil ?_
    refine thn_n ?_
    refine WP.seq ?_
    refine WP.seq ?_
    refine WP.pure {} [] [0, 1, 4, 5, 6] [.slice a l.length c, .func (.func 15) #[] #[], .pointer (some ⟨g3, 0, none⟩), .pointer (some ⟨g16, 0, none⟩), .int .i64 1] .nil (by kernel_rfl) (fun b19 => ?_)
    refine thn_n ?_
    refine WP.block ?_
    refine WP.loop (fun mz_ e20 w21 => ∃ (k : Nat) (m : GTag), mz_ = l.length - k ∧ (1 ≤ k ∧ k ≤ l.length ∧ m = maxT (l.take k)) ∧ List.map e20 [0, 1, 4, 5, 6] = [.slice a l.length c, .func (.func 15) #[] #[], .pointer (some ⟨g3, 0, none⟩), .pointer (some ⟨g16, 0, none⟩), .int .i64 (k : Int)] ∧ Hp w Non [Res.row g16 [.int .i64 m.Count, .int .i64 m.Client] 23, Res.row g3 [.int .i64 0, .int .i64 0] 23] w21) (l.length - (1)) ⟨1, y11, rfl, ⟨by omega, by omega, (maxT_one hy12).symm⟩, by kernel_rfl, hp18⟩ ?_
    rintro _ e20 w21 ⟨k, m, rfl, hI23, hE24, hp22⟩
    obtain ⟨b25, rfl⟩ := toMk hE24
    clear hE24
    obtain ⟨h1, h2, h3⟩ := hI23
    refine WP.seq ?_
    refine WP.seq ?_
    refine WP.pure {} [] [0, 1, 4, 5, 6, 17] [.slice a l.length c, .func (.func 15) #[] #[], .pointer (some ⟨g3, 0, none⟩), .pointer (some ⟨g16, 0, none⟩), .int .i64 (k : Int), .bool (decide ((k : Int) < ((l.length : Nat) : Int)))] .nil (by kernel_rfl) (fun b26 => ?_)
    refine thn_n ?_
    refine WP.test (p := (k : Int) < ((l.length : Nat) : Int)) rfl Bp.dec (fun h27 => ?_) (fun h27 => ?_)
    · refine WP.skip ?_
      refine thn_n ?_
      refine WP.seq ?_
      refine WP.block ?_
      refine WP.seq ?_
      have hp30 := hp22.drew
      refine WP.quiet (fun w28 => Hp w Non [Res.row g16 [.int .i64 m.Count, .int .i64 m.Client] 23, Res.row g3 [.int .i64 0, .int .i64 0] 23] w28) (by kernel_rfl) hp30 ?_
      have hnehp30 : ∃ wz_, (fun w28 => Hp w Non [Res.row g16 [.int .i64 m.Count, .int .i64 m.Client] 23, Res.row g3 [.int .i64 0, .int .i64 0] 23] w28) wz_ := ⟨_, hp30⟩
      obtain ⟨y33, hy34⟩ : ∃ y, (l)[k]? = some y := ⟨_, List.getElem?_eq_getElem (by first | (omega) | (simp only [List.length_append, List.length_cons, List.length_nil]; omega) | (simp only [List.length_take, List.length_append, List.length_cons, List.length_nil]; omega))⟩
      refine QOPS.batch 6 {} [GTag.val y33, GTag.val m] [0, 1, 4, 5, 6, 20, 24, 25] [.slice a l.length c, .func (.func 15) #[] #[], .pointer (some ⟨g3, 0, none⟩), .pointer (some ⟨g16, 0, none⟩), .int .i64 (k : Int), .func (.func 15) #[] #[], GTag.val y33, GTag.val m] hnehp30 (fun w31 hp32 => QB.mk (.cons (show InB ((k : Int)) (l.length) from ⟨by omega, by omega⟩) (.cons ((hs.at hp32).some (by omega)) (.cons (Ld.add0 (Ld.elN (P := Tryd.prog) (t := 23) (hs.at hp32).rd 2 (fun _ => rfl) hy34 (o := 0) (cs := [.int .i64 y33.Count, .int .i64 y33.Client]) (by kernel_rfl))) (.cons (show Ld Tryd.prog w31 23 ⟨g16, 0, none⟩ (GTag.val m) from Ld.rowN (cs := [.int .i64 m.Count, .int .i64 m.Client]) hp32.get0 (by kernel_rfl)) .nil)))) (by kernel_rfl)) (fun b35 => ?_)
      refine QOPS.callV (some 26) [GTag.val y33, GTag.val m] rfl (by kernel_rfl) (fun w36 hp37 => (tag_Compare y33 m _).mono fun _ _ h => ⟨h.1, hp37.step h.2⟩) ?_
      refine QOPS.batch 1 {} [] [0, 1, 4, 5, 6, 27] [.slice a l.length c, .func (.func 15) #[] #[], .pointer (some ⟨g3, 0, none⟩), .pointer (some ⟨g16, 0, none⟩), .int .i64 (k : Int), .bool (decide (0 < (tagCmp y33 m)))] hnehp30 (fun w38 hp39 => QB.mk .nil (by kernel_rfl)) (fun b40 => ?_)
      refine QOPS.nil (fun w41 hp42 => ?_)
      refine thn_n ?_
      refine WP.test (p := 0 < (tagCmp y33 m)) rfl Bp.dec (fun h43 => ?_) (fun h43 => ?_)
      · refine WP.region _ rfl (by kernel_rfl) ?_
        refine OPS.batch 4 {} [GTag.val y33] [0, 1, 4, 5, 6, 31] [.slice a l.length c, .func (.func 15) #[] #[], .pointer (some ⟨g3, 0, none⟩), .pointer (some ⟨g16, 0, none⟩), .int .i64 (k : Int), GTag.val y33] (.cons (show InB ((k : Int)) (l.length) from ⟨by omega, by omega⟩) (.cons ((hs.at hp42).some (by omega)) (.cons (Ld.add0 (Ld.elN (P := Tryd.prog) (t := 23) (hs.at hp42).rd 2 (fun _ => rfl) hy34 (o := 0) (cs := [.int .i64 y33.Count, .int .i64 y33.Client]) (by kernel_rfl))) .nil))) (by kernel_rfl) (fun b44 => ?_)
        refine OPS.cons (opStep.store0 hp42 rfl [.int .i64 y33.Count, .int .i64 y33.Client] [.int .i64 y33.Count, .int .i64 y33.Client] (by kernel_rfl) (fun w45 hp46 => ?_))
        refine OPS.nil ?_
        refine blk_n ?_
        refine thn_n ?_
        refine WP.pure {} [] [0, 1, 4, 5, 6] [.slice a l.length c, .func (.func 15) #[] #[], .pointer (some ⟨g3, 0, none⟩), .pointer (some ⟨g16, 0, none⟩), .int .i64 ((k : Int) + 1)] (.cons (show Rng .i64 ((k : Int) + 1) from Rng.i64 (by omega)) .nil) (by kernel_rfl) (fun b47 => ?_)
        refine thn_n ?_
        exact ⟨l.length - (k + 1), (by omega), k + 1, y33, rfl, ⟨by omega, by omega, by rw [maxT_step h1 hy34, ← h3, if_pos h43]⟩, by kernel_rfl, hp46⟩
      · refine WP.skip ?_
        refine blk_n ?_
        refine thn_n ?_
        refine WP.pure {} [] [0, 1, 4, 5, 6] [.slice a l.length c, .func (.func 15) #[] #[], .pointer (some ⟨g3, 0, none⟩), .pointer (some ⟨g16, 0, none⟩), .int .i64 ((k : Int) + 1)] (.cons (show Rng .i64 ((k : Int) + 1) from Rng.i64 (by omega)) .nil) (by kernel_rfl) (fun b48 => ?_)
        refine thn_n ?_
        exact ⟨l.length - (k + 1), (by omega), k + 1, m, rfl, ⟨by omega, by omega, by rw [maxT_step h1 hy34, ← h3, if_neg h43]⟩, by kernel_rfl, hp42⟩
    · refine WP.exit ?_
      refine thn_x ?_
      refine thn_x ?_
      refine blk_hit ?_
      refine thn_n ?_
      refine WP.seq ?_
      refine WP.region _ rfl (by kernel_rfl) ?_
      refine OPS.batch 1 {} [GTag.val m] [4, 32] [.pointer (some ⟨g3, 0, none⟩), GTag.val m] (.cons (show Ld Tryd.prog w21 23 ⟨g16, 0, none⟩ (GTag.val m) from Ld.rowN (cs := [.int .i64 m.Count, .int .i64 m.Client]) hp22.get0 (by kernel_rfl)) .nil) (by kernel_rfl) (fun b49 => ?_)
      refine OPS.cons (opStep.store1 hp22 rfl [.int .i64 m.Count, .int .i64 m.Client] [.int .i64 m.Count, .int .i64 m.Client] (by kernel_rfl) (fun w50 hp51 => ?_))
      refine OPS.nil ?_
      refine thn_n ?_
      refine WP.ret ?_
      refine bodyQ.of _ rfl [GTag.val m] ⟨⟨_, rfl, (show Ld Tryd.prog w50 23 ⟨g3, 0, none⟩ (GTag.val m) from Ld.rowN (cs := [.int .i64 m.Count, .int .i64 m.Client]) hp51.get1 (by kernel_rfl))⟩, trivial⟩ ?_
      exact ⟨by rw [show maxT l = m from by rw [h3, List.take_of_length_le (by omega)]]; rfl, hp51.fr⟩

theorem tag_Max (l : List GTag) (a : Option Addr) (c : Nat) (w : World) (hs : SlR w a l.length (l.flatMap GTag.cells)) (hb : l.length ≤ 8796093022207) :
    Calls Tryd.prog 17 #[.slice a l.length c] w (fun r_ w' => r_ = .returned (GTag.val (maxT l)) ∧ Fram Non w w') := by
  refine calls_of Tryd.func17 rfl 9 rfl (by simp) ?_
  have hp0 := Hp.init w
  have he0 : List.map (env0 [.slice a l.length c]) [0] = [.slice a l.length c] := by kernel_rfl
  obtain ⟨b0, he0⟩ := toMk he0
  rw [he0]
  clear he0
  refine WP.seq ?_
  refine WP.region _ rfl (by kernel_rfl) ?_
  refine OPS.cons (opStep.alloc hp0 [.int .i64 0, .int .i64 0] (by kernel_rfl) (fun g3 w1 hp2 => ?_))
  refine OPS.nil ?_
  refine thn_n ?_
  refine WP.seq ?_
  refine WP.seq ?_
  refine WP.pure {} [] [0, 2, 5] [.slice a l.length c, .pointer (some ⟨g3, 0, none⟩), .bool (decide (((l.length : Nat) : Int) = 0))] .nil (by kernel_rfl) (fun b4 => ?_)
  refine thn_n ?_
  refine WP.test (p := ((l.length : Nat) : Int) = 0) rfl Bp.dec (fun h5 => ?_) (fun h5 => ?_)
  · refine WP.seq ?_
    refine WP.region _ rfl (by kernel_rfl) ?_
    refine OPS.batch 1 {} [] [2, 6] [.pointer (some ⟨g3, 0, none⟩), .agg #[.int .i64 0, .int .i64 0]] .nil (by kernel_rfl) (fun b6 => ?_)
    refine OPS.cons (opStep.store0 hp2 rfl [.int .i64 0, .int .i64 0] [.int .i64 0, .int .i64 0] (by kernel_rfl) (fun w7 hp8 => ?_))
    refine OPS.nil ?_
    refine thn_n ?_
    refine WP.ret ?_
    refine thn_r ?_
    refine bodyQ.of _ rfl [.agg #[.int .i64 0, .int .i64 0]] ⟨⟨_, rfl, (show Ld Tryd.prog w7 23 ⟨g3, 0, none⟩ (.agg #[.int .i64 0, .int .i64 0]) from Ld.rowN (cs := [.int .i64 0, .int .i64 0]) hp8.get0 (by kernel_rfl))⟩, trivial⟩ ?_
    exact ⟨by first | rfl | (rw [show l = [] from List.eq_nil_of_length_eq_zero (by omega)]; rfl), hp8.fr⟩
  · refine WP.skip ?_
    refine thn_n ?_
    refine WP.seq ?_
    refine WP.region _ rfl (by kernel_rfl) ?_
    refine OPS.batch 1 {} [] [2, 7] [.pointer (some ⟨g3, 0, none⟩), .slice a l.length c] .nil (by kernel_rfl) (fun b9 => ?_)
    refine OPS.cons (opStep.call (some 8) [.slice a l.length c, .func (.func 15) #[] #[]] (by kernel_rfl) (maxFunc l _ c _ (hs.at hp2) (by omega) (by omega)) ?_)
    rintro _ w12 ⟨rfl, hf13⟩
    refine ⟨_, rfl, ?_⟩
    have hp14 := hp2.step hf13
    refine OPS.cons (opStep.store0 hp14 rfl [.int .i64 ((maxT l).Count), .int .i64 ((maxT l).Client)] [.int .i64 ((maxT l).Count), .int .i64 ((maxT l).Client)] (by kernel_rfl) (fun w15 hp16 => ?_))
    refine OPS.nil ?_
    refine thn_n ?_
    refine WP.ret ?_
    refine bodyQ.of _ rfl [GTag.val (maxT l)] ⟨⟨_, rfl, (show Ld Tryd.prog w15 23 ⟨g3, 0, none⟩ (GTag.val (maxT l)) from Ld.rowN (cs := [.int .i64 ((maxT l).Count), .int .i64 ((maxT l).Client)]) hp16.get0 (by kernel_rfl))⟩, trivial⟩ ?_
    exact ⟨by first | rfl | (rw [show l = [] from List.eq_nil_of_length_eq_zero (by omega)]; rfl), hp16.fr⟩

end Go.Proofs.YtpmcjhjlajmljaaDoorRRRR.K
