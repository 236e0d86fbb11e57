/- The walks of WQuorumMeets: what each function computes. -/
import Derived.Test.YthdkbbpiaeaojaaProg
import Derived.Test.YthdkbbpiaeaojaaCoreO
import Derived.Test.YthdkbbpiaeaojaaQuoM
import Derived.Test.YthdkbbpiaeaojaaOpen
namespace Go.Proofs.Ythdkbbpiaeaojaa.K
open Go Go.Proofs Go.RowKit
set_option linter.unusedVariables false
set_option linter.unusedSimpArgs false
set_option maxRecDepth 20000
set_option maxHeartbeats 4000000

theorem QuorumMeets (c : GConfig) (BN : Nat) (hBN : BN ≤ 17592186043904) (w : World) (s1 : SlH) (l1 : List Int) (o1 : SlD w (α := Int) (fun y => [Go.Value.int .i64 y]) (fun y => Rng .i64 y) BN s1 l1) (s2 : SlH) (l2 : List Int) (o2 : SlD w (α := Int) (fun y => [Go.Value.int .i64 y]) (fun y => Rng .i64 y) BN s2 l2) :
    Calls Try.prog 9 #[GConfig.val c, .slice s1.a s1.n s1.c, .slice s2.a s2.n s2.c] w (fun x w' => x = .returned (.bool true) ∧ Fram Non w w') := by
  have hn1 := o1.len
  have hc1 := o1.cap
  have hd1 := o1.bnd
  have hn2 := o2.len
  have hc2 := o2.cap
  have hd2 := o2.bnd
  refine calls_of Try.func9 rfl 210 rfl (by simp) ?_
  have hp0 := Hp.init w
  have he0 : List.map (env0 [GConfig.val c, .slice s1.a s1.n s1.c, .slice s2.a s2.n s2.c]) [0, 1, 2] = [GConfig.val c, .slice s1.a s1.n s1.c, .slice s2.a s2.n s2.c] := by kernel_rfl
  obtain ⟨b0, he0⟩ := toMk he0
  rw [he0]
  clear he0
  refine WP.seq ?_
  refine WP.region _ rfl (by kernel_rfl) ?_
  refine OPS.cons (opStep.box hp0 [.int .i64 c.N, .int .i64 c.K, .int .i64 c.Delta] (by kernel_rfl) (fun g3 w1 hp2 => ?_))
  refine OPS.batch 1 {} [] [1, 2, 3] [.slice s1.a s1.n s1.c, .slice s2.a s2.n s2.c, .pointer (some ⟨g3, 0, none⟩)] .nil (by kernel_rfl) (fun b4 => ?_)
  refine OPS.nil ?_
  refine thn_n ?_
  refine WP.seq ?_
  refine WP.region _ rfl (by kernel_rfl) ?_
  refine OPS.batch 1 {} [GConfig.val c] [1, 2, 3, 25] [.slice s1.a s1.n s1.c, .slice s2.a s2.n s2.c, .pointer (some ⟨g3, 0, none⟩), GConfig.val c] (.cons (show Ld Try.prog w1 60 ⟨g3, 0, none⟩ (GConfig.val c) from Ld.rowN (cs := [.int .i64 c.N, .int .i64 c.K, .int .i64 c.Delta]) hp2.get0 (by kernel_rfl)) .nil) (by kernel_rfl) (fun b5 => ?_)
  refine OPS.cons (opStep.call (some 26) [GConfig.val c] (by kernel_rfl) (q_may c _) ?_)
  rintro _ w8 ⟨c11, rfl, hok12, hf9⟩
  refine ⟨_, rfl, ?_⟩
  have hp10 := hp2.step hf9
  have okX := hok12
  unfold okCfg at okX
  have qz := qSize_ok hok12
  have qk := qChk_ok hok12
  have qd : qDown c11 = c11.N - qSize c11 := if_pos hok12
  have qc : qCom c11 = 2 * qSize c11 - c11.N := if_pos hok12
  refine OPS.cons (opStep.store0 hp10 rfl [.int .i64 c11.N, .int .i64 c11.K, .int .i64 c11.Delta] [.int .i64 c11.N, .int .i64 c11.K, .int .i64 c11.Delta] (by kernel_rfl) (fun w13 hp14 => ?_))
  refine OPS.nil ?_
  refine thn_n ?_
  refine WP.seq ?_
  refine WP.region _ rfl (by kernel_rfl) ?_
  refine OPS.batch 1 {} [GConfig.val c11] [1, 2, 3, 28] [.slice s1.a s1.n s1.c, .slice s2.a s2.n s2.c, .pointer (some ⟨g3, 0, none⟩), GConfig.val c11] (.cons (show Ld Try.prog w13 60 ⟨g3, 0, none⟩ (GConfig.val c11) from Ld.rowN (cs := [.int .i64 c11.N, .int .i64 c11.K, .int .i64 c11.Delta]) hp14.get0 (by kernel_rfl)) .nil) (by kernel_rfl) (fun b15 => ?_)
  refine OPS.cons (opStep.call (some 29) [GConfig.val c11] (by kernel_rfl) (q_New c11 _ hok12) ?_)
  rintro _ w18 ⟨g21, rfl, hp20⟩
  refine ⟨_, rfl, ?_⟩
  have hp19 := hp14.made hp20
  refine OPS.batch 5 {} [] [1, 2, 3, 7, 8] [.slice s1.a s1.n s1.c, .slice s2.a s2.n s2.c, .pointer (some ⟨g3, 0, none⟩), .pointer (some ⟨g21, 0, none⟩), .int .i64 0] .nil (by kernel_rfl) (fun b22 => ?_)
  refine OPS.nil ?_
  refine thn_n ?_
  refine WP.seq ?_
  refine WP.region _ rfl (by kernel_rfl) ?_
  refine OPS.batch 1 {} [GConfig.val c11] [1, 2, 3, 7, 8, 33] [.slice s1.a s1.n s1.c, .slice s2.a s2.n s2.c, .pointer (some ⟨g3, 0, none⟩), .pointer (some ⟨g21, 0, none⟩), .int .i64 0, GConfig.val c11] (.cons (show Ld Try.prog w18 60 ⟨g3, 0, none⟩ (GConfig.val c11) from Ld.rowN (cs := [.int .i64 c11.N, .int .i64 c11.K, .int .i64 c11.Delta]) hp19.get1 (by kernel_rfl)) .nil) (by kernel_rfl) (fun b23 => ?_)
  refine OPS.cons (opStep.call (some 34) [GConfig.val c11] (by kernel_rfl) (q_New c11 _ hok12) ?_)
  rintro _ w26 ⟨g29, rfl, hp28⟩
  refine ⟨_, rfl, ?_⟩
  have hp27 := hp19.made hp28
  refine OPS.batch 5 {} [] [1, 2, 3, 7, 8, 9, 10] [.slice s1.a s1.n s1.c, .slice s2.a s2.n s2.c, .pointer (some ⟨g3, 0, none⟩), .pointer (some ⟨g21, 0, none⟩), .int .i64 0, .pointer (some ⟨g29, 0, none⟩), .int .i64 0] .nil (by kernel_rfl) (fun b30 => ?_)
  refine OPS.nil ?_
  refine thn_n ?_
  refine WP.seq ?_
  refine WP.region _ rfl (by kernel_rfl) ?_
  refine OPS.batch 1 {} [GConfig.val c11] [1, 2, 3, 7, 8, 9, 10, 38] [.slice s1.a s1.n s1.c, .slice s2.a s2.n s2.c, .pointer (some ⟨g3, 0, none⟩), .pointer (some ⟨g21, 0, none⟩), .int .i64 0, .pointer (some ⟨g29, 0, none⟩), .int .i64 0, GConfig.val c11] (.cons (show Ld Try.prog w26 60 ⟨g3, 0, none⟩ (GConfig.val c11) from Ld.rowN (cs := [.int .i64 c11.N, .int .i64 c11.K, .int .i64 c11.Delta]) hp27.get2 (by kernel_rfl)) .nil) (by kernel_rfl) (fun b31 => ?_)
  refine OPS.cons (opStep.call (some 39) [GConfig.val c11] (by kernel_rfl) (q_Down c11 _) ?_)
  rintro _ w34 ⟨rfl, hf35⟩
  refine ⟨_, rfl, ?_⟩
  have hp36 := hp27.step hf35
  refine OPS.batch 5 {} [] [1, 2, 3, 7, 8, 9, 10, 11, 12] [.slice s1.a s1.n s1.c, .slice s2.a s2.n s2.c, .pointer (some ⟨g3, 0, none⟩), .pointer (some ⟨g21, 0, none⟩), .int .i64 0, .pointer (some ⟨g29, 0, none⟩), .int .i64 0, .int .i64 (qDown c11), .int .i64 (qChk c11)] .nil (by kernel_rfl) (fun b37 => ?_)
  refine OPS.nil ?_
  refine thn_n ?_
  refine WP.seq ?_
  refine WP.region _ rfl (by kernel_rfl) ?_
  refine OPS.batch 1 {} [GConfig.val c11] [1, 2, 3, 7, 8, 9, 10, 11, 12, 43] [.slice s1.a s1.n s1.c, .slice s2.a s2.n s2.c, .pointer (some ⟨g3, 0, none⟩), .pointer (some ⟨g21, 0, none⟩), .int .i64 0, .pointer (some ⟨g29, 0, none⟩), .int .i64 0, .int .i64 (qDown c11), .int .i64 (qChk c11), GConfig.val c11] (.cons (show Ld Try.prog w34 60 ⟨g3, 0, none⟩ (GConfig.val c11) from Ld.rowN (cs := [.int .i64 c11.N, .int .i64 c11.K, .int .i64 c11.Delta]) hp36.get2 (by kernel_rfl)) .nil) (by kernel_rfl) (fun b38 => ?_)
  refine OPS.cons (opStep.call (some 44) [GConfig.val c11] (by kernel_rfl) (q_Size c11 _) ?_)
  rintro _ w41 ⟨rfl, hf42⟩
  refine ⟨_, rfl, ?_⟩
  have hp43 := hp36.step hf42
  refine OPS.batch 5 {} [] [1, 2, 3, 7, 8, 9, 10, 11, 12, 13] [.slice s1.a s1.n s1.c, .slice s2.a s2.n s2.c, .pointer (some ⟨g3, 0, none⟩), .pointer (some ⟨g21, 0, none⟩), .int .i64 0, .pointer (some ⟨g29, 0, none⟩), .int .i64 0, .int .i64 (qDown c11), .int .i64 (qChk c11), .int .i64 (qSize c11)] .nil (by kernel_rfl) (fun b44 => ?_)
  refine OPS.nil ?_
  refine thn_n ?_
  refine WP.seq ?_
  refine WP.cut (fun e69 w70 => ∃ (x67 : Bool), (True) ∧ Bp x67 (((¬ ((qChk c11) = 0))) ∨ (((qChk c11) = 0) ∧ ((qDown c11) < 0)) ∨ (((qChk c11) = 0) ∧ (¬ ((qDown c11) < 0)) ∧ (¬ (((qSize c11) + (qDown c11)) = c11.N))) ∨ (((qChk c11) = 0) ∧ (¬ ((qDown c11) < 0)) ∧ (((qSize c11) + (qDown c11)) = c11.N) ∧ ((2 * (qSize c11)) < (c11.N + c11.K))) ∨ (((qChk c11) = 0) ∧ (¬ ((qDown c11) < 0)) ∧ (((qSize c11) + (qDown c11)) = c11.N) ∧ (¬ ((2 * (qSize c11)) < (c11.N + c11.K))) ∧ ((c11.N + c11.K) ≤ (2 * ((qSize c11) - 1))))) ∧ List.map e69 [1, 2, 3, 7, 9, 11, 13, 89] = [.slice s1.a s1.n s1.c, .slice s2.a s2.n s2.c, .pointer (some ⟨g3, 0, none⟩), .pointer (some ⟨g21, 0, none⟩), .pointer (some ⟨g29, 0, none⟩), .int .i64 (qDown c11), .int .i64 (qSize c11), .bool x67] ∧ Hp w Non [Res.row g29 [.int .i64 c11.N, .int .i64 c11.K, .int .i64 c11.Delta, .int .u64 ((wd 0 0 : Nat) : Int), .int .u64 ((wd 0 1 : Nat) : Int), .int .u64 ((wd 0 2 : Nat) : Int), .int .u64 ((wd 0 3 : Nat) : Int)] 133, Res.row g21 [.int .i64 c11.N, .int .i64 c11.K, .int .i64 c11.Delta, .int .u64 ((wd 0 0 : Nat) : Int), .int .u64 ((wd 0 1 : Nat) : Int), .int .u64 ((wd 0 2 : Nat) : Int), .int .u64 ((wd 0 3 : Nat) : Int)] 133, Res.row g3 [.int .i64 c11.N, .int .i64 c11.K, .int .i64 c11.Delta] 60] w70) ?_ ?_
  · refine WP.region _ rfl (by kernel_rfl) ?_
    refine OPS.batch 11 { wraps := [52, 56] } [] [1, 2, 3, 7, 9, 11, 13, 57] [.slice s1.a s1.n s1.c, .slice s2.a s2.n s2.c, .pointer (some ⟨g3, 0, none⟩), .pointer (some ⟨g21, 0, none⟩), .pointer (some ⟨g29, 0, none⟩), .int .i64 (qDown c11), .int .i64 (qSize c11), .bool (decide (¬ ((qChk c11) = 0)))] .nil (by kernel_rfl) (fun b46 => ?_)
    by_cases h47 : (qChk c11) = 0
    · refine OPS.batch 0 {} [] [1, 2, 3, 7, 9, 11, 13, 57] [.slice s1.a s1.n s1.c, .slice s2.a s2.n s2.c, .pointer (some ⟨g3, 0, none⟩), .pointer (some ⟨g21, 0, none⟩), .pointer (some ⟨g29, 0, none⟩), .int .i64 (qDown c11), .int .i64 (qSize c11), .bool (decide (¬ ((qChk c11) = 0)))] .nil (by kernel_rfl) (fun b50 => ?_)
      refine OPS.re [.slice s1.a s1.n s1.c, .slice s2.a s2.n s2.c, .pointer (some ⟨g3, 0, none⟩), .pointer (some ⟨g21, 0, none⟩), .pointer (some ⟨g29, 0, none⟩), .int .i64 (qDown c11), .int .i64 (qSize c11), .bool false] (by rw [show (decide (¬ ((qChk c11) = 0))) = false from Bp.dec.ff (fun k => k h47)]) ?_
      refine OPS.batch 4 { wraps := [60] } [] [1, 2, 3, 7, 9, 11, 13, 61] [.slice s1.a s1.n s1.c, .slice s2.a s2.n s2.c, .pointer (some ⟨g3, 0, none⟩), .pointer (some ⟨g21, 0, none⟩), .pointer (some ⟨g29, 0, none⟩), .int .i64 (qDown c11), .int .i64 (qSize c11), .bool (decide ((qDown c11) < 0))] .nil (by kernel_rfl) (fun b51 => ?_)
      by_cases h52 : (qDown c11) < 0
      · refine OPS.batch 0 {} [] [1, 2, 3, 7, 9, 11, 13, 61] [.slice s1.a s1.n s1.c, .slice s2.a s2.n s2.c, .pointer (some ⟨g3, 0, none⟩), .pointer (some ⟨g21, 0, none⟩), .pointer (some ⟨g29, 0, none⟩), .int .i64 (qDown c11), .int .i64 (qSize c11), .bool (decide ((qDown c11) < 0))] .nil (by kernel_rfl) (fun b53 => ?_)
        refine OPS.re [.slice s1.a s1.n s1.c, .slice s2.a s2.n s2.c, .pointer (some ⟨g3, 0, none⟩), .pointer (some ⟨g21, 0, none⟩), .pointer (some ⟨g29, 0, none⟩), .int .i64 (qDown c11), .int .i64 (qSize c11), .bool true] (by rw [show (decide ((qDown c11) < 0)) = true from Bp.dec.tt h52]) ?_
        refine OPS.batch 28 { wraps := [68, 78, 89] } [] [1, 2, 3, 7, 9, 11, 13, 89] [.slice s1.a s1.n s1.c, .slice s2.a s2.n s2.c, .pointer (some ⟨g3, 0, none⟩), .pointer (some ⟨g21, 0, none⟩), .pointer (some ⟨g29, 0, none⟩), .int .i64 (qDown c11), .int .i64 (qSize c11), .bool true] .nil (by kernel_rfl) (fun b54 => ?_)
        refine OPS.nil ?_
        refine thn_n ?_
        exact ⟨true, trivial, Bp.of Bp.t (by first | (simp only [h47, h52, iff_false, false_iff, iff_true, true_iff, Classical.not_not, and_true, true_and, and_false, false_and, or_true, true_or, or_false, false_or, not_true_eq_false, not_false_eq_true, and_self, or_self, iff_self]; done) | (simp [h47, h52]; done) | simp_all), by kernel_rfl, hp43⟩
      · refine OPS.batch 0 {} [] [1, 2, 3, 7, 9, 11, 13, 61] [.slice s1.a s1.n s1.c, .slice s2.a s2.n s2.c, .pointer (some ⟨g3, 0, none⟩), .pointer (some ⟨g21, 0, none⟩), .pointer (some ⟨g29, 0, none⟩), .int .i64 (qDown c11), .int .i64 (qSize c11), .bool (decide ((qDown c11) < 0))] .nil (by kernel_rfl) (fun b55 => ?_)
        refine OPS.re [.slice s1.a s1.n s1.c, .slice s2.a s2.n s2.c, .pointer (some ⟨g3, 0, none⟩), .pointer (some ⟨g21, 0, none⟩), .pointer (some ⟨g29, 0, none⟩), .int .i64 (qDown c11), .int .i64 (qSize c11), .bool false] (by rw [show (decide ((qDown c11) < 0)) = false from Bp.dec.ff h52]) ?_
        refine OPS.batch 8 { wraps := [68] } [.int .i64 c11.N] [1, 2, 3, 7, 9, 11, 13, 69] [.slice s1.a s1.n s1.c, .slice s2.a s2.n s2.c, .pointer (some ⟨g3, 0, none⟩), .pointer (some ⟨g21, 0, none⟩), .pointer (some ⟨g29, 0, none⟩), .int .i64 (qDown c11), .int .i64 (qSize c11), .bool (decide (¬ (((qSize c11) + (qDown c11)) = c11.N)))] (.cons (show Rng .i64 ((qSize c11) + (qDown c11)) from Rng.i64 (by omega)) (.cons (Ld.row1 (P := Try.prog) (t := 3) (o := 0) (v := .int .i64 c11.N) hp43.get2 (by kernel_rfl)) .nil)) (by kernel_rfl) (fun b56 => ?_)
        by_cases h57 : ((qSize c11) + (qDown c11)) = c11.N
        · refine OPS.batch 0 {} [] [1, 2, 3, 7, 9, 11, 13, 69] [.slice s1.a s1.n s1.c, .slice s2.a s2.n s2.c, .pointer (some ⟨g3, 0, none⟩), .pointer (some ⟨g21, 0, none⟩), .pointer (some ⟨g29, 0, none⟩), .int .i64 (qDown c11), .int .i64 (qSize c11), .bool (decide (¬ (((qSize c11) + (qDown c11)) = c11.N)))] .nil (by kernel_rfl) (fun b60 => ?_)
          refine OPS.re [.slice s1.a s1.n s1.c, .slice s2.a s2.n s2.c, .pointer (some ⟨g3, 0, none⟩), .pointer (some ⟨g21, 0, none⟩), .pointer (some ⟨g29, 0, none⟩), .int .i64 (qDown c11), .int .i64 (qSize c11), .bool false] (by rw [show (decide (¬ (((qSize c11) + (qDown c11)) = c11.N))) = false from Bp.dec.ff (fun k => k h57)]) ?_
          refine OPS.batch 10 { wraps := [78] } [.int .i64 c11.N, .int .i64 c11.K] [1, 2, 3, 7, 9, 11, 13, 79] [.slice s1.a s1.n s1.c, .slice s2.a s2.n s2.c, .pointer (some ⟨g3, 0, none⟩), .pointer (some ⟨g21, 0, none⟩), .pointer (some ⟨g29, 0, none⟩), .int .i64 (qDown c11), .int .i64 (qSize c11), .bool (decide ((2 * (qSize c11)) < (c11.N + c11.K)))] (.cons (show Rng .i64 (2 * (qSize c11)) from Rng.i64 (by omega)) (.cons (Ld.row1 (P := Try.prog) (t := 3) (o := 0) (v := .int .i64 c11.N) hp43.get2 (by kernel_rfl)) (.cons (Ld.row1 (P := Try.prog) (t := 3) (o := 1) (v := .int .i64 c11.K) hp43.get2 (by kernel_rfl)) (.cons (show Rng .i64 (c11.N + c11.K) from Rng.i64 (by omega)) .nil)))) (by kernel_rfl) (fun b61 => ?_)
          by_cases h62 : (2 * (qSize c11)) < (c11.N + c11.K)
          · refine OPS.batch 0 {} [] [1, 2, 3, 7, 9, 11, 13, 79] [.slice s1.a s1.n s1.c, .slice s2.a s2.n s2.c, .pointer (some ⟨g3, 0, none⟩), .pointer (some ⟨g21, 0, none⟩), .pointer (some ⟨g29, 0, none⟩), .int .i64 (qDown c11), .int .i64 (qSize c11), .bool (decide ((2 * (qSize c11)) < (c11.N + c11.K)))] .nil (by kernel_rfl) (fun b63 => ?_)
            refine OPS.re [.slice s1.a s1.n s1.c, .slice s2.a s2.n s2.c, .pointer (some ⟨g3, 0, none⟩), .pointer (some ⟨g21, 0, none⟩), .pointer (some ⟨g29, 0, none⟩), .int .i64 (qDown c11), .int .i64 (qSize c11), .bool true] (by rw [show (decide ((2 * (qSize c11)) < (c11.N + c11.K))) = true from Bp.dec.tt h62]) ?_
            refine OPS.batch 10 { wraps := [89] } [] [1, 2, 3, 7, 9, 11, 13, 89] [.slice s1.a s1.n s1.c, .slice s2.a s2.n s2.c, .pointer (some ⟨g3, 0, none⟩), .pointer (some ⟨g21, 0, none⟩), .pointer (some ⟨g29, 0, none⟩), .int .i64 (qDown c11), .int .i64 (qSize c11), .bool true] .nil (by kernel_rfl) (fun b64 => ?_)
            refine OPS.nil ?_
            refine thn_n ?_
            exact ⟨true, trivial, Bp.of Bp.t (by first | (simp only [h47, h52, h57, h62, iff_false, false_iff, iff_true, true_iff, Classical.not_not, and_true, true_and, and_false, false_and, or_true, true_or, or_false, false_or, not_true_eq_false, not_false_eq_true, and_self, or_self, iff_self]; done) | (simp [h47, h52, h57, h62]; done) | simp_all), by kernel_rfl, hp43⟩
          · refine OPS.batch 0 {} [] [1, 2, 3, 7, 9, 11, 13, 79] [.slice s1.a s1.n s1.c, .slice s2.a s2.n s2.c, .pointer (some ⟨g3, 0, none⟩), .pointer (some ⟨g21, 0, none⟩), .pointer (some ⟨g29, 0, none⟩), .int .i64 (qDown c11), .int .i64 (qSize c11), .bool (decide ((2 * (qSize c11)) < (c11.N + c11.K)))] .nil (by kernel_rfl) (fun b65 => ?_)
            refine OPS.re [.slice s1.a s1.n s1.c, .slice s2.a s2.n s2.c, .pointer (some ⟨g3, 0, none⟩), .pointer (some ⟨g21, 0, none⟩), .pointer (some ⟨g29, 0, none⟩), .int .i64 (qDown c11), .int .i64 (qSize c11), .bool false] (by rw [show (decide ((2 * (qSize c11)) < (c11.N + c11.K))) = false from Bp.dec.ff h62]) ?_
            refine OPS.batch 10 { wraps := [89] } [.int .i64 c11.N, .int .i64 c11.K] [1, 2, 3, 7, 9, 11, 13, 89] [.slice s1.a s1.n s1.c, .slice s2.a s2.n s2.c, .pointer (some ⟨g3, 0, none⟩), .pointer (some ⟨g21, 0, none⟩), .pointer (some ⟨g29, 0, none⟩), .int .i64 (qDown c11), .int .i64 (qSize c11), .bool (decide ((c11.N + c11.K) ≤ (2 * ((qSize c11) - 1))))] (.cons (show Rng .i64 ((qSize c11) - 1) from Rng.i64 (by omega)) (.cons (show Rng .i64 (2 * ((qSize c11) - 1)) from Rng.i64 (by omega)) (.cons (Ld.row1 (P := Try.prog) (t := 3) (o := 0) (v := .int .i64 c11.N) hp43.get2 (by kernel_rfl)) (.cons (Ld.row1 (P := Try.prog) (t := 3) (o := 1) (v := .int .i64 c11.K) hp43.get2 (by kernel_rfl)) (.cons (show Rng .i64 (c11.N + c11.K) from Rng.i64 (by omega)) .nil))))) (by kernel_rfl) (fun b66 => ?_)
            refine OPS.nil ?_
            refine thn_n ?_
            exact ⟨decide ((c11.N + c11.K) ≤ (2 * ((qSize c11) - 1))), trivial, Bp.of Bp.dec (by first | (simp only [h47, h52, h57, h62, iff_false, false_iff, iff_true, true_iff, Classical.not_not, and_true, true_and, and_false, false_and, or_true, true_or, or_false, false_or, not_true_eq_false, not_false_eq_true, and_self, or_self, iff_self]; done) | (simp [h47, h52, h57, h62]; done) | simp_all), by kernel_rfl, hp43⟩
        · refine OPS.batch 0 {} [] [1, 2, 3, 7, 9, 11, 13, 69] [.slice s1.a s1.n s1.c, .slice s2.a s2.n s2.c, .pointer (some ⟨g3, 0, none⟩), .pointer (some ⟨g21, 0, none⟩), .pointer (some ⟨g29, 0, none⟩), .int .i64 (qDown c11), .int .i64 (qSize c11), .bool (decide (¬ (((qSize c11) + (qDown c11)) = c11.N)))] .nil (by kernel_rfl) (fun b58 => ?_)
          refine OPS.re [.slice s1.a s1.n s1.c, .slice s2.a s2.n s2.c, .pointer (some ⟨g3, 0, none⟩), .pointer (some ⟨g21, 0, none⟩), .pointer (some ⟨g29, 0, none⟩), .int .i64 (qDown c11), .int .i64 (qSize c11), .bool true] (by rw [show (decide (¬ (((qSize c11) + (qDown c11)) = c11.N))) = true from Bp.dec.tt h57]) ?_
          refine OPS.batch 20 { wraps := [78, 89] } [] [1, 2, 3, 7, 9, 11, 13, 89] [.slice s1.a s1.n s1.c, .slice s2.a s2.n s2.c, .pointer (some ⟨g3, 0, none⟩), .pointer (some ⟨g21, 0, none⟩), .pointer (some ⟨g29, 0, none⟩), .int .i64 (qDown c11), .int .i64 (qSize c11), .bool true] .nil (by kernel_rfl) (fun b59 => ?_)
          refine OPS.nil ?_
          refine thn_n ?_
          exact ⟨true, trivial, Bp.of Bp.t (by first | (simp only [h47, h52, h57, iff_false, false_iff, iff_true, true_iff, Classical.not_not, and_true, true_and, and_false, false_and, or_true, true_or, or_false, false_or, not_true_eq_false, not_false_eq_true, and_self, or_self, iff_self]; done) | (simp [h47, h52, h57]; done) | simp_all), by kernel_rfl, hp43⟩
    · refine OPS.batch 0 {} [] [1, 2, 3, 7, 9, 11, 13, 57] [.slice s1.a s1.n s1.c, .slice s2.a s2.n s2.c, .pointer (some ⟨g3, 0, none⟩), .pointer (some ⟨g21, 0, none⟩), .pointer (some ⟨g29, 0, none⟩), .int .i64 (qDown c11), .int .i64 (qSize c11), .bool (decide (¬ ((qChk c11) = 0)))] .nil (by kernel_rfl) (fun b48 => ?_)
      refine OPS.re [.slice s1.a s1.n s1.c, .slice s2.a s2.n s2.c, .pointer (some ⟨g3, 0, none⟩), .pointer (some ⟨g21, 0, none⟩), .pointer (some ⟨g29, 0, none⟩), .int .i64 (qDown c11), .int .i64 (qSize c11), .bool true] (by rw [show (decide (¬ ((qChk c11) = 0))) = true from Bp.dec.tt h47]) ?_
      refine OPS.batch 32 { wraps := [60, 68, 78, 89] } [] [1, 2, 3, 7, 9, 11, 13, 89] [.slice s1.a s1.n s1.c, .slice s2.a s2.n s2.c, .pointer (some ⟨g3, 0, none⟩), .pointer (some ⟨g21, 0, none⟩), .pointer (some ⟨g29, 0, none⟩), .int .i64 (qDown c11), .int .i64 (qSize c11), .bool true] .nil (by kernel_rfl) (fun b49 => ?_)
      refine OPS.nil ?_
      refine thn_n ?_
      exact ⟨true, trivial, Bp.of Bp.t (by first | (simp only [h47, iff_false, false_iff, iff_true, true_iff, Classical.not_not, and_true, true_and, and_false, false_and, or_true, true_or, or_false, false_or, not_true_eq_false, not_false_eq_true, and_self, or_self, iff_self]; done) | (simp [h47]; done) | simp_all), by kernel_rfl, hp43⟩
  rintro e69 w70 ⟨x67, hd72, hb68, hE73, hp71⟩
  obtain ⟨b74, rfl⟩ := toMk hE73
  clear hE73
  clear hd72
  refine WP.test (p := ((¬ ((qChk c11) = 0))) ∨ (((qChk c11) = 0) ∧ ((qDown c11) < 0)) ∨ (((qChk c11) = 0) ∧ (¬ ((qDown c11) < 0)) ∧ (¬ (((qSize c11) + (qDown c11)) = c11.N))) ∨ (((qChk c11) = 0) ∧ (¬ ((qDown c11) < 0)) ∧ (((qSize c11) + (qDown c11)) = c11.N) ∧ ((2 * (qSize c11)) < (c11.N + c11.K))) ∨ (((qChk c11) = 0) ∧ (¬ ((qDown c11) < 0)) ∧ (((qSize c11) + (qDown c11)) = c11.N) ∧ (¬ ((2 * (qSize c11)) < (c11.N + c11.K))) ∧ ((c11.N + c11.K) ≤ (2 * ((qSize c11) - 1))))) rfl hb68 (fun h75 => ?_) (fun h75 => ?_)
  · refine WP.seq ?_
    refine WP.pure {} [] [6] [.bool false] .nil (by kernel_rfl) (fun b76 => ?_)
    refine thn_n ?_
    refine WP.ret ?_
    refine thn_r ?_
    refine bodyQ.of _ rfl [.bool false] ⟨rfl, trivial⟩ ?_
    exfalso
    omega
  · refine WP.skip ?_
    refine thn_n ?_
    refine WP.seq ?_
    refine WP.seq ?_
    refine WP.pure {} [] [1, 2, 3, 7, 9, 11, 13, 90, 91, 92] [.slice s1.a s1.n s1.c, .slice s2.a s2.n s2.c, .pointer (some ⟨g3, 0, none⟩), .pointer (some ⟨g21, 0, none⟩), .pointer (some ⟨g29, 0, none⟩), .int .i64 (qDown c11), .int .i64 (qSize c11), .slice s1.a s1.n s1.c, .int .i64 ((s1.n : Nat) : Int), .int .i64 0] .nil (by kernel_rfl) (fun b77 => ?_)
    refine thn_n ?_
    refine WP.block ?_
    refine WP.loop (fun mz_ e78 w79 => ∃ (k : Nat) (m1 : Nat), mz_ = l1.length - k ∧ (k ≤ l1.length ∧ m1 = addL c11 (l1.take k)) ∧ List.map e78 [1, 2, 3, 7, 9, 11, 13, 90, 91, 92] = [.slice s1.a s1.n s1.c, .slice s2.a s2.n s2.c, .pointer (some ⟨g3, 0, none⟩), .pointer (some ⟨g21, 0, none⟩), .pointer (some ⟨g29, 0, none⟩), .int .i64 (qDown c11), .int .i64 (qSize c11), .slice s1.a s1.n s1.c, .int .i64 ((s1.n : Nat) : Int), .int .i64 (k : Int)] ∧ Hp w Non [Res.row g29 [.int .i64 c11.N, .int .i64 c11.K, .int .i64 c11.Delta, .int .u64 ((wd 0 0 : Nat) : Int), .int .u64 ((wd 0 1 : Nat) : Int), .int .u64 ((wd 0 2 : Nat) : Int), .int .u64 ((wd 0 3 : Nat) : Int)] 133, Res.row g21 [.int .i64 c11.N, .int .i64 c11.K, .int .i64 c11.Delta, .int .u64 ((wd m1 0 : Nat) : Int), .int .u64 ((wd m1 1 : Nat) : Int), .int .u64 ((wd m1 2 : Nat) : Int), .int .u64 ((wd m1 3 : Nat) : Int)] 133, Res.row g3 [.int .i64 c11.N, .int .i64 c11.K, .int .i64 c11.Delta] 60] w79) (l1.length - (0)) ⟨0, 0, rfl, ⟨by omega, rfl⟩, by kernel_rfl, hp71⟩ ?_
    rintro _ e78 w79 ⟨k, m1, rfl, hI81, hE82, hp80⟩
    obtain ⟨b83, rfl⟩ := toMk hE82
    clear hE82
    obtain ⟨pa, pb⟩ := hI81
    refine WP.seq ?_
    refine WP.pure {} [] [1, 2, 3, 7, 9, 11, 13, 90, 91, 92, 93] [.slice s1.a s1.n s1.c, .slice s2.a s2.n s2.c, .pointer (some ⟨g3, 0, none⟩), .pointer (some ⟨g21, 0, none⟩), .pointer (some ⟨g29, 0, none⟩), .int .i64 (qDown c11), .int .i64 (qSize c11), .slice s1.a s1.n s1.c, .int .i64 ((s1.n : Nat) : Int), .int .i64 (k : Int), .bool (decide ((k : Int) < ((s1.n : Nat) : Int)))] .nil (by kernel_rfl) (fun b84 => ?_)
    refine thn_n ?_
    refine WP.seq ?_
    refine WP.test (p := (k : Int) < ((s1.n : Nat) : Int)) rfl Bp.dec (fun h85 => ?_) (fun h85 => ?_)
    · refine WP.skip ?_
      refine thn_n ?_
      refine WP.seq ?_
      refine WP.block ?_
      refine WP.seq ?_
      have hy87 : (l1)[k]? = some l1[k]! := get_bang (by first | (omega) | (simp only [List.length_append, List.length_cons, List.length_nil]; omega))
      refine WP.pure {} [.int .i64 (l1[k]!)] [1, 2, 3, 7, 9, 11, 13, 16, 90, 91, 92] [.slice s1.a s1.n s1.c, .slice s2.a s2.n s2.c, .pointer (some ⟨g3, 0, none⟩), .pointer (some ⟨g21, 0, none⟩), .pointer (some ⟨g29, 0, none⟩), .int .i64 (qDown c11), .int .i64 (qSize c11), .int .i64 (l1[k]!), .slice s1.a s1.n s1.c, .int .i64 ((s1.n : Nat) : Int), .int .i64 (k : Int)] (.cons (show InB ((k : Int)) (s1.n) from ⟨by omega, by omega⟩) (.cons ((o1.rd.at hp80).some (by omega)) (.cons (Ld.add0 (Ld.el1 (P := Try.prog) (t := 3) (o1.rd.at hp80).rd 1 (fun _ => rfl) hy87 (o := 0) (v := .int .i64 (l1[k]!)) (by kernel_rfl))) .nil))) (by kernel_rfl) (fun b88 => ?_)
      refine thn_n ?_
      refine WP.region _ rfl (by kernel_rfl) ?_
      refine OPS.batch 2 {} [] [1, 2, 3, 7, 9, 11, 13, 90, 91, 92, 96, 97] [.slice s1.a s1.n s1.c, .slice s2.a s2.n s2.c, .pointer (some ⟨g3, 0, none⟩), .pointer (some ⟨g21, 0, none⟩), .pointer (some ⟨g29, 0, none⟩), .int .i64 (qDown c11), .int .i64 (qSize c11), .slice s1.a s1.n s1.c, .int .i64 ((s1.n : Nat) : Int), .int .i64 (k : Int), .pointer (some ⟨g21, 0, none⟩), .int .i64 (l1[k]!)] .nil (by kernel_rfl) (fun b89 => ?_)
      have hp92 := hp80.pull1
      refine OPS.cons (opStep.call (some 98) [.pointer (some ⟨g21, 0, none⟩), .int .i64 (l1[k]!)] (by kernel_rfl) (q_Add _ _ _ c11 m1 _ hok12 (l1[k]!) hp92) ?_)
      rintro _ w93 ⟨b96, rfl, hq95, hp94⟩
      refine ⟨_, rfl, ?_⟩
      refine OPS.nil ?_
      refine blk_n ?_
      refine thn_n ?_
      refine WP.pure {} [] [1, 2, 3, 7, 9, 11, 13, 90, 91, 92] [.slice s1.a s1.n s1.c, .slice s2.a s2.n s2.c, .pointer (some ⟨g3, 0, none⟩), .pointer (some ⟨g21, 0, none⟩), .pointer (some ⟨g29, 0, none⟩), .int .i64 (qDown c11), .int .i64 (qSize c11), .slice s1.a s1.n s1.c, .int .i64 ((s1.n : Nat) : Int), .int .i64 ((k : Int) + 1)] (.cons (show Rng .i64 ((k : Int) + 1) from Rng.i64 (by omega)) .nil) (by kernel_rfl) (fun b97 => ?_)
      refine thn_n ?_
      exact ⟨l1.length - (k + 1), (by omega), k + 1, (qAdd c11 m1 (l1[k]!)), rfl, ⟨by omega, addL_step pb hy87⟩, by kernel_rfl, ((((hp94.pull2).pull1).pull2).sub (.cons_cons _ (.cons_cons _ (.cons_cons _ (.slnil)))))⟩
    · refine WP.exit ?_
      refine thn_x ?_
      refine thn_x ?_
      refine blk_hit ?_
      refine thn_n ?_
      refine WP.seq ?_
      refine WP.seq ?_
      refine WP.pure {} [] [1, 2, 3, 7, 9, 11, 13, 101, 102] [.slice s1.a s1.n s1.c, .slice s2.a s2.n s2.c, .pointer (some ⟨g3, 0, none⟩), .pointer (some ⟨g21, 0, none⟩), .pointer (some ⟨g29, 0, none⟩), .int .i64 (qDown c11), .int .i64 (qSize c11), .int .i64 ((s1.n : Nat) : Int), .int .i64 0] .nil (by kernel_rfl) (fun b98 => ?_)
      refine thn_n ?_
      refine WP.block ?_
      refine WP.loop (fun mz_ e99 w100 => ∃ (j : Nat) (m2 : Nat), mz_ = l1.length - j ∧ (j ≤ l1.length ∧ m2 = addL c11 (l1.reverse.take j)) ∧ List.map e99 [1, 2, 3, 7, 9, 11, 13, 101, 102] = [.slice s1.a s1.n s1.c, .slice s2.a s2.n s2.c, .pointer (some ⟨g3, 0, none⟩), .pointer (some ⟨g21, 0, none⟩), .pointer (some ⟨g29, 0, none⟩), .int .i64 (qDown c11), .int .i64 (qSize c11), .int .i64 ((s1.n : Nat) : Int), .int .i64 (j : Int)] ∧ Hp w Non [Res.row g29 [.int .i64 c11.N, .int .i64 c11.K, .int .i64 c11.Delta, .int .u64 ((wd m2 0 : Nat) : Int), .int .u64 ((wd m2 1 : Nat) : Int), .int .u64 ((wd m2 2 : Nat) : Int), .int .u64 ((wd m2 3 : Nat) : Int)] 133, Res.row g21 [.int .i64 c11.N, .int .i64 c11.K, .int .i64 c11.Delta, .int .u64 ((wd m1 0 : Nat) : Int), .int .u64 ((wd m1 1 : Nat) : Int), .int .u64 ((wd m1 2 : Nat) : Int), .int .u64 ((wd m1 3 : Nat) : Int)] 133, Res.row g3 [.int .i64 c11.N, .int .i64 c11.K, .int .i64 c11.Delta] 60] w100) (l1.length - (0)) ⟨0, 0, rfl, ⟨by omega, rfl⟩, by kernel_rfl, hp80⟩ ?_
      rintro _ e99 w100 ⟨j, m2, rfl, hI102, hE103, hp101⟩
      obtain ⟨b104, rfl⟩ := toMk hE103
      clear hE103
      obtain ⟨pc, pd⟩ := hI102
      refine WP.seq ?_
      refine WP.pure {} [] [1, 2, 3, 7, 9, 11, 13, 101, 102, 103] [.slice s1.a s1.n s1.c, .slice s2.a s2.n s2.c, .pointer (some ⟨g3, 0, none⟩), .pointer (some ⟨g21, 0, none⟩), .pointer (some ⟨g29, 0, none⟩), .int .i64 (qDown c11), .int .i64 (qSize c11), .int .i64 ((s1.n : Nat) : Int), .int .i64 (j : Int), .bool (decide ((j : Int) < ((s1.n : Nat) : Int)))] .nil (by kernel_rfl) (fun b105 => ?_)
      refine thn_n ?_
      refine WP.seq ?_
      refine WP.test (p := (j : Int) < ((s1.n : Nat) : Int)) rfl Bp.dec (fun h106 => ?_) (fun h106 => ?_)
      · refine WP.skip ?_
        refine thn_n ?_
        refine WP.seq ?_
        refine WP.block ?_
        refine WP.seq ?_
        refine WP.pure {} [] [1, 2, 3, 7, 9, 11, 13, 17, 101, 102] [.slice s1.a s1.n s1.c, .slice s2.a s2.n s2.c, .pointer (some ⟨g3, 0, none⟩), .pointer (some ⟨g21, 0, none⟩), .pointer (some ⟨g29, 0, none⟩), .int .i64 (qDown c11), .int .i64 (qSize c11), .int .i64 (j : Int), .int .i64 ((s1.n : Nat) : Int), .int .i64 (j : Int)] .nil (by kernel_rfl) (fun b107 => ?_)
        refine thn_n ?_
        refine WP.region _ rfl (by kernel_rfl) ?_
        have hy111 : (l1)[((((s1.n : Nat) : Int) - 1) - (j : Int) : Int).toNat]? = some l1[((((s1.n : Nat) : Int) - 1) - (j : Int) : Int).toNat]! := get_bang (by first | (omega) | (simp only [List.length_append, List.length_cons, List.length_nil]; omega))
        refine OPS.batch 9 {} [.int .i64 (l1[((((s1.n : Nat) : Int) - 1) - (j : Int) : Int).toNat]!)] [1, 2, 3, 7, 9, 11, 13, 101, 102, 105, 113] [.slice s1.a s1.n s1.c, .slice s2.a s2.n s2.c, .pointer (some ⟨g3, 0, none⟩), .pointer (some ⟨g21, 0, none⟩), .pointer (some ⟨g29, 0, none⟩), .int .i64 (qDown c11), .int .i64 (qSize c11), .int .i64 ((s1.n : Nat) : Int), .int .i64 (j : Int), .pointer (some ⟨g29, 0, none⟩), .int .i64 (l1[((((s1.n : Nat) : Int) - 1) - (j : Int) : Int).toNat]!)] (.cons (show Rng .i64 (((s1.n : Nat) : Int) - 1) from Rng.i64 (by omega)) (.cons (show Rng .i64 ((((s1.n : Nat) : Int) - 1) - (j : Int)) from Rng.i64 (by omega)) (.cons (show InB ((((s1.n : Nat) : Int) - 1) - (j : Int)) (s1.n) from ⟨by omega, by omega⟩) (.cons ((o1.rd.at hp101).some (by omega)) (.cons (Ld.add0 (Ld.el1 (P := Try.prog) (t := 3) (o1.rd.at hp101).rd 1 (fun _ => rfl) hy111 (o := 0) (v := .int .i64 (l1[((((s1.n : Nat) : Int) - 1) - (j : Int) : Int).toNat]!)) (by kernel_rfl))) .nil))))) (by kernel_rfl) (fun b112 => ?_)
        have hp115 := hp101.pull0
        refine OPS.cons (opStep.call (some 114) [.pointer (some ⟨g29, 0, none⟩), .int .i64 (l1[((((s1.n : Nat) : Int) - 1) - (j : Int) : Int).toNat]!)] (by kernel_rfl) (q_Add _ _ _ c11 m2 _ hok12 (l1[((((s1.n : Nat) : Int) - 1) - (j : Int) : Int).toNat]!) hp115) ?_)
        rintro _ w116 ⟨b119, rfl, hq118, hp117⟩
        refine ⟨_, rfl, ?_⟩
        refine OPS.nil ?_
        refine blk_n ?_
        refine thn_n ?_
        refine WP.pure {} [] [1, 2, 3, 7, 9, 11, 13, 101, 102] [.slice s1.a s1.n s1.c, .slice s2.a s2.n s2.c, .pointer (some ⟨g3, 0, none⟩), .pointer (some ⟨g21, 0, none⟩), .pointer (some ⟨g29, 0, none⟩), .int .i64 (qDown c11), .int .i64 (qSize c11), .int .i64 ((s1.n : Nat) : Int), .int .i64 ((j : Int) + 1)] (.cons (show Rng .i64 ((j : Int) + 1) from Rng.i64 (by omega)) .nil) (by kernel_rfl) (fun b120 => ?_)
        refine thn_n ?_
        exact ⟨l1.length - (j + 1), (by omega), j + 1, (qAdd c11 m2 (l1[((((s1.n : Nat) : Int) - 1) - (j : Int) : Int).toNat]!)), rfl, ⟨by omega, addL_step pd (by rw [List.getElem?_reverse (by omega)]; rw [← hy111]; congr 1; omega)⟩, by kernel_rfl, hp117⟩
      · refine WP.exit ?_
        refine thn_x ?_
        refine thn_x ?_
        refine blk_hit ?_
        refine thn_n ?_
        refine WP.seq ?_
        refine WP.seq ?_
        refine WP.pure {} [] [3, 7, 9, 11, 13, 116, 117, 118] [.pointer (some ⟨g3, 0, none⟩), .pointer (some ⟨g21, 0, none⟩), .pointer (some ⟨g29, 0, none⟩), .int .i64 (qDown c11), .int .i64 (qSize c11), .slice s2.a s2.n s2.c, .int .i64 ((s2.n : Nat) : Int), .int .i64 0] .nil (by kernel_rfl) (fun b121 => ?_)
        refine thn_n ?_
        refine WP.block ?_
        refine WP.loop (fun mz_ e122 w123 => ∃ (i : Nat) (m3 : Nat), mz_ = l2.length - i ∧ (i ≤ l2.length ∧ m3 = m1) ∧ List.map e122 [3, 7, 9, 11, 13, 116, 117, 118] = [.pointer (some ⟨g3, 0, none⟩), .pointer (some ⟨g21, 0, none⟩), .pointer (some ⟨g29, 0, none⟩), .int .i64 (qDown c11), .int .i64 (qSize c11), .slice s2.a s2.n s2.c, .int .i64 ((s2.n : Nat) : Int), .int .i64 (i : Int)] ∧ Hp w Non [Res.row g29 [.int .i64 c11.N, .int .i64 c11.K, .int .i64 c11.Delta, .int .u64 ((wd m3 0 : Nat) : Int), .int .u64 ((wd m3 1 : Nat) : Int), .int .u64 ((wd m3 2 : Nat) : Int), .int .u64 ((wd m3 3 : Nat) : Int)] 133, Res.row g21 [.int .i64 c11.N, .int .i64 c11.K, .int .i64 c11.Delta, .int .u64 ((wd m1 0 : Nat) : Int), .int .u64 ((wd m1 1 : Nat) : Int), .int .u64 ((wd m1 2 : Nat) : Int), .int .u64 ((wd m1 3 : Nat) : Int)] 133, Res.row g3 [.int .i64 c11.N, .int .i64 c11.K, .int .i64 c11.Delta] 60] w123) (l2.length - (0)) ⟨0, m2, rfl, ⟨by omega, by rw [pd, pb, List.take_of_length_le (by rw [List.length_reverse]; omega), addL_rev, List.take_of_length_le (by omega)]⟩, by kernel_rfl, hp101⟩ ?_
        rintro _ e122 w123 ⟨i, m3, rfl, hI125, hE126, hp124⟩
        obtain ⟨b127, rfl⟩ := toMk hE126
        clear hE126
        obtain ⟨pe, pf⟩ := hI125
        refine WP.seq ?_
        refine WP.pure {} [] [3, 7, 9, 11, 13, 116, 117, 118, 119] [.pointer (some ⟨g3, 0, none⟩), .pointer (some ⟨g21, 0, none⟩), .pointer (some ⟨g29, 0, none⟩), .int .i64 (qDown c11), .int .i64 (qSize c11), .slice s2.a s2.n s2.c, .int .i64 ((s2.n : Nat) : Int), .int .i64 (i : Int), .bool (decide ((i : Int) < ((s2.n : Nat) : Int)))] .nil (by kernel_rfl) (fun b128 => ?_)
        refine thn_n ?_
        refine WP.seq ?_
        refine WP.test (p := (i : Int) < ((s2.n : Nat) : Int)) rfl Bp.dec (fun h129 => ?_) (fun h129 => ?_)
        · refine WP.skip ?_
          refine thn_n ?_
          refine WP.seq ?_
          refine WP.block ?_
          refine WP.seq ?_
          have hy131 : (l2)[i]? = some l2[i]! := get_bang (by first | (omega) | (simp only [List.length_append, List.length_cons, List.length_nil]; omega))
          refine WP.pure {} [.int .i64 (l2[i]!)] [3, 7, 9, 11, 13, 19, 116, 117, 118] [.pointer (some ⟨g3, 0, none⟩), .pointer (some ⟨g21, 0, none⟩), .pointer (some ⟨g29, 0, none⟩), .int .i64 (qDown c11), .int .i64 (qSize c11), .int .i64 (l2[i]!), .slice s2.a s2.n s2.c, .int .i64 ((s2.n : Nat) : Int), .int .i64 (i : Int)] (.cons (show InB ((i : Int)) (s2.n) from ⟨by omega, by omega⟩) (.cons ((o2.rd.at hp124).some (by omega)) (.cons (Ld.add0 (Ld.el1 (P := Try.prog) (t := 3) (o2.rd.at hp124).rd 1 (fun _ => rfl) hy131 (o := 0) (v := .int .i64 (l2[i]!)) (by kernel_rfl))) .nil))) (by kernel_rfl) (fun b132 => ?_)
          refine thn_n ?_
          refine WP.seq ?_
          refine WP.region _ rfl (by kernel_rfl) ?_
          refine OPS.batch 2 {} [] [3, 7, 9, 11, 13, 19, 116, 117, 118, 122, 123] [.pointer (some ⟨g3, 0, none⟩), .pointer (some ⟨g21, 0, none⟩), .pointer (some ⟨g29, 0, none⟩), .int .i64 (qDown c11), .int .i64 (qSize c11), .int .i64 (l2[i]!), .slice s2.a s2.n s2.c, .int .i64 ((s2.n : Nat) : Int), .int .i64 (i : Int), .pointer (some ⟨g21, 0, none⟩), .int .i64 (l2[i]!)] .nil (by kernel_rfl) (fun b133 => ?_)
          have hp136 := hp124.pull1
          refine OPS.cons (opStep.call (some 124) [.pointer (some ⟨g21, 0, none⟩), .int .i64 (l2[i]!)] (by kernel_rfl) (q_Has _ _ _ c11 m1 _ hok12 (l2[i]!) hp136) ?_)
          rintro _ w137 ⟨b140, rfl, hq139, hp138⟩
          refine ⟨_, rfl, ?_⟩
          refine OPS.nil ?_
          refine thn_n ?_
          refine WP.test (p := inN c11 (l2[i]!) ∧ m1.testBit (l2[i]!).toNat = true) rfl hq139 (fun h141 => ?_) (fun h141 => ?_)
          · refine WP.region _ rfl (by kernel_rfl) ?_
            refine OPS.batch 2 {} [] [3, 7, 9, 11, 13, 116, 117, 118, 125, 126] [.pointer (some ⟨g3, 0, none⟩), .pointer (some ⟨g21, 0, none⟩), .pointer (some ⟨g29, 0, none⟩), .int .i64 (qDown c11), .int .i64 (qSize c11), .slice s2.a s2.n s2.c, .int .i64 ((s2.n : Nat) : Int), .int .i64 (i : Int), .pointer (some ⟨g29, 0, none⟩), .int .i64 (l2[i]!)] .nil (by kernel_rfl) (fun b142 => ?_)
            have hp145 := hp138.pull1
            refine OPS.cons (opStep.call (some 127) [.pointer (some ⟨g29, 0, none⟩), .int .i64 (l2[i]!)] (by kernel_rfl) (q_Add _ _ _ c11 m3 _ hok12 (l2[i]!) hp145) ?_)
            rintro _ w146 ⟨b149, rfl, hq148, hp147⟩
            refine ⟨_, rfl, ?_⟩
            refine OPS.nil ?_
            refine blk_n ?_
            refine thn_n ?_
            refine WP.pure {} [] [3, 7, 9, 11, 13, 116, 117, 118] [.pointer (some ⟨g3, 0, none⟩), .pointer (some ⟨g21, 0, none⟩), .pointer (some ⟨g29, 0, none⟩), .int .i64 (qDown c11), .int .i64 (qSize c11), .slice s2.a s2.n s2.c, .int .i64 ((s2.n : Nat) : Int), .int .i64 ((i : Int) + 1)] (.cons (show Rng .i64 ((i : Int) + 1) from Rng.i64 (by omega)) .nil) (by kernel_rfl) (fun b150 => ?_)
            refine thn_n ?_
            exact ⟨l2.length - (i + 1), (by omega), i + 1, (qAdd c11 m3 (l2[i]!)), rfl, ⟨by omega, by rw [pf]; exact qAdd_same h141.1 h141.2⟩, by kernel_rfl, hp147⟩
          · refine WP.skip ?_
            refine blk_n ?_
            refine thn_n ?_
            refine WP.pure {} [] [3, 7, 9, 11, 13, 116, 117, 118] [.pointer (some ⟨g3, 0, none⟩), .pointer (some ⟨g21, 0, none⟩), .pointer (some ⟨g29, 0, none⟩), .int .i64 (qDown c11), .int .i64 (qSize c11), .slice s2.a s2.n s2.c, .int .i64 ((s2.n : Nat) : Int), .int .i64 ((i : Int) + 1)] (.cons (show Rng .i64 ((i : Int) + 1) from Rng.i64 (by omega)) .nil) (by kernel_rfl) (fun b151 => ?_)
            refine thn_n ?_
            exact ⟨l2.length - (i + 1), (by omega), i + 1, m3, rfl, ⟨by omega, pf⟩, by kernel_rfl, ((((hp138.pull2).pull1).pull2).sub (.cons_cons _ (.cons_cons _ (.cons_cons _ (.slnil)))))⟩
        · refine WP.exit ?_
          refine thn_x ?_
          refine thn_x ?_
          refine blk_hit ?_
          refine thn_n ?_
          refine WP.seq ?_
          refine WP.region _ rfl (by kernel_rfl) ?_
          refine OPS.batch 1 {} [] [3, 7, 9, 11, 13, 129] [.pointer (some ⟨g3, 0, none⟩), .pointer (some ⟨g21, 0, none⟩), .pointer (some ⟨g29, 0, none⟩), .int .i64 (qDown c11), .int .i64 (qSize c11), .pointer (some ⟨g21, 0, none⟩)] .nil (by kernel_rfl) (fun b152 => ?_)
          have hp155 := hp124.pull1
          refine OPS.cons (opStep.call (some 130) [.pointer (some ⟨g21, 0, none⟩)] (by kernel_rfl) (q_List _ _ _ c11 m1 _ hok12  hp155) ?_)
          rintro _ w156 ⟨ao158, co159, rfl, hp157⟩
          refine ⟨_, rfl, ?_⟩
          have := sel_le m1 true (c11.N).toNat
          refine OPS.batch 1 {} [] [3, 7, 9, 11, 13, 20] [.pointer (some ⟨g3, 0, none⟩), .pointer (some ⟨g21, 0, none⟩), .pointer (some ⟨g29, 0, none⟩), .int .i64 (qDown c11), .int .i64 (qSize c11), .slice ao158 ((sel m1 true (c11.N).toNat).length) co159] .nil (by kernel_rfl) (fun b160 => ?_)
          refine OPS.nil ?_
          refine thn_n ?_
          refine WP.seq ?_
          refine WP.region _ rfl (by kernel_rfl) ?_
          refine OPS.batch 1 {} [] [3, 7, 9, 11, 13, 20, 131] [.pointer (some ⟨g3, 0, none⟩), .pointer (some ⟨g21, 0, none⟩), .pointer (some ⟨g29, 0, none⟩), .int .i64 (qDown c11), .int .i64 (qSize c11), .slice ao158 ((sel m1 true (c11.N).toNat).length) co159, .pointer (some ⟨g21, 0, none⟩)] .nil (by kernel_rfl) (fun b161 => ?_)
          have hp164 := hp157.pull1
          refine OPS.cons (opStep.call (some 132) [.pointer (some ⟨g21, 0, none⟩)] (by kernel_rfl) (q_Rest _ _ _ c11 m1 _ hok12  hp164) ?_)
          rintro _ w165 ⟨ao167, co168, rfl, hp166⟩
          refine ⟨_, rfl, ?_⟩
          have := sel_le m1 false (c11.N).toNat
          refine OPS.batch 1 {} [] [3, 7, 9, 11, 13, 20, 21] [.pointer (some ⟨g3, 0, none⟩), .pointer (some ⟨g21, 0, none⟩), .pointer (some ⟨g29, 0, none⟩), .int .i64 (qDown c11), .int .i64 (qSize c11), .slice ao158 ((sel m1 true (c11.N).toNat).length) co159, .slice ao167 ((sel m1 false (c11.N).toNat).length) co168] .nil (by kernel_rfl) (fun b169 => ?_)
          refine OPS.nil ?_
          refine thn_n ?_
          refine WP.seq ?_
          refine WP.cut (fun e232 w233 => ∃ (x230 : Bool), (True) ∧ Bp x230 (((¬ (ints (sel m1 true (c11.N).toNat) = ints (sel m3 true (c11.N).toNat)))) ∨ ((ints (sel m1 true (c11.N).toNat) = ints (sel m3 true (c11.N).toNat)) ∧ (¬ (((qSize c11 ≤ ((cntB m1 256 : Nat) : Int)) ↔ ((((sel m1 false (c11.N).toNat).length : Nat) : Int) ≤ (qDown c11)))))) ∨ ((ints (sel m1 true (c11.N).toNat) = ints (sel m3 true (c11.N).toNat)) ∧ ((qSize c11 ≤ ((cntB m1 256 : Nat) : Int)) ↔ ((((sel m1 false (c11.N).toNat).length : Nat) : Int) ≤ (qDown c11))) ∧ (¬ (((qSize c11 ≤ ((cntB m1 256 : Nat) : Int)) ↔ ((qSize c11) ≤ (((sel m1 true (c11.N).toNat).length : Nat) : Int)))))) ∨ ((ints (sel m1 true (c11.N).toNat) = ints (sel m3 true (c11.N).toNat)) ∧ ((qSize c11 ≤ ((cntB m1 256 : Nat) : Int)) ↔ ((((sel m1 false (c11.N).toNat).length : Nat) : Int) ≤ (qDown c11))) ∧ ((qSize c11 ≤ ((cntB m1 256 : Nat) : Int)) ↔ ((qSize c11) ≤ (((sel m1 true (c11.N).toNat).length : Nat) : Int))) ∧ (¬ (((((sel m1 true (c11.N).toNat).length : Nat) : Int) + (((sel m1 false (c11.N).toNat).length : Nat) : Int)) = c11.N))) ∨ ((ints (sel m1 true (c11.N).toNat) = ints (sel m3 true (c11.N).toNat)) ∧ ((qSize c11 ≤ ((cntB m1 256 : Nat) : Int)) ↔ ((((sel m1 false (c11.N).toNat).length : Nat) : Int) ≤ (qDown c11))) ∧ ((qSize c11 ≤ ((cntB m1 256 : Nat) : Int)) ↔ ((qSize c11) ≤ (((sel m1 true (c11.N).toNat).length : Nat) : Int))) ∧ (((((sel m1 true (c11.N).toNat).length : Nat) : Int) + (((sel m1 false (c11.N).toNat).length : Nat) : Int)) = c11.N) ∧ (¬ (((cntB m1 256 : Nat) : Int) = (((sel m1 true (c11.N).toNat).length : Nat) : Int))))) ∧ List.map e232 [3, 20, 21, 172] = [.pointer (some ⟨g3, 0, none⟩), .slice ao158 ((sel m1 true (c11.N).toNat).length) co159, .slice ao167 ((sel m1 false (c11.N).toNat).length) co168, .bool x230] ∧ Hp w Non [Res.row g29 [.int .i64 c11.N, .int .i64 c11.K, .int .i64 c11.Delta, .int .u64 ((wd m3 0 : Nat) : Int), .int .u64 ((wd m3 1 : Nat) : Int), .int .u64 ((wd m3 2 : Nat) : Int), .int .u64 ((wd m3 3 : Nat) : Int)] 133, Res.own 3 1 (.slice ao167 ((sel m1 false (c11.N).toNat).length) co168) ((sel m1 false (c11.N).toNat).length) (List.flatMap (fun (y : Nat) => [Go.Value.int .i64 (y : Int)]) (sel m1 false (c11.N).toNat)), Res.row g21 [.int .i64 c11.N, .int .i64 c11.K, .int .i64 c11.Delta, .int .u64 ((wd m1 0 : Nat) : Int), .int .u64 ((wd m1 1 : Nat) : Int), .int .u64 ((wd m1 2 : Nat) : Int), .int .u64 ((wd m1 3 : Nat) : Int)] 133, Res.own 3 1 (.slice ao158 ((sel m1 true (c11.N).toNat).length) co159) ((sel m1 true (c11.N).toNat).length) (List.flatMap (fun (y : Nat) => [Go.Value.int .i64 (y : Int)]) (sel m1 true (c11.N).toNat)), Res.row g3 [.int .i64 c11.N, .int .i64 c11.K, .int .i64 c11.Delta] 60] w233) ?_ ?_
          · refine WP.region _ rfl (by kernel_rfl) ?_
            refine OPS.batch 2 {} [] [3, 7, 11, 13, 20, 21, 133, 134] [.pointer (some ⟨g3, 0, none⟩), .pointer (some ⟨g21, 0, none⟩), .int .i64 (qDown c11), .int .i64 (qSize c11), .slice ao158 ((sel m1 true (c11.N).toNat).length) co159, .slice ao167 ((sel m1 false (c11.N).toNat).length) co168, .slice ao158 ((sel m1 true (c11.N).toNat).length) co159, .pointer (some ⟨g29, 0, none⟩)] .nil (by kernel_rfl) (fun b171 => ?_)
            have hp174 := hp166.pull3
            refine OPS.cons (opStep.call (some 135) [.pointer (some ⟨g29, 0, none⟩)] (by kernel_rfl) (q_List _ _ _ c11 m3 _ hok12  hp174) ?_)
            rintro _ w175 ⟨ao177, co178, rfl, hp176⟩
            refine ⟨_, rfl, ?_⟩
            have := sel_le m3 true (c11.N).toNat
            refine OPS.cons (opStep.call (some 136) [.slice ao158 ((sel m1 true (c11.N).toNat).length) co159, .slice ao177 ((sel m3 true (c11.N).toNat).length) co178] (by kernel_rfl) (sherdlaw09_sameInts (ints (sel m1 true (c11.N).toNat)) (ints (sel m3 true (c11.N).toNat)) ao158 ao177 ((sel m1 true (c11.N).toNat).length) ((sel m3 true (c11.N).toNat).length) co159 co178 _ ((ints_len _).trans (own_flat (sz := 1) (fun _ => rfl) (by decide) hp176.get4)) ((ints_len _).trans (own_flat (sz := 1) (fun _ => rfl) (by decide) hp176.get0)) (by first | decide | (simp only [ints_len]; exact Nat.le_trans (sel_le _ _ _) (by omega)) | (simp only [ints_len]; omega)) (slr_ints (SlR.own hp176.get4)) (slr_ints (SlR.own hp176.get0))) ?_)
            rintro _ w181 ⟨b184, rfl, hb185, hf182⟩
            refine ⟨_, rfl, ?_⟩
            have hp183 := hp176.step hf182
            refine OPS.batch 2 {} [] [3, 7, 11, 13, 20, 21, 138] [.pointer (some ⟨g3, 0, none⟩), .pointer (some ⟨g21, 0, none⟩), .int .i64 (qDown c11), .int .i64 (qSize c11), .slice ao158 ((sel m1 true (c11.N).toNat).length) co159, .slice ao167 ((sel m1 false (c11.N).toNat).length) co168, .bool (!b184)] .nil (by kernel_rfl) (fun b186 => ?_)
            by_cases h187 : ints (sel m1 true (c11.N).toNat) = ints (sel m3 true (c11.N).toNat)
            · refine OPS.batch 0 {} [] [3, 7, 11, 13, 20, 21, 138] [.pointer (some ⟨g3, 0, none⟩), .pointer (some ⟨g21, 0, none⟩), .int .i64 (qDown c11), .int .i64 (qSize c11), .slice ao158 ((sel m1 true (c11.N).toNat).length) co159, .slice ao167 ((sel m1 false (c11.N).toNat).length) co168, .bool (!b184)] .nil (by kernel_rfl) (fun b190 => ?_)
              refine OPS.re [.pointer (some ⟨g3, 0, none⟩), .pointer (some ⟨g21, 0, none⟩), .int .i64 (qDown c11), .int .i64 (qSize c11), .slice ao158 ((sel m1 true (c11.N).toNat).length) co159, .slice ao167 ((sel m1 false (c11.N).toNat).length) co168, .bool false] (by rw [show (!b184) = false from (Bp.not hb185).ff (fun k => k h187)]) ?_
              refine OPS.batch 1 {} [] [3, 7, 11, 13, 20, 21, 138, 139] [.pointer (some ⟨g3, 0, none⟩), .pointer (some ⟨g21, 0, none⟩), .int .i64 (qDown c11), .int .i64 (qSize c11), .slice ao158 ((sel m1 true (c11.N).toNat).length) co159, .slice ao167 ((sel m1 false (c11.N).toNat).length) co168, .bool false, .pointer (some ⟨g21, 0, none⟩)] .nil (by kernel_rfl) (fun b191 => ?_)
              refine OPS.want (by kernel_rfl) ?_
              have hp194 := hp183.pull3
              refine OPS.cons (opStep.call (some 140) [.pointer (some ⟨g21, 0, none⟩)] (by kernel_rfl) (q_Met _ _ _ c11 m1 _ hok12  hp194) ?_)
              rintro _ w195 ⟨b198, rfl, hq197, hp196⟩
              refine ⟨_, rfl, ?_⟩
              refine OPS.batch 7 { wraps := [146] } [] [3, 7, 13, 20, 21, 147] [.pointer (some ⟨g3, 0, none⟩), .pointer (some ⟨g21, 0, none⟩), .int .i64 (qSize c11), .slice ao158 ((sel m1 true (c11.N).toNat).length) co159, .slice ao167 ((sel m1 false (c11.N).toNat).length) co168, .bool (!(b198 == (decide ((((sel m1 false (c11.N).toNat).length : Nat) : Int) ≤ (qDown c11)))))] .nil (by kernel_rfl) (fun b199 => ?_)
              by_cases h200 : ((qSize c11 ≤ ((cntB m1 256 : Nat) : Int)) ↔ ((((sel m1 false (c11.N).toNat).length : Nat) : Int) ≤ (qDown c11)))
              · refine OPS.batch 0 {} [] [3, 7, 13, 20, 21, 147] [.pointer (some ⟨g3, 0, none⟩), .pointer (some ⟨g21, 0, none⟩), .int .i64 (qSize c11), .slice ao158 ((sel m1 true (c11.N).toNat).length) co159, .slice ao167 ((sel m1 false (c11.N).toNat).length) co168, .bool (!(b198 == (decide ((((sel m1 false (c11.N).toNat).length : Nat) : Int) ≤ (qDown c11)))))] .nil (by kernel_rfl) (fun b203 => ?_)
                refine OPS.re [.pointer (some ⟨g3, 0, none⟩), .pointer (some ⟨g21, 0, none⟩), .int .i64 (qSize c11), .slice ao158 ((sel m1 true (c11.N).toNat).length) co159, .slice ao167 ((sel m1 false (c11.N).toNat).length) co168, .bool false] (by rw [show (!(b198 == (decide ((((sel m1 false (c11.N).toNat).length : Nat) : Int) ≤ (qDown c11))))) = false from (Bp.not (Bp.beq hq197 Bp.dec)).ff (fun k => k h200)]) ?_
                refine OPS.batch 1 {} [] [3, 7, 13, 20, 21, 147, 148] [.pointer (some ⟨g3, 0, none⟩), .pointer (some ⟨g21, 0, none⟩), .int .i64 (qSize c11), .slice ao158 ((sel m1 true (c11.N).toNat).length) co159, .slice ao167 ((sel m1 false (c11.N).toNat).length) co168, .bool false, .pointer (some ⟨g21, 0, none⟩)] .nil (by kernel_rfl) (fun b204 => ?_)
                refine OPS.want (by kernel_rfl) ?_
                have hp207 := hp196.pull0
                refine OPS.cons (opStep.call (some 149) [.pointer (some ⟨g21, 0, none⟩)] (by kernel_rfl) (q_Met _ _ _ c11 m1 _ hok12  hp207) ?_)
                rintro _ w208 ⟨b211, rfl, hq210, hp209⟩
                refine ⟨_, rfl, ?_⟩
                refine OPS.batch 7 { wraps := [155] } [] [3, 7, 20, 21, 156] [.pointer (some ⟨g3, 0, none⟩), .pointer (some ⟨g21, 0, none⟩), .slice ao158 ((sel m1 true (c11.N).toNat).length) co159, .slice ao167 ((sel m1 false (c11.N).toNat).length) co168, .bool (!(b211 == (decide ((qSize c11) ≤ (((sel m1 true (c11.N).toNat).length : Nat) : Int)))))] .nil (by kernel_rfl) (fun b212 => ?_)
                by_cases h213 : ((qSize c11 ≤ ((cntB m1 256 : Nat) : Int)) ↔ ((qSize c11) ≤ (((sel m1 true (c11.N).toNat).length : Nat) : Int)))
                · refine OPS.batch 0 {} [] [3, 7, 20, 21, 156] [.pointer (some ⟨g3, 0, none⟩), .pointer (some ⟨g21, 0, none⟩), .slice ao158 ((sel m1 true (c11.N).toNat).length) co159, .slice ao167 ((sel m1 false (c11.N).toNat).length) co168, .bool (!(b211 == (decide ((qSize c11) ≤ (((sel m1 true (c11.N).toNat).length : Nat) : Int)))))] .nil (by kernel_rfl) (fun b216 => ?_)
                  refine OPS.re [.pointer (some ⟨g3, 0, none⟩), .pointer (some ⟨g21, 0, none⟩), .slice ao158 ((sel m1 true (c11.N).toNat).length) co159, .slice ao167 ((sel m1 false (c11.N).toNat).length) co168, .bool false] (by rw [show (!(b211 == (decide ((qSize c11) ≤ (((sel m1 true (c11.N).toNat).length : Nat) : Int))))) = false from (Bp.not (Bp.beq hq210 Bp.dec)).ff (fun k => k h213)]) ?_
                  refine OPS.batch 10 { wraps := [165] } [.int .i64 c11.N] [3, 7, 20, 21, 166] [.pointer (some ⟨g3, 0, none⟩), .pointer (some ⟨g21, 0, none⟩), .slice ao158 ((sel m1 true (c11.N).toNat).length) co159, .slice ao167 ((sel m1 false (c11.N).toNat).length) co168, .bool (decide (¬ (((((sel m1 true (c11.N).toNat).length : Nat) : Int) + (((sel m1 false (c11.N).toNat).length : Nat) : Int)) = c11.N)))] (.cons (show Rng .i64 ((((sel m1 true (c11.N).toNat).length : Nat) : Int) + (((sel m1 false (c11.N).toNat).length : Nat) : Int)) from Rng.i64 (by omega)) (.cons (Ld.row1 (P := Try.prog) (t := 3) (o := 0) (v := .int .i64 c11.N) hp209.get5 (by kernel_rfl)) .nil)) (by kernel_rfl) (fun b217 => ?_)
                  by_cases h218 : ((((sel m1 true (c11.N).toNat).length : Nat) : Int) + (((sel m1 false (c11.N).toNat).length : Nat) : Int)) = c11.N
                  · refine OPS.batch 0 {} [] [3, 7, 20, 21, 166] [.pointer (some ⟨g3, 0, none⟩), .pointer (some ⟨g21, 0, none⟩), .slice ao158 ((sel m1 true (c11.N).toNat).length) co159, .slice ao167 ((sel m1 false (c11.N).toNat).length) co168, .bool (decide (¬ (((((sel m1 true (c11.N).toNat).length : Nat) : Int) + (((sel m1 false (c11.N).toNat).length : Nat) : Int)) = c11.N)))] .nil (by kernel_rfl) (fun b221 => ?_)
                    refine OPS.re [.pointer (some ⟨g3, 0, none⟩), .pointer (some ⟨g21, 0, none⟩), .slice ao158 ((sel m1 true (c11.N).toNat).length) co159, .slice ao167 ((sel m1 false (c11.N).toNat).length) co168, .bool false] (by rw [show (decide (¬ (((((sel m1 true (c11.N).toNat).length : Nat) : Int) + (((sel m1 false (c11.N).toNat).length : Nat) : Int)) = c11.N))) = false from Bp.dec.ff (fun k => k h218)]) ?_
                    refine OPS.batch 1 {} [] [3, 20, 21, 166, 167] [.pointer (some ⟨g3, 0, none⟩), .slice ao158 ((sel m1 true (c11.N).toNat).length) co159, .slice ao167 ((sel m1 false (c11.N).toNat).length) co168, .bool false, .pointer (some ⟨g21, 0, none⟩)] .nil (by kernel_rfl) (fun b222 => ?_)
                    refine OPS.want (by kernel_rfl) ?_
                    have hp225 := hp209.pull0
                    refine OPS.cons (opStep.call (some 168) [.pointer (some ⟨g21, 0, none⟩)] (by kernel_rfl) (q_Len _ _ _ c11 m1 _ hok12  hp225) ?_)
                    rintro _ w226 ⟨rfl, hp227⟩
                    refine ⟨_, rfl, ?_⟩
                    refine OPS.batch 4 { wraps := [172] } [] [3, 20, 21, 172] [.pointer (some ⟨g3, 0, none⟩), .slice ao158 ((sel m1 true (c11.N).toNat).length) co159, .slice ao167 ((sel m1 false (c11.N).toNat).length) co168, .bool (decide (¬ (((cntB m1 256 : Nat) : Int) = (((sel m1 true (c11.N).toNat).length : Nat) : Int))))] .nil (by kernel_rfl) (fun b229 => ?_)
                    refine OPS.nil ?_
                    refine thn_n ?_
                    exact ⟨decide (¬ (((cntB m1 256 : Nat) : Int) = (((sel m1 true (c11.N).toNat).length : Nat) : Int))), trivial, Bp.of Bp.dec (by first | (simp only [h187, h200, h213, h218, iff_false, false_iff, iff_true, true_iff, Classical.not_not, and_true, true_and, and_false, false_and, or_true, true_or, or_false, false_or, not_true_eq_false, not_false_eq_true, and_self, or_self, iff_self]; done) | (simp [h187, h200, h213, h218]; done) | simp_all), by kernel_rfl, ((((((hp227.pull5).pull5).pull2).pull5).pull5).sub (.cons_cons _ (.cons_cons _ (.cons_cons _ (.cons_cons _ (.cons_cons _ (.cons _ (.slnil))))))))⟩
                  · refine OPS.batch 0 {} [] [3, 7, 20, 21, 166] [.pointer (some ⟨g3, 0, none⟩), .pointer (some ⟨g21, 0, none⟩), .slice ao158 ((sel m1 true (c11.N).toNat).length) co159, .slice ao167 ((sel m1 false (c11.N).toNat).length) co168, .bool (decide (¬ (((((sel m1 true (c11.N).toNat).length : Nat) : Int) + (((sel m1 false (c11.N).toNat).length : Nat) : Int)) = c11.N)))] .nil (by kernel_rfl) (fun b219 => ?_)
                    refine OPS.re [.pointer (some ⟨g3, 0, none⟩), .pointer (some ⟨g21, 0, none⟩), .slice ao158 ((sel m1 true (c11.N).toNat).length) co159, .slice ao167 ((sel m1 false (c11.N).toNat).length) co168, .bool true] (by rw [show (decide (¬ (((((sel m1 true (c11.N).toNat).length : Nat) : Int) + (((sel m1 false (c11.N).toNat).length : Nat) : Int)) = c11.N))) = true from Bp.dec.tt h218]) ?_
                    refine OPS.batch 6 { wraps := [172] } [] [3, 20, 21, 172] [.pointer (some ⟨g3, 0, none⟩), .slice ao158 ((sel m1 true (c11.N).toNat).length) co159, .slice ao167 ((sel m1 false (c11.N).toNat).length) co168, .bool true] .nil (by kernel_rfl) (fun b220 => ?_)
                    refine OPS.nil ?_
                    refine thn_n ?_
                    exact ⟨true, trivial, Bp.of Bp.t (by first | (simp only [h187, h200, h213, h218, iff_false, false_iff, iff_true, true_iff, Classical.not_not, and_true, true_and, and_false, false_and, or_true, true_or, or_false, false_or, not_true_eq_false, not_false_eq_true, and_self, or_self, iff_self]; done) | (simp [h187, h200, h213, h218]; done) | simp_all), by kernel_rfl, ((((((hp209.pull5).pull5).pull2).pull5).pull5).sub (.cons_cons _ (.cons_cons _ (.cons_cons _ (.cons_cons _ (.cons_cons _ (.cons _ (.slnil))))))))⟩
                · refine OPS.batch 0 {} [] [3, 7, 20, 21, 156] [.pointer (some ⟨g3, 0, none⟩), .pointer (some ⟨g21, 0, none⟩), .slice ao158 ((sel m1 true (c11.N).toNat).length) co159, .slice ao167 ((sel m1 false (c11.N).toNat).length) co168, .bool (!(b211 == (decide ((qSize c11) ≤ (((sel m1 true (c11.N).toNat).length : Nat) : Int)))))] .nil (by kernel_rfl) (fun b214 => ?_)
                  refine OPS.re [.pointer (some ⟨g3, 0, none⟩), .pointer (some ⟨g21, 0, none⟩), .slice ao158 ((sel m1 true (c11.N).toNat).length) co159, .slice ao167 ((sel m1 false (c11.N).toNat).length) co168, .bool true] (by rw [show (!(b211 == (decide ((qSize c11) ≤ (((sel m1 true (c11.N).toNat).length : Nat) : Int))))) = true from (Bp.not (Bp.beq hq210 Bp.dec)).tt h213]) ?_
                  refine OPS.batch 16 { wraps := [165, 172] } [] [3, 20, 21, 172] [.pointer (some ⟨g3, 0, none⟩), .slice ao158 ((sel m1 true (c11.N).toNat).length) co159, .slice ao167 ((sel m1 false (c11.N).toNat).length) co168, .bool true] .nil (by kernel_rfl) (fun b215 => ?_)
                  refine OPS.nil ?_
                  refine thn_n ?_
                  exact ⟨true, trivial, Bp.of Bp.t (by first | (simp only [h187, h200, h213, iff_false, false_iff, iff_true, true_iff, Classical.not_not, and_true, true_and, and_false, false_and, or_true, true_or, or_false, false_or, not_true_eq_false, not_false_eq_true, and_self, or_self, iff_self]; done) | (simp [h187, h200, h213]; done) | simp_all), by kernel_rfl, ((((((hp209.pull5).pull5).pull2).pull5).pull5).sub (.cons_cons _ (.cons_cons _ (.cons_cons _ (.cons_cons _ (.cons_cons _ (.cons _ (.slnil))))))))⟩
              · refine OPS.batch 0 {} [] [3, 7, 13, 20, 21, 147] [.pointer (some ⟨g3, 0, none⟩), .pointer (some ⟨g21, 0, none⟩), .int .i64 (qSize c11), .slice ao158 ((sel m1 true (c11.N).toNat).length) co159, .slice ao167 ((sel m1 false (c11.N).toNat).length) co168, .bool (!(b198 == (decide ((((sel m1 false (c11.N).toNat).length : Nat) : Int) ≤ (qDown c11)))))] .nil (by kernel_rfl) (fun b201 => ?_)
                refine OPS.re [.pointer (some ⟨g3, 0, none⟩), .pointer (some ⟨g21, 0, none⟩), .int .i64 (qSize c11), .slice ao158 ((sel m1 true (c11.N).toNat).length) co159, .slice ao167 ((sel m1 false (c11.N).toNat).length) co168, .bool true] (by rw [show (!(b198 == (decide ((((sel m1 false (c11.N).toNat).length : Nat) : Int) ≤ (qDown c11))))) = true from (Bp.not (Bp.beq hq197 Bp.dec)).tt h200]) ?_
                refine OPS.batch 25 { wraps := [155, 165, 172] } [] [3, 20, 21, 172] [.pointer (some ⟨g3, 0, none⟩), .slice ao158 ((sel m1 true (c11.N).toNat).length) co159, .slice ao167 ((sel m1 false (c11.N).toNat).length) co168, .bool true] .nil (by kernel_rfl) (fun b202 => ?_)
                refine OPS.nil ?_
                refine thn_n ?_
                exact ⟨true, trivial, Bp.of Bp.t (by first | (simp only [h187, h200, iff_false, false_iff, iff_true, true_iff, Classical.not_not, and_true, true_and, and_false, false_and, or_true, true_or, or_false, false_or, not_true_eq_false, not_false_eq_true, and_self, or_self, iff_self]; done) | (simp [h187, h200]; done) | simp_all), by kernel_rfl, ((((((hp196.pull5).pull5).pull2).pull5).pull5).sub (.cons_cons _ (.cons_cons _ (.cons_cons _ (.cons_cons _ (.cons_cons _ (.cons _ (.slnil))))))))⟩
            · refine OPS.batch 0 {} [] [3, 7, 11, 13, 20, 21, 138] [.pointer (some ⟨g3, 0, none⟩), .pointer (some ⟨g21, 0, none⟩), .int .i64 (qDown c11), .int .i64 (qSize c11), .slice ao158 ((sel m1 true (c11.N).toNat).length) co159, .slice ao167 ((sel m1 false (c11.N).toNat).length) co168, .bool (!b184)] .nil (by kernel_rfl) (fun b188 => ?_)
              refine OPS.re [.pointer (some ⟨g3, 0, none⟩), .pointer (some ⟨g21, 0, none⟩), .int .i64 (qDown c11), .int .i64 (qSize c11), .slice ao158 ((sel m1 true (c11.N).toNat).length) co159, .slice ao167 ((sel m1 false (c11.N).toNat).length) co168, .bool true] (by rw [show (!b184) = true from (Bp.not hb185).tt h187]) ?_
              refine OPS.batch 34 { wraps := [146, 155, 165, 172] } [] [3, 20, 21, 172] [.pointer (some ⟨g3, 0, none⟩), .slice ao158 ((sel m1 true (c11.N).toNat).length) co159, .slice ao167 ((sel m1 false (c11.N).toNat).length) co168, .bool true] .nil (by kernel_rfl) (fun b189 => ?_)
              refine OPS.nil ?_
              refine thn_n ?_
              exact ⟨true, trivial, Bp.of Bp.t (by first | (simp only [h187, iff_false, false_iff, iff_true, true_iff, Classical.not_not, and_true, true_and, and_false, false_and, or_true, true_or, or_false, false_or, not_true_eq_false, not_false_eq_true, and_self, or_self, iff_self]; done) | (simp [h187]; done) | simp_all), by kernel_rfl, (hp183.sub (.cons _ (.cons_cons _ (.cons_cons _ (.cons_cons _ (.cons_cons _ (.cons_cons _ (.slnil))))))))⟩
          rintro e232 w233 ⟨x230, hd235, hb231, hE236, hp234⟩
          obtain ⟨b237, rfl⟩ := toMk hE236
          clear hE236
          clear hd235
          refine WP.test (p := ((¬ (ints (sel m1 true (c11.N).toNat) = ints (sel m3 true (c11.N).toNat)))) ∨ ((ints (sel m1 true (c11.N).toNat) = ints (sel m3 true (c11.N).toNat)) ∧ (¬ (((qSize c11 ≤ ((cntB m1 256 : Nat) : Int)) ↔ ((((sel m1 false (c11.N).toNat).length : Nat) : Int) ≤ (qDown c11)))))) ∨ ((ints (sel m1 true (c11.N).toNat) = ints (sel m3 true (c11.N).toNat)) ∧ ((qSize c11 ≤ ((cntB m1 256 : Nat) : Int)) ↔ ((((sel m1 false (c11.N).toNat).length : Nat) : Int) ≤ (qDown c11))) ∧ (¬ (((qSize c11 ≤ ((cntB m1 256 : Nat) : Int)) ↔ ((qSize c11) ≤ (((sel m1 true (c11.N).toNat).length : Nat) : Int)))))) ∨ ((ints (sel m1 true (c11.N).toNat) = ints (sel m3 true (c11.N).toNat)) ∧ ((qSize c11 ≤ ((cntB m1 256 : Nat) : Int)) ↔ ((((sel m1 false (c11.N).toNat).length : Nat) : Int) ≤ (qDown c11))) ∧ ((qSize c11 ≤ ((cntB m1 256 : Nat) : Int)) ↔ ((qSize c11) ≤ (((sel m1 true (c11.N).toNat).length : Nat) : Int))) ∧ (¬ (((((sel m1 true (c11.N).toNat).length : Nat) : Int) + (((sel m1 false (c11.N).toNat).length : Nat) : Int)) = c11.N))) ∨ ((ints (sel m1 true (c11.N).toNat) = ints (sel m3 true (c11.N).toNat)) ∧ ((qSize c11 ≤ ((cntB m1 256 : Nat) : Int)) ↔ ((((sel m1 false (c11.N).toNat).length : Nat) : Int) ≤ (qDown c11))) ∧ ((qSize c11 ≤ ((cntB m1 256 : Nat) : Int)) ↔ ((qSize c11) ≤ (((sel m1 true (c11.N).toNat).length : Nat) : Int))) ∧ (((((sel m1 true (c11.N).toNat).length : Nat) : Int) + (((sel m1 false (c11.N).toNat).length : Nat) : Int)) = c11.N) ∧ (¬ (((cntB m1 256 : Nat) : Int) = (((sel m1 true (c11.N).toNat).length : Nat) : Int))))) rfl hb231 (fun h238 => ?_) (fun h238 => ?_)
          · refine WP.seq ?_
            refine WP.pure {} [] [6] [.bool false] .nil (by kernel_rfl) (fun b239 => ?_)
            refine thn_n ?_
            refine WP.ret ?_
            refine thn_r ?_
            refine bodyQ.of _ rfl [.bool false] ⟨rfl, trivial⟩ ?_
            exfalso
            have hsm : small c11 m1 := by rw [pb]; exact addL_small _ _
            obtain ⟨fa, fb⟩ := sel_facts hok12 hsm
            have e1 : ints (sel m1 true (c11.N).toNat) = ints (sel m3 true (c11.N).toNat) := by rw [pf]
            rcases h238 with h | ⟨_, h⟩ | ⟨_, _, h⟩ | ⟨_, _, _, h⟩ | ⟨_, _, _, _, h⟩
            · exact h e1
            · clear e1; omega
            · clear e1; omega
            · clear e1; omega
            · clear e1; omega
          · refine WP.skip ?_
            refine thn_n ?_
            refine WP.seq ?_
            refine WP.pure {} [] [3, 20, 21, 22, 23] [.pointer (some ⟨g3, 0, none⟩), .slice ao158 ((sel m1 true (c11.N).toNat).length) co159, .slice ao167 ((sel m1 false (c11.N).toNat).length) co168, .int .i64 0, .int .i64 0] .nil (by kernel_rfl) (fun b240 => ?_)
            refine thn_n ?_
            refine WP.seq ?_
            refine WP.seq ?_
            refine WP.pure {} [.int .i64 c11.N] [20, 21, 22, 23, 174, 175] [.slice ao158 ((sel m1 true (c11.N).toNat).length) co159, .slice ao167 ((sel m1 false (c11.N).toNat).length) co168, .int .i64 0, .int .i64 0, .int .i64 c11.N, .int .i64 0] (.cons (Ld.row1 (P := Try.prog) (t := 3) (o := 0) (v := .int .i64 c11.N) hp234.get4 (by kernel_rfl)) .nil) (by kernel_rfl) (fun b241 => ?_)
            refine thn_n ?_
            refine WP.block ?_
            refine WP.loop (fun mz_ e242 w243 => ∃ (x : Nat) (ci : Int) (cj : Int), mz_ = (c11.N).toNat - x ∧ ((x : Int) ≤ c11.N ∧ ci = ((sel m1 true x).length : Int) ∧ cj = ((sel m1 false x).length : Int)) ∧ List.map e242 [20, 21, 22, 23, 174, 175] = [.slice ao158 ((sel m1 true (c11.N).toNat).length) co159, .slice ao167 ((sel m1 false (c11.N).toNat).length) co168, .int .i64 ci, .int .i64 cj, .int .i64 c11.N, .int .i64 (x : Int)] ∧ Hp w Non [Res.row g29 [.int .i64 c11.N, .int .i64 c11.K, .int .i64 c11.Delta, .int .u64 ((wd m3 0 : Nat) : Int), .int .u64 ((wd m3 1 : Nat) : Int), .int .u64 ((wd m3 2 : Nat) : Int), .int .u64 ((wd m3 3 : Nat) : Int)] 133, Res.own 3 1 (.slice ao167 ((sel m1 false (c11.N).toNat).length) co168) ((sel m1 false (c11.N).toNat).length) (List.flatMap (fun (y : Nat) => [Go.Value.int .i64 (y : Int)]) (sel m1 false (c11.N).toNat)), Res.row g21 [.int .i64 c11.N, .int .i64 c11.K, .int .i64 c11.Delta, .int .u64 ((wd m1 0 : Nat) : Int), .int .u64 ((wd m1 1 : Nat) : Int), .int .u64 ((wd m1 2 : Nat) : Int), .int .u64 ((wd m1 3 : Nat) : Int)] 133, Res.own 3 1 (.slice ao158 ((sel m1 true (c11.N).toNat).length) co159) ((sel m1 true (c11.N).toNat).length) (List.flatMap (fun (y : Nat) => [Go.Value.int .i64 (y : Int)]) (sel m1 true (c11.N).toNat)), Res.row g3 [.int .i64 c11.N, .int .i64 c11.K, .int .i64 c11.Delta] 60] w243) ((c11.N).toNat - (0)) ⟨0, 0, 0, rfl, ⟨by omega, by simp [sel], by simp [sel]⟩, by kernel_rfl, hp234⟩ ?_
            rintro _ e242 w243 ⟨x, ci, cj, rfl, hI245, hE246, hp244⟩
            obtain ⟨b247, rfl⟩ := toMk hE246
            clear hE246
            obtain ⟨ra, rb, rc⟩ := hI245
            refine WP.seq ?_
            refine WP.pure {} [] [20, 21, 22, 23, 174, 175, 176] [.slice ao158 ((sel m1 true (c11.N).toNat).length) co159, .slice ao167 ((sel m1 false (c11.N).toNat).length) co168, .int .i64 ci, .int .i64 cj, .int .i64 c11.N, .int .i64 (x : Int), .bool (decide ((x : Int) < c11.N))] .nil (by kernel_rfl) (fun b248 => ?_)
            refine thn_n ?_
            refine WP.seq ?_
            refine WP.test (p := (x : Int) < c11.N) rfl Bp.dec (fun h249 => ?_) (fun h249 => ?_)
            · refine WP.skip ?_
              refine thn_n ?_
              refine WP.seq ?_
              refine WP.block ?_
              refine WP.seq ?_
              refine WP.pure {} [] [20, 21, 22, 23, 24, 174, 175] [.slice ao158 ((sel m1 true (c11.N).toNat).length) co159, .slice ao167 ((sel m1 false (c11.N).toNat).length) co168, .int .i64 ci, .int .i64 cj, .int .i64 (x : Int), .int .i64 c11.N, .int .i64 (x : Int)] .nil (by kernel_rfl) (fun b250 => ?_)
              refine thn_n ?_
              refine WP.block ?_
              refine WP.cut (fun e262 w263 => ∃ (x260 : Bool), (True) ∧ Bp x260 ((ci < (((sel m1 true (c11.N).toNat).length : Nat) : Int)) ∧ ((((sel m1 true (c11.N).toNat)[(ci : Int).toNat]! : Nat) : Int) = (x : Int))) ∧ List.map e262 [20, 21, 22, 23, 24, 174, 175, 178] = [.slice ao158 ((sel m1 true (c11.N).toNat).length) co159, .slice ao167 ((sel m1 false (c11.N).toNat).length) co168, .int .i64 ci, .int .i64 cj, .int .i64 (x : Int), .int .i64 c11.N, .int .i64 (x : Int), .bool x260] ∧ Hp w Non [Res.row g29 [.int .i64 c11.N, .int .i64 c11.K, .int .i64 c11.Delta, .int .u64 ((wd m3 0 : Nat) : Int), .int .u64 ((wd m3 1 : Nat) : Int), .int .u64 ((wd m3 2 : Nat) : Int), .int .u64 ((wd m3 3 : Nat) : Int)] 133, Res.own 3 1 (.slice ao167 ((sel m1 false (c11.N).toNat).length) co168) ((sel m1 false (c11.N).toNat).length) (List.flatMap (fun (y : Nat) => [Go.Value.int .i64 (y : Int)]) (sel m1 false (c11.N).toNat)), Res.row g21 [.int .i64 c11.N, .int .i64 c11.K, .int .i64 c11.Delta, .int .u64 ((wd m1 0 : Nat) : Int), .int .u64 ((wd m1 1 : Nat) : Int), .int .u64 ((wd m1 2 : Nat) : Int), .int .u64 ((wd m1 3 : Nat) : Int)] 133, Res.own 3 1 (.slice ao158 ((sel m1 true (c11.N).toNat).length) co159) ((sel m1 true (c11.N).toNat).length) (List.flatMap (fun (y : Nat) => [Go.Value.int .i64 (y : Int)]) (sel m1 true (c11.N).toNat)), Res.row g3 [.int .i64 c11.N, .int .i64 c11.K, .int .i64 c11.Delta] 60] w263) ?_ ?_
              · refine WP.region _ rfl (by kernel_rfl) ?_
                refine OPS.batch 5 {} [] [20, 21, 22, 23, 24, 174, 175, 183] [.slice ao158 ((sel m1 true (c11.N).toNat).length) co159, .slice ao167 ((sel m1 false (c11.N).toNat).length) co168, .int .i64 ci, .int .i64 cj, .int .i64 (x : Int), .int .i64 c11.N, .int .i64 (x : Int), .bool (decide (ci < (((sel m1 true (c11.N).toNat).length : Nat) : Int)))] .nil (by kernel_rfl) (fun b252 => ?_)
                by_cases h253 : ci < (((sel m1 true (c11.N).toNat).length : Nat) : Int)
                · refine OPS.batch 0 {} [] [20, 21, 22, 23, 24, 174, 175, 183] [.slice ao158 ((sel m1 true (c11.N).toNat).length) co159, .slice ao167 ((sel m1 false (c11.N).toNat).length) co168, .int .i64 ci, .int .i64 cj, .int .i64 (x : Int), .int .i64 c11.N, .int .i64 (x : Int), .bool (decide (ci < (((sel m1 true (c11.N).toNat).length : Nat) : Int)))] .nil (by kernel_rfl) (fun b254 => ?_)
                  refine OPS.re [.slice ao158 ((sel m1 true (c11.N).toNat).length) co159, .slice ao167 ((sel m1 false (c11.N).toNat).length) co168, .int .i64 ci, .int .i64 cj, .int .i64 (x : Int), .int .i64 c11.N, .int .i64 (x : Int), .bool true] (by rw [show (decide (ci < (((sel m1 true (c11.N).toNat).length : Nat) : Int))) = true from Bp.dec.tt h253]) ?_
                  have := own_flat (sz := 1) (fun _ => rfl) (by decide) hp244.get3
                  have hy256 : (sel m1 true (c11.N).toNat)[(ci : Int).toNat]? = some (sel m1 true (c11.N).toNat)[(ci : Int).toNat]! := get_bang (by first | (omega) | (simp only [List.length_append, List.length_cons, List.length_nil]; omega))
                  refine OPS.batch 8 { wraps := [190] } [.int .i64 (((sel m1 true (c11.N).toNat)[(ci : Int).toNat]! : Nat) : Int)] [20, 21, 22, 23, 24, 174, 175, 178] [.slice ao158 ((sel m1 true (c11.N).toNat).length) co159, .slice ao167 ((sel m1 false (c11.N).toNat).length) co168, .int .i64 ci, .int .i64 cj, .int .i64 (x : Int), .int .i64 c11.N, .int .i64 (x : Int), .bool (decide ((((sel m1 true (c11.N).toNat)[(ci : Int).toNat]! : Nat) : Int) = (x : Int)))] (.cons (show InB (ci) ((sel m1 true (c11.N).toNat).length) from ⟨by omega, by omega⟩) (.cons ((SlR.own (hp244.get3)).some (by omega)) (.cons (Ld.add0 (Ld.el1 (P := Try.prog) (t := 3) (SlR.own (hp244.get3)).rd 1 (fun _ => rfl) hy256 (o := 0) (v := .int .i64 (((sel m1 true (c11.N).toNat)[(ci : Int).toNat]! : Nat) : Int)) (by kernel_rfl))) .nil))) (by kernel_rfl) (fun b257 => ?_)
                  refine OPS.nil ?_
                  refine thn_n ?_
                  exact ⟨decide ((((sel m1 true (c11.N).toNat)[(ci : Int).toNat]! : Nat) : Int) = (x : Int)), trivial, Bp.of Bp.dec (by first | (simp only [h253, iff_false, false_iff, iff_true, true_iff, Classical.not_not, and_true, true_and, and_false, false_and, or_true, true_or, or_false, false_or, not_true_eq_false, not_false_eq_true, and_self, or_self, iff_self]; done) | (simp [h253]; done) | simp_all), by kernel_rfl, hp244⟩
                · refine OPS.batch 0 {} [] [20, 21, 22, 23, 24, 174, 175, 183] [.slice ao158 ((sel m1 true (c11.N).toNat).length) co159, .slice ao167 ((sel m1 false (c11.N).toNat).length) co168, .int .i64 ci, .int .i64 cj, .int .i64 (x : Int), .int .i64 c11.N, .int .i64 (x : Int), .bool (decide (ci < (((sel m1 true (c11.N).toNat).length : Nat) : Int)))] .nil (by kernel_rfl) (fun b258 => ?_)
                  refine OPS.re [.slice ao158 ((sel m1 true (c11.N).toNat).length) co159, .slice ao167 ((sel m1 false (c11.N).toNat).length) co168, .int .i64 ci, .int .i64 cj, .int .i64 (x : Int), .int .i64 c11.N, .int .i64 (x : Int), .bool false] (by rw [show (decide (ci < (((sel m1 true (c11.N).toNat).length : Nat) : Int))) = false from Bp.dec.ff h253]) ?_
                  refine OPS.batch 8 { wraps := [190] } [] [20, 21, 22, 23, 24, 174, 175, 178] [.slice ao158 ((sel m1 true (c11.N).toNat).length) co159, .slice ao167 ((sel m1 false (c11.N).toNat).length) co168, .int .i64 ci, .int .i64 cj, .int .i64 (x : Int), .int .i64 c11.N, .int .i64 (x : Int), .bool false] .nil (by kernel_rfl) (fun b259 => ?_)
                  refine OPS.nil ?_
                  refine thn_n ?_
                  exact ⟨false, trivial, Bp.of Bp.f (by first | (simp only [h253, iff_false, false_iff, iff_true, true_iff, Classical.not_not, and_true, true_and, and_false, false_and, or_true, true_or, or_false, false_or, not_true_eq_false, not_false_eq_true, and_self, or_self, iff_self]; done) | (simp [h253]; done) | simp_all), by kernel_rfl, hp244⟩
              rintro e262 w263 ⟨x260, hd265, hb261, hE266, hp264⟩
              obtain ⟨b267, rfl⟩ := toMk hE266
              clear hE266
              clear hd265
              refine WP.test (p := (ci < (((sel m1 true (c11.N).toNat).length : Nat) : Int)) ∧ ((((sel m1 true (c11.N).toNat)[(ci : Int).toNat]! : Nat) : Int) = (x : Int))) rfl hb261 (fun h268 => ?_) (fun h268 => ?_)
              · refine WP.pure {} [] [20, 21, 22, 23, 174, 175] [.slice ao158 ((sel m1 true (c11.N).toNat).length) co159, .slice ao167 ((sel m1 false (c11.N).toNat).length) co168, .int .i64 (ci + 1), .int .i64 cj, .int .i64 c11.N, .int .i64 (x : Int)] (.cons (show Rng .i64 (ci + 1) from Rng.i64 (by omega)) .nil) (by kernel_rfl) (fun b269 => ?_)
                refine blk_n ?_
                refine blk_n ?_
                refine thn_n ?_
                refine WP.pure {} [] [20, 21, 22, 23, 174, 175] [.slice ao158 ((sel m1 true (c11.N).toNat).length) co159, .slice ao167 ((sel m1 false (c11.N).toNat).length) co168, .int .i64 (ci + 1), .int .i64 cj, .int .i64 c11.N, .int .i64 ((x : Int) + 1)] (.cons (show Rng .i64 ((x : Int) + 1) from Rng.i64 (by omega)) .nil) (by kernel_rfl) (fun b270 => ?_)
                refine thn_n ?_
                have hb1 : m1.testBit x = true := ptr_hit rb (by omega) h268
                exact ⟨(c11.N).toNat - (x + 1), (by omega), x + 1, ci + 1, cj, rfl, ⟨by omega, by rw [sel_len_succ]; rw [if_pos hb1]; omega, by rw [sel_len_succ]; rw [if_neg (by rw [hb1]; decide)]; omega⟩, by kernel_rfl, hp264⟩
              · refine WP.cut (fun e282 w283 => ∃ (x280 : Bool), (True) ∧ Bp x280 ((cj < (((sel m1 false (c11.N).toNat).length : Nat) : Int)) ∧ ((((sel m1 false (c11.N).toNat)[(cj : Int).toNat]! : Nat) : Int) = (x : Int))) ∧ List.map e282 [20, 21, 22, 23, 174, 175, 193] = [.slice ao158 ((sel m1 true (c11.N).toNat).length) co159, .slice ao167 ((sel m1 false (c11.N).toNat).length) co168, .int .i64 ci, .int .i64 cj, .int .i64 c11.N, .int .i64 (x : Int), .bool x280] ∧ Hp w Non [Res.row g29 [.int .i64 c11.N, .int .i64 c11.K, .int .i64 c11.Delta, .int .u64 ((wd m3 0 : Nat) : Int), .int .u64 ((wd m3 1 : Nat) : Int), .int .u64 ((wd m3 2 : Nat) : Int), .int .u64 ((wd m3 3 : Nat) : Int)] 133, Res.own 3 1 (.slice ao167 ((sel m1 false (c11.N).toNat).length) co168) ((sel m1 false (c11.N).toNat).length) (List.flatMap (fun (y : Nat) => [Go.Value.int .i64 (y : Int)]) (sel m1 false (c11.N).toNat)), Res.row g21 [.int .i64 c11.N, .int .i64 c11.K, .int .i64 c11.Delta, .int .u64 ((wd m1 0 : Nat) : Int), .int .u64 ((wd m1 1 : Nat) : Int), .int .u64 ((wd m1 2 : Nat) : Int), .int .u64 ((wd m1 3 : Nat) : Int)] 133, Res.own 3 1 (.slice ao158 ((sel m1 true (c11.N).toNat).length) co159) ((sel m1 true (c11.N).toNat).length) (List.flatMap (fun (y : Nat) => [Go.Value.int .i64 (y : Int)]) (sel m1 true (c11.N).toNat)), Res.row g3 [.int .i64 c11.N, .int .i64 c11.K, .int .i64 c11.Delta] 60] w283) ?_ ?_
                · refine WP.region _ rfl (by kernel_rfl) ?_
                  refine OPS.batch 5 {} [] [20, 21, 22, 23, 24, 174, 175, 198] [.slice ao158 ((sel m1 true (c11.N).toNat).length) co159, .slice ao167 ((sel m1 false (c11.N).toNat).length) co168, .int .i64 ci, .int .i64 cj, .int .i64 (x : Int), .int .i64 c11.N, .int .i64 (x : Int), .bool (decide (cj < (((sel m1 false (c11.N).toNat).length : Nat) : Int)))] .nil (by kernel_rfl) (fun b272 => ?_)
                  by_cases h273 : cj < (((sel m1 false (c11.N).toNat).length : Nat) : Int)
                  · refine OPS.batch 0 {} [] [20, 21, 22, 23, 24, 174, 175, 198] [.slice ao158 ((sel m1 true (c11.N).toNat).length) co159, .slice ao167 ((sel m1 false (c11.N).toNat).length) co168, .int .i64 ci, .int .i64 cj, .int .i64 (x : Int), .int .i64 c11.N, .int .i64 (x : Int), .bool (decide (cj < (((sel m1 false (c11.N).toNat).length : Nat) : Int)))] .nil (by kernel_rfl) (fun b274 => ?_)
                    refine OPS.re [.slice ao158 ((sel m1 true (c11.N).toNat).length) co159, .slice ao167 ((sel m1 false (c11.N).toNat).length) co168, .int .i64 ci, .int .i64 cj, .int .i64 (x : Int), .int .i64 c11.N, .int .i64 (x : Int), .bool true] (by rw [show (decide (cj < (((sel m1 false (c11.N).toNat).length : Nat) : Int))) = true from Bp.dec.tt h273]) ?_
                    have := own_flat (sz := 1) (fun _ => rfl) (by decide) hp264.get1
                    have hy276 : (sel m1 false (c11.N).toNat)[(cj : Int).toNat]? = some (sel m1 false (c11.N).toNat)[(cj : Int).toNat]! := get_bang (by first | (omega) | (simp only [List.length_append, List.length_cons, List.length_nil]; omega))
                    refine OPS.batch 8 { wraps := [205] } [.int .i64 (((sel m1 false (c11.N).toNat)[(cj : Int).toNat]! : Nat) : Int)] [20, 21, 22, 23, 174, 175, 193] [.slice ao158 ((sel m1 true (c11.N).toNat).length) co159, .slice ao167 ((sel m1 false (c11.N).toNat).length) co168, .int .i64 ci, .int .i64 cj, .int .i64 c11.N, .int .i64 (x : Int), .bool (decide ((((sel m1 false (c11.N).toNat)[(cj : Int).toNat]! : Nat) : Int) = (x : Int)))] (.cons (show InB (cj) ((sel m1 false (c11.N).toNat).length) from ⟨by omega, by omega⟩) (.cons ((SlR.own (hp264.get1)).some (by omega)) (.cons (Ld.add0 (Ld.el1 (P := Try.prog) (t := 3) (SlR.own (hp264.get1)).rd 1 (fun _ => rfl) hy276 (o := 0) (v := .int .i64 (((sel m1 false (c11.N).toNat)[(cj : Int).toNat]! : Nat) : Int)) (by kernel_rfl))) .nil))) (by kernel_rfl) (fun b277 => ?_)
                    refine OPS.nil ?_
                    refine thn_n ?_
                    exact ⟨decide ((((sel m1 false (c11.N).toNat)[(cj : Int).toNat]! : Nat) : Int) = (x : Int)), trivial, Bp.of Bp.dec (by first | (simp only [h273, iff_false, false_iff, iff_true, true_iff, Classical.not_not, and_true, true_and, and_false, false_and, or_true, true_or, or_false, false_or, not_true_eq_false, not_false_eq_true, and_self, or_self, iff_self]; done) | (simp [h273]; done) | simp_all), by kernel_rfl, hp264⟩
                  · refine OPS.batch 0 {} [] [20, 21, 22, 23, 24, 174, 175, 198] [.slice ao158 ((sel m1 true (c11.N).toNat).length) co159, .slice ao167 ((sel m1 false (c11.N).toNat).length) co168, .int .i64 ci, .int .i64 cj, .int .i64 (x : Int), .int .i64 c11.N, .int .i64 (x : Int), .bool (decide (cj < (((sel m1 false (c11.N).toNat).length : Nat) : Int)))] .nil (by kernel_rfl) (fun b278 => ?_)
                    refine OPS.re [.slice ao158 ((sel m1 true (c11.N).toNat).length) co159, .slice ao167 ((sel m1 false (c11.N).toNat).length) co168, .int .i64 ci, .int .i64 cj, .int .i64 (x : Int), .int .i64 c11.N, .int .i64 (x : Int), .bool false] (by rw [show (decide (cj < (((sel m1 false (c11.N).toNat).length : Nat) : Int))) = false from Bp.dec.ff h273]) ?_
                    refine OPS.batch 8 { wraps := [205] } [] [20, 21, 22, 23, 174, 175, 193] [.slice ao158 ((sel m1 true (c11.N).toNat).length) co159, .slice ao167 ((sel m1 false (c11.N).toNat).length) co168, .int .i64 ci, .int .i64 cj, .int .i64 c11.N, .int .i64 (x : Int), .bool false] .nil (by kernel_rfl) (fun b279 => ?_)
                    refine OPS.nil ?_
                    refine thn_n ?_
                    exact ⟨false, trivial, Bp.of Bp.f (by first | (simp only [h273, iff_false, false_iff, iff_true, true_iff, Classical.not_not, and_true, true_and, and_false, false_and, or_true, true_or, or_false, false_or, not_true_eq_false, not_false_eq_true, and_self, or_self, iff_self]; done) | (simp [h273]; done) | simp_all), by kernel_rfl, hp264⟩
                rintro e282 w283 ⟨x280, hd285, hb281, hE286, hp284⟩
                obtain ⟨b287, rfl⟩ := toMk hE286
                clear hE286
                clear hd285
                refine WP.test (p := (cj < (((sel m1 false (c11.N).toNat).length : Nat) : Int)) ∧ ((((sel m1 false (c11.N).toNat)[(cj : Int).toNat]! : Nat) : Int) = (x : Int))) rfl hb281 (fun h288 => ?_) (fun h288 => ?_)
                · refine WP.pure {} [] [20, 21, 22, 23, 174, 175] [.slice ao158 ((sel m1 true (c11.N).toNat).length) co159, .slice ao167 ((sel m1 false (c11.N).toNat).length) co168, .int .i64 ci, .int .i64 (cj + 1), .int .i64 c11.N, .int .i64 (x : Int)] (.cons (show Rng .i64 (cj + 1) from Rng.i64 (by omega)) .nil) (by kernel_rfl) (fun b289 => ?_)
                  refine blk_n ?_
                  refine blk_n ?_
                  refine thn_n ?_
                  refine WP.pure {} [] [20, 21, 22, 23, 174, 175] [.slice ao158 ((sel m1 true (c11.N).toNat).length) co159, .slice ao167 ((sel m1 false (c11.N).toNat).length) co168, .int .i64 ci, .int .i64 (cj + 1), .int .i64 c11.N, .int .i64 ((x : Int) + 1)] (.cons (show Rng .i64 ((x : Int) + 1) from Rng.i64 (by omega)) .nil) (by kernel_rfl) (fun b290 => ?_)
                  refine thn_n ?_
                  have hb1 : m1.testBit x = false := ptr_hit rc (by omega) h288
                  exact ⟨(c11.N).toNat - (x + 1), (by omega), x + 1, ci, cj + 1, rfl, ⟨by omega, by rw [sel_len_succ]; rw [if_neg (by rw [hb1]; decide)]; omega, by rw [sel_len_succ]; rw [if_pos hb1]; omega⟩, by kernel_rfl, hp284⟩
                · refine WP.seq ?_
                  refine WP.pure {} [] [6] [.bool false] .nil (by kernel_rfl) (fun b291 => ?_)
                  refine thn_n ?_
                  refine WP.ret ?_
                  refine blk_r ?_
                  refine blk_r ?_
                  refine thn_r ?_
                  refine thn_r ?_
                  refine blk_r ?_
                  refine thn_r ?_
                  refine bodyQ.of _ rfl [.bool false] ⟨rfl, trivial⟩ ?_
                  exfalso
                  have k1 := ptr_miss rb (n := (c11.N).toNat) (by omega) h268
                  have k2 := ptr_miss rc (n := (c11.N).toNat) (by omega) h288
                  cases hb : m1.testBit x <;> simp_all
            · refine WP.exit ?_
              refine thn_x ?_
              refine thn_x ?_
              refine blk_hit ?_
              refine thn_n ?_
              refine WP.seq ?_
              refine WP.region _ rfl (by kernel_rfl) ?_
              refine OPS.cons (opStep.call (some 209) [] (by kernel_rfl) (q_taken _) ?_)
              rintro _ w294 ⟨rfl, hf295⟩
              refine ⟨_, rfl, ?_⟩
              have hp296 := hp244.step hf295
              refine OPS.batch 1 {} [] [6] [.bool true] .nil (by kernel_rfl) (fun b297 => ?_)
              refine OPS.nil ?_
              refine thn_n ?_
              refine WP.ret ?_
              refine bodyQ.of _ rfl [.bool true] ⟨rfl, trivial⟩ ?_
              exact ⟨rfl, hp296.fr⟩

end Go.Proofs.Ythdkbbpiaeaojaa.K
