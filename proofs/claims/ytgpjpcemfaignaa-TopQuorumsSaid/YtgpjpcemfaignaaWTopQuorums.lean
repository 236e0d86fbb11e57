/- The walks of WTopQuorums: what each function computes. -/
import Derived.Test.YtgpjpcemfaignaaProg
import Derived.Test.YtgpjpcemfaignaaCoreO
import Derived.Test.YtgpjpcemfaignaaCoreW
import Derived.Test.YtgpjpcemfaignaaQuoT
import Derived.Test.YtgpjpcemfaignaaOpen
namespace Go.Proofs.Ytgpjpcemfaignaa.K
open Go Go.Proofs Go.RowKit
set_option linter.unusedVariables false
set_option linter.unusedSimpArgs false
set_option maxRecDepth 20000
set_option maxHeartbeats 4000000

theorem TopQuorums (c : GConfig) (BN : Nat) (hBN : BN ≤ 17592186043904) (w : World) (s1 : SlH) (l1 : List Int) (o1 : SlD w (α := Int) (fun y => [Go.Value.int .i64 y]) (fun y => Rng .i64 y) BN s1 l1) (s2 : SlH) (l2 : List Int) (o2 : SlD w (α := Int) (fun y => [Go.Value.int .i64 y]) (fun y => Rng .i64 y) BN s2 l2) :
    Calls Try.prog 3 #[GConfig.val c, .slice s1.a s1.n s1.c, .slice s2.a s2.n s2.c] w (fun x w' => x = .returned (.bool true) ∧ Fram Non w w') := by
  have hn1 := o1.len
  have hc1 := o1.cap
  have hd1 := o1.bnd
  have hn2 := o2.len
  have hc2 := o2.cap
  have hd2 := o2.bnd
  have hq := q_all c
  refine calls_of Try.func3 rfl 226 rfl (by simp) ?_
  have hp0 := Hp.init w
  have he0 : List.map (env0 [GConfig.val c, .slice s1.a s1.n s1.c, .slice s2.a s2.n s2.c]) [0, 1, 2] = [GConfig.val c, .slice s1.a s1.n s1.c, .slice s2.a s2.n s2.c] := by kernel_rfl
  obtain ⟨b0, he0⟩ := toMk he0
  rw [he0]
  clear he0
  refine WP.seq ?_
  refine WP.region _ rfl (by kernel_rfl) ?_
  refine OPS.cons (opStep.box hp0 [.int .i64 c.N, .int .i64 c.K, .int .i64 c.Delta] (by kernel_rfl) (fun g3 w1 hp2 => ?_))
  refine OPS.batch 1 {} [] [1, 2, 3] [.slice s1.a s1.n s1.c, .slice s2.a s2.n s2.c, .pointer (some ⟨g3, 0, none⟩)] .nil (by kernel_rfl) (fun b4 => ?_)
  refine OPS.nil ?_
  refine thn_n ?_
  refine WP.seq ?_
  refine WP.region _ rfl (by kernel_rfl) ?_
  refine OPS.batch 1 {} [GConfig.val c] [1, 2, 3, 27] [.slice s1.a s1.n s1.c, .slice s2.a s2.n s2.c, .pointer (some ⟨g3, 0, none⟩), GConfig.val c] (.cons (show Ld Try.prog w1 23 ⟨g3, 0, none⟩ (GConfig.val c) from Ld.rowN (cs := [.int .i64 c.N, .int .i64 c.K, .int .i64 c.Delta]) hp2.get0 (by kernel_rfl)) .nil) (by kernel_rfl) (fun b5 => ?_)
  refine OPS.cons (opStep.call (some 28) [GConfig.val c] (by kernel_rfl) (q_Size c _) ?_)
  rintro _ w8 ⟨rfl, hf9⟩
  refine ⟨_, rfl, ?_⟩
  have hp10 := hp2.step hf9
  refine OPS.batch 5 {} [] [1, 2, 3, 7, 8] [.slice s1.a s1.n s1.c, .slice s2.a s2.n s2.c, .pointer (some ⟨g3, 0, none⟩), .int .i64 (qSize c), .int .i64 (qChk c)] .nil (by kernel_rfl) (fun b11 => ?_)
  refine OPS.nil ?_
  refine thn_n ?_
  refine WP.seq ?_
  refine WP.seq ?_
  refine WP.region _ rfl (by kernel_rfl) ?_
  refine OPS.batch 1 {} [GConfig.val c] [1, 2, 3, 7, 8, 31] [.slice s1.a s1.n s1.c, .slice s2.a s2.n s2.c, .pointer (some ⟨g3, 0, none⟩), .int .i64 (qSize c), .int .i64 (qChk c), GConfig.val c] (.cons (show Ld Try.prog w8 23 ⟨g3, 0, none⟩ (GConfig.val c) from Ld.rowN (cs := [.int .i64 c.N, .int .i64 c.K, .int .i64 c.Delta]) hp10.get0 (by kernel_rfl)) .nil) (by kernel_rfl) (fun b12 => ?_)
  refine OPS.cons (opStep.call (some 32) [GConfig.val c] (by kernel_rfl) (t_fits c _) ?_)
  rintro _ w15 ⟨b18, rfl, hb19, hf16⟩
  refine ⟨_, rfl, ?_⟩
  have hp17 := hp10.step hf16
  refine OPS.batch 1 {} [] [1, 2, 3, 7, 8, 33] [.slice s1.a s1.n s1.c, .slice s2.a s2.n s2.c, .pointer (some ⟨g3, 0, none⟩), .int .i64 (qSize c), .int .i64 (qChk c), .bool (!b18)] .nil (by kernel_rfl) (fun b20 => ?_)
  refine OPS.nil ?_
  refine thn_n ?_
  refine WP.test (p := ¬ (1 ≤ c.K ∧ c.K ≤ c.N ∧ c.N ≤ 255 ∧ 0 ≤ c.Delta ∧ c.Delta ≤ 4611686018427387903)) rfl (Bp.not hb19) (fun h21 => ?_) (fun h21 => ?_)
  · refine WP.seq ?_
    refine WP.region _ rfl (by kernel_rfl) ?_
    refine OPS.batch 1 {} [GConfig.val c] [8, 35] [.int .i64 (qChk c), GConfig.val c] (.cons (show Ld Try.prog w15 23 ⟨g3, 0, none⟩ (GConfig.val c) from Ld.rowN (cs := [.int .i64 c.N, .int .i64 c.K, .int .i64 c.Delta]) hp17.get0 (by kernel_rfl)) .nil) (by kernel_rfl) (fun b22 => ?_)
    refine OPS.cons (opStep.call (some 36) [GConfig.val c] (by kernel_rfl) (q_New_no c _ h21) ?_)
    rintro _ w25 ⟨rfl, hf26⟩
    refine ⟨_, rfl, ?_⟩
    have hp27 := hp17.step hf26
    refine OPS.batch 5 {} [] [8, 9, 10] [.int .i64 (qChk c), .pointer none, .int .i64 40] .nil (by kernel_rfl) (fun b28 => ?_)
    refine OPS.nil ?_
    refine thn_n ?_
    refine WP.seq ?_
    refine WP.region _ rfl (by kernel_rfl) ?_
    refine OPS.batch 1 {} [] [8, 9, 10, 40] [.int .i64 (qChk c), .pointer none, .int .i64 40, .agg #[.int .i64 3, .int .i64 2, .int .i64 0]] .nil (by kernel_rfl) (fun b29 => ?_)
    refine OPS.cons (opStep.call (some 41) [.agg #[.int .i64 3, .int .i64 2, .int .i64 0]] (by kernel_rfl) (q_Size (⟨3, 2, 0⟩ : GConfig) _) ?_)
    rintro _ w32 ⟨rfl, hf33⟩
    refine ⟨_, rfl, ?_⟩
    have hp34 := hp27.step hf33
    refine OPS.batch 5 {} [] [8, 9, 10, 11, 12] [.int .i64 (qChk c), .pointer none, .int .i64 40, .int .i64 (qSize (⟨3, 2, 0⟩ : GConfig)), .int .i64 (qChk (⟨3, 2, 0⟩ : GConfig))] .nil (by kernel_rfl) (fun b35 => ?_)
    refine OPS.nil ?_
    refine thn_n ?_
    refine WP.cut (fun e50 w51 => ∃ (x48 : Bool), (True) ∧ Bp x48 (((qChk c) = 40) ∧ ((qSize (⟨3, 2, 0⟩ : GConfig)) = 3) ∧ ((qChk (⟨3, 2, 0⟩ : GConfig)) = 0)) ∧ List.map e50 [6] = [.bool x48] ∧ Hp w Non [Res.row g3 [.int .i64 c.N, .int .i64 c.K, .int .i64 c.Delta] 23] w51) ?_ ?_
    · refine WP.region _ rfl (by kernel_rfl) ?_
      refine OPS.batch 3 {} [] [9, 10, 11, 12, 46] [.pointer none, .int .i64 40, .int .i64 (qSize (⟨3, 2, 0⟩ : GConfig)), .int .i64 (qChk (⟨3, 2, 0⟩ : GConfig)), .bool (decide ((qChk c) = 40))] .nil (by kernel_rfl) (fun b37 => ?_)
      by_cases h38 : (qChk c) = 40
      · refine OPS.batch 0 {} [] [9, 10, 11, 12, 46] [.pointer none, .int .i64 40, .int .i64 (qSize (⟨3, 2, 0⟩ : GConfig)), .int .i64 (qChk (⟨3, 2, 0⟩ : GConfig)), .bool (decide ((qChk c) = 40))] .nil (by kernel_rfl) (fun b39 => ?_)
        refine OPS.re [.pointer none, .int .i64 40, .int .i64 (qSize (⟨3, 2, 0⟩ : GConfig)), .int .i64 (qChk (⟨3, 2, 0⟩ : GConfig)), .bool true] (by rw [show (decide ((qChk c) = 40)) = true from Bp.dec.tt h38]) ?_
        refine OPS.batch 12 { wraps := [49, 53, 57] } [] [12, 58] [.int .i64 (qChk (⟨3, 2, 0⟩ : GConfig)), .bool (decide ((qSize (⟨3, 2, 0⟩ : GConfig)) = 3))] .nil (by kernel_rfl) (fun b40 => ?_)
        by_cases h41 : (qSize (⟨3, 2, 0⟩ : GConfig)) = 3
        · refine OPS.batch 0 {} [] [12, 58] [.int .i64 (qChk (⟨3, 2, 0⟩ : GConfig)), .bool (decide ((qSize (⟨3, 2, 0⟩ : GConfig)) = 3))] .nil (by kernel_rfl) (fun b42 => ?_)
          refine OPS.re [.int .i64 (qChk (⟨3, 2, 0⟩ : GConfig)), .bool true] (by rw [show (decide ((qSize (⟨3, 2, 0⟩ : GConfig)) = 3)) = true from Bp.dec.tt h41]) ?_
          refine OPS.batch 4 { wraps := [61] } [] [6] [.bool (decide ((qChk (⟨3, 2, 0⟩ : GConfig)) = 0))] .nil (by kernel_rfl) (fun b43 => ?_)
          refine OPS.nil ?_
          refine thn_n ?_
          exact ⟨decide ((qChk (⟨3, 2, 0⟩ : GConfig)) = 0), trivial, Bp.of Bp.dec (by first | (simp only [h38, h41, iff_false, false_iff, iff_true, true_iff, Classical.not_not, and_true, true_and, and_false, false_and, or_true, true_or, or_false, false_or, not_true_eq_false, not_false_eq_true, and_self, or_self, iff_self]; done) | (simp [h38, h41]; done) | simp_all), by kernel_rfl, hp34⟩
        · refine OPS.batch 0 {} [] [12, 58] [.int .i64 (qChk (⟨3, 2, 0⟩ : GConfig)), .bool (decide ((qSize (⟨3, 2, 0⟩ : GConfig)) = 3))] .nil (by kernel_rfl) (fun b44 => ?_)
          refine OPS.re [.int .i64 (qChk (⟨3, 2, 0⟩ : GConfig)), .bool false] (by rw [show (decide ((qSize (⟨3, 2, 0⟩ : GConfig)) = 3)) = false from Bp.dec.ff h41]) ?_
          refine OPS.batch 4 { wraps := [61] } [] [6] [.bool false] .nil (by kernel_rfl) (fun b45 => ?_)
          refine OPS.nil ?_
          refine thn_n ?_
          exact ⟨false, trivial, Bp.of Bp.f (by first | (simp only [h38, h41, iff_false, false_iff, iff_true, true_iff, Classical.not_not, and_true, true_and, and_false, false_and, or_true, true_or, or_false, false_or, not_true_eq_false, not_false_eq_true, and_self, or_self, iff_self]; done) | (simp [h38, h41]; done) | simp_all), by kernel_rfl, hp34⟩
      · refine OPS.batch 0 {} [] [9, 10, 11, 12, 46] [.pointer none, .int .i64 40, .int .i64 (qSize (⟨3, 2, 0⟩ : GConfig)), .int .i64 (qChk (⟨3, 2, 0⟩ : GConfig)), .bool (decide ((qChk c) = 40))] .nil (by kernel_rfl) (fun b46 => ?_)
        refine OPS.re [.pointer none, .int .i64 40, .int .i64 (qSize (⟨3, 2, 0⟩ : GConfig)), .int .i64 (qChk (⟨3, 2, 0⟩ : GConfig)), .bool false] (by rw [show (decide ((qChk c) = 40)) = false from Bp.dec.ff h38]) ?_
        refine OPS.batch 16 { wraps := [49, 53, 57, 61] } [] [6] [.bool false] .nil (by kernel_rfl) (fun b47 => ?_)
        refine OPS.nil ?_
        refine thn_n ?_
        exact ⟨false, trivial, Bp.of Bp.f (by first | (simp only [h38, iff_false, false_iff, iff_true, true_iff, Classical.not_not, and_true, true_and, and_false, false_and, or_true, true_or, or_false, false_or, not_true_eq_false, not_false_eq_true, and_self, or_self, iff_self]; done) | (simp [h38]; done) | simp_all), by kernel_rfl, hp34⟩
    rintro e50 w51 ⟨x48, hd53, hb49, hE54, hp52⟩
    obtain ⟨b55, rfl⟩ := toMk hE54
    clear hE54
    clear hd53
    refine WP.ret ?_
    refine thn_r ?_
    refine bodyQ.of _ rfl [.bool x48] ⟨rfl, trivial⟩ ?_
    exact ⟨congrArg (fun b => Ending.returned (.bool b)) (Bp.tt hb49 ⟨by omega, by decide, by decide⟩), hp52.fr⟩
  · replace h21 := Classical.not_not.1 h21
    refine WP.skip ?_
    refine thn_n ?_
    refine WP.seq ?_
    refine WP.region _ rfl (by kernel_rfl) ?_
    refine OPS.batch 1 {} [GConfig.val c] [1, 2, 3, 7, 8, 63] [.slice s1.a s1.n s1.c, .slice s2.a s2.n s2.c, .pointer (some ⟨g3, 0, none⟩), .int .i64 (qSize c), .int .i64 (qChk c), GConfig.val c] (.cons (show Ld Try.prog w15 23 ⟨g3, 0, none⟩ (GConfig.val c) from Ld.rowN (cs := [.int .i64 c.N, .int .i64 c.K, .int .i64 c.Delta]) hp17.get0 (by kernel_rfl)) .nil) (by kernel_rfl) (fun b56 => ?_)
    refine OPS.cons (opStep.call (some 64) [GConfig.val c] (by kernel_rfl) (q_Down c _) ?_)
    rintro _ w59 ⟨rfl, hf60⟩
    refine ⟨_, rfl, ?_⟩
    have hp61 := hp17.step hf60
    refine OPS.batch 5 {} [] [1, 2, 3, 7, 8, 13, 14] [.slice s1.a s1.n s1.c, .slice s2.a s2.n s2.c, .pointer (some ⟨g3, 0, none⟩), .int .i64 (qSize c), .int .i64 (qChk c), .int .i64 (qDown c), .int .i64 (qChk c)] .nil (by kernel_rfl) (fun b62 => ?_)
    refine OPS.nil ?_
    refine thn_n ?_
    refine WP.seq ?_
    refine WP.cut (fun e93 w94 => ∃ (x91 : Bool), (True) ∧ Bp x91 (((¬ ((qChk c) = 0))) ∨ (((qChk c) = 0) ∧ (¬ ((qChk c) = 0))) ∨ (((qChk c) = 0) ∧ ((qChk c) = 0) ∧ (¬ ((qSize c) = (qSize c)))) ∨ (((qChk c) = 0) ∧ ((qChk c) = 0) ∧ ((qSize c) = (qSize c)) ∧ ((c.N - (qDown c)) < (qSize c))) ∨ (((qChk c) = 0) ∧ ((qChk c) = 0) ∧ ((qSize c) = (qSize c)) ∧ (¬ ((c.N - (qDown c)) < (qSize c))) ∧ ((qSize c) ≤ ((c.N - (qDown c)) - 1)))) ∧ List.map e93 [1, 2, 3, 7, 95] = [.slice s1.a s1.n s1.c, .slice s2.a s2.n s2.c, .pointer (some ⟨g3, 0, none⟩), .int .i64 (qSize c), .bool x91] ∧ Hp w Non [Res.row g3 [.int .i64 c.N, .int .i64 c.K, .int .i64 c.Delta] 23] w94) ?_ ?_
    · refine WP.region _ rfl (by kernel_rfl) ?_
      refine OPS.batch 3 {} [] [1, 2, 3, 7, 13, 14, 69] [.slice s1.a s1.n s1.c, .slice s2.a s2.n s2.c, .pointer (some ⟨g3, 0, none⟩), .int .i64 (qSize c), .int .i64 (qDown c), .int .i64 (qChk c), .bool (decide (¬ ((qChk c) = 0)))] .nil (by kernel_rfl) (fun b64 => ?_)
      by_cases h65 : (qChk c) = 0
      · refine OPS.batch 0 {} [] [1, 2, 3, 7, 13, 14, 69] [.slice s1.a s1.n s1.c, .slice s2.a s2.n s2.c, .pointer (some ⟨g3, 0, none⟩), .int .i64 (qSize c), .int .i64 (qDown c), .int .i64 (qChk c), .bool (decide (¬ ((qChk c) = 0)))] .nil (by kernel_rfl) (fun b68 => ?_)
        refine OPS.re [.slice s1.a s1.n s1.c, .slice s2.a s2.n s2.c, .pointer (some ⟨g3, 0, none⟩), .int .i64 (qSize c), .int .i64 (qDown c), .int .i64 (qChk c), .bool false] (by rw [show (decide (¬ ((qChk c) = 0))) = false from Bp.dec.ff (fun k => k h65)]) ?_
        refine OPS.batch 4 { wraps := [72] } [] [1, 2, 3, 7, 13, 73] [.slice s1.a s1.n s1.c, .slice s2.a s2.n s2.c, .pointer (some ⟨g3, 0, none⟩), .int .i64 (qSize c), .int .i64 (qDown c), .bool (decide (¬ ((qChk c) = 0)))] .nil (by kernel_rfl) (fun b69 => ?_)
        by_cases h70 : (qChk c) = 0
        · refine OPS.batch 0 {} [] [1, 2, 3, 7, 13, 73] [.slice s1.a s1.n s1.c, .slice s2.a s2.n s2.c, .pointer (some ⟨g3, 0, none⟩), .int .i64 (qSize c), .int .i64 (qDown c), .bool (decide (¬ ((qChk c) = 0)))] .nil (by kernel_rfl) (fun b73 => ?_)
          refine OPS.re [.slice s1.a s1.n s1.c, .slice s2.a s2.n s2.c, .pointer (some ⟨g3, 0, none⟩), .int .i64 (qSize c), .int .i64 (qDown c), .bool false] (by rw [show (decide (¬ ((qChk c) = 0))) = false from Bp.dec.ff (fun k => k h70)]) ?_
          refine OPS.batch 2 {} [GConfig.val c] [1, 2, 3, 7, 13, 73, 74, 75] [.slice s1.a s1.n s1.c, .slice s2.a s2.n s2.c, .pointer (some ⟨g3, 0, none⟩), .int .i64 (qSize c), .int .i64 (qDown c), .bool false, .int .i64 (qSize c), GConfig.val c] (.cons (show Ld Try.prog w59 23 ⟨g3, 0, none⟩ (GConfig.val c) from Ld.rowN (cs := [.int .i64 c.N, .int .i64 c.K, .int .i64 c.Delta]) hp61.get0 (by kernel_rfl)) .nil) (by kernel_rfl) (fun b74 => ?_)
          refine OPS.want (by kernel_rfl) ?_
          refine OPS.cons (opStep.call (some 76) [GConfig.val c] (by kernel_rfl) (t_quorumOf c _ (show okCfg c from h21)) ?_)
          rintro _ w77 ⟨rfl, hf78⟩
          refine ⟨_, rfl, ?_⟩
          have hp79 := hp61.step hf78
          refine OPS.batch 3 { wraps := [78] } [] [1, 2, 3, 7, 13, 79] [.slice s1.a s1.n s1.c, .slice s2.a s2.n s2.c, .pointer (some ⟨g3, 0, none⟩), .int .i64 (qSize c), .int .i64 (qDown c), .bool (decide (¬ ((qSize c) = (qSize c))))] .nil (by kernel_rfl) (fun b80 => ?_)
          by_cases h81 : (qSize c) = (qSize c)
          · refine OPS.batch 0 {} [] [1, 2, 3, 7, 13, 79] [.slice s1.a s1.n s1.c, .slice s2.a s2.n s2.c, .pointer (some ⟨g3, 0, none⟩), .int .i64 (qSize c), .int .i64 (qDown c), .bool (decide (¬ ((qSize c) = (qSize c))))] .nil (by kernel_rfl) (fun b84 => ?_)
            refine OPS.re [.slice s1.a s1.n s1.c, .slice s2.a s2.n s2.c, .pointer (some ⟨g3, 0, none⟩), .int .i64 (qSize c), .int .i64 (qDown c), .bool false] (by rw [show (decide (¬ ((qSize c) = (qSize c)))) = false from Bp.dec.ff (fun k => k h81)]) ?_
            refine OPS.batch 8 { wraps := [86] } [.int .i64 c.N] [1, 2, 3, 7, 13, 87] [.slice s1.a s1.n s1.c, .slice s2.a s2.n s2.c, .pointer (some ⟨g3, 0, none⟩), .int .i64 (qSize c), .int .i64 (qDown c), .bool (decide ((c.N - (qDown c)) < (qSize c)))] (.cons (Ld.row1 (P := Try.prog) (t := 3) (o := 0) (v := .int .i64 c.N) hp79.get0 (by kernel_rfl)) (.cons (show Rng .i64 (c.N - (qDown c)) from Rng.i64 (by omega)) .nil)) (by kernel_rfl) (fun b85 => ?_)
            by_cases h86 : (c.N - (qDown c)) < (qSize c)
            · refine OPS.batch 0 {} [] [1, 2, 3, 7, 13, 87] [.slice s1.a s1.n s1.c, .slice s2.a s2.n s2.c, .pointer (some ⟨g3, 0, none⟩), .int .i64 (qSize c), .int .i64 (qDown c), .bool (decide ((c.N - (qDown c)) < (qSize c)))] .nil (by kernel_rfl) (fun b87 => ?_)
              refine OPS.re [.slice s1.a s1.n s1.c, .slice s2.a s2.n s2.c, .pointer (some ⟨g3, 0, none⟩), .int .i64 (qSize c), .int .i64 (qDown c), .bool true] (by rw [show (decide ((c.N - (qDown c)) < (qSize c))) = true from Bp.dec.tt h86]) ?_
              refine OPS.batch 8 { wraps := [95] } [] [1, 2, 3, 7, 95] [.slice s1.a s1.n s1.c, .slice s2.a s2.n s2.c, .pointer (some ⟨g3, 0, none⟩), .int .i64 (qSize c), .bool true] .nil (by kernel_rfl) (fun b88 => ?_)
              refine OPS.nil ?_
              refine thn_n ?_
              exact ⟨true, trivial, Bp.of Bp.t (by first | (simp only [h65, h70, h81, h86, iff_false, false_iff, iff_true, true_iff, Classical.not_not, and_true, true_and, and_false, false_and, or_true, true_or, or_false, false_or, not_true_eq_false, not_false_eq_true, and_self, or_self, iff_self]; done) | (simp [h65, h70, h81, h86]; done) | simp_all), by kernel_rfl, hp79⟩
            · refine OPS.batch 0 {} [] [1, 2, 3, 7, 13, 87] [.slice s1.a s1.n s1.c, .slice s2.a s2.n s2.c, .pointer (some ⟨g3, 0, none⟩), .int .i64 (qSize c), .int .i64 (qDown c), .bool (decide ((c.N - (qDown c)) < (qSize c)))] .nil (by kernel_rfl) (fun b89 => ?_)
              refine OPS.re [.slice s1.a s1.n s1.c, .slice s2.a s2.n s2.c, .pointer (some ⟨g3, 0, none⟩), .int .i64 (qSize c), .int .i64 (qDown c), .bool false] (by rw [show (decide ((c.N - (qDown c)) < (qSize c))) = false from Bp.dec.ff h86]) ?_
              refine OPS.batch 8 { wraps := [95] } [.int .i64 c.N] [1, 2, 3, 7, 95] [.slice s1.a s1.n s1.c, .slice s2.a s2.n s2.c, .pointer (some ⟨g3, 0, none⟩), .int .i64 (qSize c), .bool (decide ((qSize c) ≤ ((c.N - (qDown c)) - 1)))] (.cons (Ld.row1 (P := Try.prog) (t := 3) (o := 0) (v := .int .i64 c.N) hp79.get0 (by kernel_rfl)) (.cons (show Rng .i64 (c.N - (qDown c)) from Rng.i64 (by omega)) (.cons (show Rng .i64 ((c.N - (qDown c)) - 1) from Rng.i64 (by omega)) .nil))) (by kernel_rfl) (fun b90 => ?_)
              refine OPS.nil ?_
              refine thn_n ?_
              exact ⟨decide ((qSize c) ≤ ((c.N - (qDown c)) - 1)), trivial, Bp.of Bp.dec (by first | (simp only [h65, h70, h81, h86, iff_false, false_iff, iff_true, true_iff, Classical.not_not, and_true, true_and, and_false, false_and, or_true, true_or, or_false, false_or, not_true_eq_false, not_false_eq_true, and_self, or_self, iff_self]; done) | (simp [h65, h70, h81, h86]; done) | simp_all), by kernel_rfl, hp79⟩
          · refine OPS.batch 0 {} [] [1, 2, 3, 7, 13, 79] [.slice s1.a s1.n s1.c, .slice s2.a s2.n s2.c, .pointer (some ⟨g3, 0, none⟩), .int .i64 (qSize c), .int .i64 (qDown c), .bool (decide (¬ ((qSize c) = (qSize c))))] .nil (by kernel_rfl) (fun b82 => ?_)
            refine OPS.re [.slice s1.a s1.n s1.c, .slice s2.a s2.n s2.c, .pointer (some ⟨g3, 0, none⟩), .int .i64 (qSize c), .int .i64 (qDown c), .bool true] (by rw [show (decide (¬ ((qSize c) = (qSize c)))) = true from Bp.dec.tt h81]) ?_
            refine OPS.batch 16 { wraps := [86, 95] } [] [1, 2, 3, 7, 95] [.slice s1.a s1.n s1.c, .slice s2.a s2.n s2.c, .pointer (some ⟨g3, 0, none⟩), .int .i64 (qSize c), .bool true] .nil (by kernel_rfl) (fun b83 => ?_)
            refine OPS.nil ?_
            refine thn_n ?_
            exact ⟨true, trivial, Bp.of Bp.t (by first | (simp only [h65, h70, h81, iff_false, false_iff, iff_true, true_iff, Classical.not_not, and_true, true_and, and_false, false_and, or_true, true_or, or_false, false_or, not_true_eq_false, not_false_eq_true, and_self, or_self, iff_self]; done) | (simp [h65, h70, h81]; done) | simp_all), by kernel_rfl, hp79⟩
        · refine OPS.batch 0 {} [] [1, 2, 3, 7, 13, 73] [.slice s1.a s1.n s1.c, .slice s2.a s2.n s2.c, .pointer (some ⟨g3, 0, none⟩), .int .i64 (qSize c), .int .i64 (qDown c), .bool (decide (¬ ((qChk c) = 0)))] .nil (by kernel_rfl) (fun b71 => ?_)
          refine OPS.re [.slice s1.a s1.n s1.c, .slice s2.a s2.n s2.c, .pointer (some ⟨g3, 0, none⟩), .int .i64 (qSize c), .int .i64 (qDown c), .bool true] (by rw [show (decide (¬ ((qChk c) = 0))) = true from Bp.dec.tt h70]) ?_
          refine OPS.batch 22 { wraps := [78, 86, 95] } [] [1, 2, 3, 7, 95] [.slice s1.a s1.n s1.c, .slice s2.a s2.n s2.c, .pointer (some ⟨g3, 0, none⟩), .int .i64 (qSize c), .bool true] .nil (by kernel_rfl) (fun b72 => ?_)
          refine OPS.nil ?_
          refine thn_n ?_
          exact ⟨true, trivial, Bp.of Bp.t (by first | (simp only [h65, h70, iff_false, false_iff, iff_true, true_iff, Classical.not_not, and_true, true_and, and_false, false_and, or_true, true_or, or_false, false_or, not_true_eq_false, not_false_eq_true, and_self, or_self, iff_self]; done) | (simp [h65, h70]; done) | simp_all), by kernel_rfl, hp61⟩
      · refine OPS.batch 0 {} [] [1, 2, 3, 7, 13, 14, 69] [.slice s1.a s1.n s1.c, .slice s2.a s2.n s2.c, .pointer (some ⟨g3, 0, none⟩), .int .i64 (qSize c), .int .i64 (qDown c), .int .i64 (qChk c), .bool (decide (¬ ((qChk c) = 0)))] .nil (by kernel_rfl) (fun b66 => ?_)
        refine OPS.re [.slice s1.a s1.n s1.c, .slice s2.a s2.n s2.c, .pointer (some ⟨g3, 0, none⟩), .int .i64 (qSize c), .int .i64 (qDown c), .int .i64 (qChk c), .bool true] (by rw [show (decide (¬ ((qChk c) = 0))) = true from Bp.dec.tt h65]) ?_
        refine OPS.batch 26 { wraps := [72, 78, 86, 95] } [] [1, 2, 3, 7, 95] [.slice s1.a s1.n s1.c, .slice s2.a s2.n s2.c, .pointer (some ⟨g3, 0, none⟩), .int .i64 (qSize c), .bool true] .nil (by kernel_rfl) (fun b67 => ?_)
        refine OPS.nil ?_
        refine thn_n ?_
        exact ⟨true, trivial, Bp.of Bp.t (by first | (simp only [h65, iff_false, false_iff, iff_true, true_iff, Classical.not_not, and_true, true_and, and_false, false_and, or_true, true_or, or_false, false_or, not_true_eq_false, not_false_eq_true, and_self, or_self, iff_self]; done) | (simp [h65]; done) | simp_all), by kernel_rfl, hp61⟩
    rintro e93 w94 ⟨x91, hd96, hb92, hE97, hp95⟩
    obtain ⟨b98, rfl⟩ := toMk hE97
    clear hE97
    clear hd96
    refine WP.test (p := ((¬ ((qChk c) = 0))) ∨ (((qChk c) = 0) ∧ (¬ ((qChk c) = 0))) ∨ (((qChk c) = 0) ∧ ((qChk c) = 0) ∧ (¬ ((qSize c) = (qSize c)))) ∨ (((qChk c) = 0) ∧ ((qChk c) = 0) ∧ ((qSize c) = (qSize c)) ∧ ((c.N - (qDown c)) < (qSize c))) ∨ (((qChk c) = 0) ∧ ((qChk c) = 0) ∧ ((qSize c) = (qSize c)) ∧ (¬ ((c.N - (qDown c)) < (qSize c))) ∧ ((qSize c) ≤ ((c.N - (qDown c)) - 1)))) rfl hb92 (fun h99 => ?_) (fun h99 => ?_)
    · refine WP.seq ?_
      refine WP.pure {} [] [6] [.bool false] .nil (by kernel_rfl) (fun b100 => ?_)
      refine thn_n ?_
      refine WP.ret ?_
      refine thn_r ?_
      refine bodyQ.of _ rfl [.bool false] ⟨rfl, trivial⟩ ?_
      exfalso
      omega
    · refine WP.skip ?_
      refine thn_n ?_
      refine WP.seq ?_
      refine WP.region _ rfl (by kernel_rfl) ?_
      refine OPS.batch 1 {} [GConfig.val c] [1, 2, 3, 7, 97] [.slice s1.a s1.n s1.c, .slice s2.a s2.n s2.c, .pointer (some ⟨g3, 0, none⟩), .int .i64 (qSize c), GConfig.val c] (.cons (show Ld Try.prog w94 23 ⟨g3, 0, none⟩ (GConfig.val c) from Ld.rowN (cs := [.int .i64 c.N, .int .i64 c.K, .int .i64 c.Delta]) hp95.get0 (by kernel_rfl)) .nil) (by kernel_rfl) (fun b101 => ?_)
      refine OPS.cons (opStep.call (some 98) [GConfig.val c] (by kernel_rfl) (q_New c _ (show okCfg c from h21)) ?_)
      rintro _ w104 ⟨g107, rfl, hp106⟩
      refine ⟨_, rfl, ?_⟩
      have hp105 := hp95.made hp106
      refine OPS.batch 5 {} [] [1, 2, 3, 7, 15, 16] [.slice s1.a s1.n s1.c, .slice s2.a s2.n s2.c, .pointer (some ⟨g3, 0, none⟩), .int .i64 (qSize c), .pointer (some ⟨g107, 0, none⟩), .int .i64 0] .nil (by kernel_rfl) (fun b108 => ?_)
      refine OPS.nil ?_
      refine thn_n ?_
      refine WP.seq ?_
      refine WP.region _ rfl (by kernel_rfl) ?_
      refine OPS.batch 1 {} [GConfig.val c] [1, 2, 3, 7, 15, 16, 102] [.slice s1.a s1.n s1.c, .slice s2.a s2.n s2.c, .pointer (some ⟨g3, 0, none⟩), .int .i64 (qSize c), .pointer (some ⟨g107, 0, none⟩), .int .i64 0, GConfig.val c] (.cons (show Ld Try.prog w104 23 ⟨g3, 0, none⟩ (GConfig.val c) from Ld.rowN (cs := [.int .i64 c.N, .int .i64 c.K, .int .i64 c.Delta]) hp105.get1 (by kernel_rfl)) .nil) (by kernel_rfl) (fun b109 => ?_)
      refine OPS.cons (opStep.call (some 103) [GConfig.val c] (by kernel_rfl) (q_New c _ (show okCfg c from h21)) ?_)
      rintro _ w112 ⟨g115, rfl, hp114⟩
      refine ⟨_, rfl, ?_⟩
      have hp113 := hp105.made hp114
      refine OPS.batch 5 {} [] [1, 2, 3, 7, 15, 16, 17, 18] [.slice s1.a s1.n s1.c, .slice s2.a s2.n s2.c, .pointer (some ⟨g3, 0, none⟩), .int .i64 (qSize c), .pointer (some ⟨g107, 0, none⟩), .int .i64 0, .pointer (some ⟨g115, 0, none⟩), .int .i64 0] .nil (by kernel_rfl) (fun b116 => ?_)
      refine OPS.nil ?_
      refine thn_n ?_
      refine WP.seq ?_
      refine WP.seq ?_
      refine WP.pure { wraps := [111, 115, 119] } [] [1, 2, 3, 7, 15, 17, 119] [.slice s1.a s1.n s1.c, .slice s2.a s2.n s2.c, .pointer (some ⟨g3, 0, none⟩), .int .i64 (qSize c), .pointer (some ⟨g107, 0, none⟩), .pointer (some ⟨g115, 0, none⟩), .bool false] .nil (by kernel_rfl) (fun b117 => ?_)
      refine thn_n ?_
      refine WP.condF rfl ?_
      refine WP.skip ?_
      refine thn_n ?_
      refine WP.seq ?_
      have hp118 := hp113.drew
      refine WP.held (fun w119 => Ld Try.prog w119 23 ⟨g3, 0, none⟩ (GConfig.val c) ∧ True) [] [(0, true), (1, true), (2, true), (4, true), (5, true), (6, true), (3, false), (7, false), (8, true), (9, true)] (np_thn np_body) (by kernel_rfl) ?_
      refine HOPS.take 6 {} [GConfig.val c, GConfig.val c] [1, 2, 3, 7, 15, 17, 120, 121, 122, 124, 125, 126] [.slice s1.a s1.n s1.c, .slice s2.a s2.n s2.c, .pointer (some ⟨g3, 0, none⟩), .int .i64 (qSize c), .pointer (some ⟨g107, 0, none⟩), .pointer (some ⟨g115, 0, none⟩), .pointer (some ⟨g107, 0, none⟩), GConfig.val c, .slice s1.a s1.n s1.c, .pointer (some ⟨g115, 0, none⟩), GConfig.val c, .slice s2.a s2.n s2.c] (by kernel_rfl) ⟨(show Ld Try.prog w112.drew 23 ⟨g3, 0, none⟩ (GConfig.val c) from (show Ld Try.prog w112.drew 23 ⟨g3, 0, none⟩ (GConfig.val c) from Ld.rowN (cs := [.int .i64 c.N, .int .i64 c.K, .int .i64 c.Delta]) hp118.get2 (by kernel_rfl))), trivial⟩ (fun w120 hS121 => QB.mk (.cons (hS121.1) (.cons (hS121.1) .nil)) (by kernel_rfl)) (fun b122 => ?_)
      have hp125 := hp118.pull1
      refine HOPS.eff _ rfl (opStep.call (some 123) [.pointer (some ⟨g107, 0, none⟩), GConfig.val c, .slice s1.a s1.n s1.c] (by kernel_rfl) (t_fill _ _ _ c _ (show okCfg c from h21) s1 l1 o1.rd (by omega) (by omega) (by omega) hp125) ?_)
      rintro _ w126 ⟨rfl, hp127⟩
      refine ⟨_, rfl, ?_⟩
      have sm1 := addL_small c l1
      have ct1 := cntB_le (addL c l1) 256
      refine ⟨.inr ⟨(show Ld Try.prog w126 23 ⟨g3, 0, none⟩ (GConfig.val c) from (show Ld Try.prog w126 23 ⟨g3, 0, none⟩ (GConfig.val c) from Ld.rowN (cs := [.int .i64 c.N, .int .i64 c.K, .int .i64 c.Delta]) hp127.get2 (by kernel_rfl))), trivial⟩, ?_⟩
      have hp130 := hp127.pull1
      refine HOPS.eff _ rfl (opStep.call (some 127) [.pointer (some ⟨g115, 0, none⟩), GConfig.val c, .slice s2.a s2.n s2.c] (by kernel_rfl) (t_fill _ _ _ c _ (show okCfg c from h21) s2 l2 o2.rd (by omega) (by omega) (by omega) hp130) ?_)
      rintro _ w131 ⟨rfl, hp132⟩
      refine ⟨_, rfl, ?_⟩
      have sm2 := addL_small c l2
      have ct2 := cntB_le (addL c l2) 256
      refine ⟨.inr ⟨(show Ld Try.prog w131 23 ⟨g3, 0, none⟩ (GConfig.val c) from (show Ld Try.prog w131 23 ⟨g3, 0, none⟩ (GConfig.val c) from Ld.rowN (cs := [.int .i64 c.N, .int .i64 c.K, .int .i64 c.Delta]) hp132.get2 (by kernel_rfl))), trivial⟩, ?_⟩
      refine HOPS.take 2 {} [] [1, 2, 3, 7, 15, 17, 19, 20] [.slice s1.a s1.n s1.c, .slice s2.a s2.n s2.c, .pointer (some ⟨g3, 0, none⟩), .int .i64 (qSize c), .pointer (some ⟨g107, 0, none⟩), .pointer (some ⟨g115, 0, none⟩), .int .i64 ((cntB (addL c l1) 256 : Nat) : Int), .int .i64 ((cntB (addL c l2) 256 : Nat) : Int)] (by kernel_rfl) ⟨(show Ld Try.prog w131 23 ⟨g3, 0, none⟩ (GConfig.val c) from (show Ld Try.prog w131 23 ⟨g3, 0, none⟩ (GConfig.val c) from Ld.rowN (cs := [.int .i64 c.N, .int .i64 c.K, .int .i64 c.Delta]) hp132.get2 (by kernel_rfl))), trivial⟩ (fun w133 hS134 => QB.mk .nil (by kernel_rfl)) (fun b135 => ?_)
      refine HOPS.nil ?_
      refine thn_n ?_
      refine WP.seq ?_
      refine WP.cut (fun e326 w327 => ∃ (x324 : Bool), (True) ∧ Bp x324 (((((cntB (addL c l1) 256 : Nat) : Int) < 0)) ∨ ((¬ (((cntB (addL c l1) 256 : Nat) : Int) < 0)) ∧ (((cntB (addL c l2) 256 : Nat) : Int) < 0)) ∨ ((((cntB (addL c l1) 256 : Nat) : Int) < 0)) ∨ ((¬ (((cntB (addL c l1) 256 : Nat) : Int) < 0)) ∧ (((cntB (addL c l2) 256 : Nat) : Int) < 0)) ∨ ((¬ (((cntB (addL c l1) 256 : Nat) : Int) < 0)) ∧ (¬ (((cntB (addL c l2) 256 : Nat) : Int) < 0)) ∧ (¬ (((cntB (addL c l1) 256 : Nat) : Int) = ((cntB (addL c l1) 256 : Nat) : Int)))) ∨ ((¬ (((cntB (addL c l1) 256 : Nat) : Int) < 0)) ∧ (¬ (((cntB (addL c l2) 256 : Nat) : Int) < 0)) ∧ (((cntB (addL c l1) 256 : Nat) : Int) = ((cntB (addL c l1) 256 : Nat) : Int)) ∧ (¬ (((cntB (addL c l2) 256 : Nat) : Int) = ((cntB (addL c l2) 256 : Nat) : Int)))) ∨ ((¬ (((cntB (addL c l1) 256 : Nat) : Int) < 0)) ∧ (¬ (((cntB (addL c l2) 256 : Nat) : Int) < 0)) ∧ (((cntB (addL c l1) 256 : Nat) : Int) = ((cntB (addL c l1) 256 : Nat) : Int)) ∧ (((cntB (addL c l2) 256 : Nat) : Int) = ((cntB (addL c l2) 256 : Nat) : Int)) ∧ (¬ (((qSize c ≤ ((cntB (addL c l1) 256 : Nat) : Int)) ↔ ((qSize c) ≤ ((cntB (addL c l1) 256 : Nat) : Int)))))) ∨ ((¬ (((cntB (addL c l1) 256 : Nat) : Int) < 0)) ∧ (¬ (((cntB (addL c l2) 256 : Nat) : Int) < 0)) ∧ (((cntB (addL c l1) 256 : Nat) : Int) = ((cntB (addL c l1) 256 : Nat) : Int)) ∧ (((cntB (addL c l2) 256 : Nat) : Int) = ((cntB (addL c l2) 256 : Nat) : Int)) ∧ ((qSize c ≤ ((cntB (addL c l1) 256 : Nat) : Int)) ↔ ((qSize c) ≤ ((cntB (addL c l1) 256 : Nat) : Int))) ∧ (¬ (((qSize c ≤ ((cntB (addL c l2) 256 : Nat) : Int)) ↔ ((qSize c) ≤ ((cntB (addL c l2) 256 : Nat) : Int)))))) ∨ ((¬ (((cntB (addL c l1) 256 : Nat) : Int) < 0)) ∧ (¬ (((cntB (addL c l2) 256 : Nat) : Int) < 0)) ∧ (((cntB (addL c l1) 256 : Nat) : Int) = ((cntB (addL c l1) 256 : Nat) : Int)) ∧ (((cntB (addL c l2) 256 : Nat) : Int) = ((cntB (addL c l2) 256 : Nat) : Int)) ∧ ((qSize c ≤ ((cntB (addL c l1) 256 : Nat) : Int)) ↔ ((qSize c) ≤ ((cntB (addL c l1) 256 : Nat) : Int))) ∧ ((qSize c ≤ ((cntB (addL c l2) 256 : Nat) : Int)) ↔ ((qSize c) ≤ ((cntB (addL c l2) 256 : Nat) : Int))) ∧ (¬ ((((sel (addL c l1) false (c.N).toNat).length : Nat) : Int) = (c.N - ((cntB (addL c l1) 256 : Nat) : Int)))))) ∧ List.map e326 [1, 2, 3, 15, 17, 171] = [.slice s1.a s1.n s1.c, .slice s2.a s2.n s2.c, .pointer (some ⟨g3, 0, none⟩), .pointer (some ⟨g107, 0, none⟩), .pointer (some ⟨g115, 0, none⟩), .bool x324] ∧ Hp w Non [Res.row g115 [.int .i64 c.N, .int .i64 c.K, .int .i64 c.Delta, .int .u64 ((wd (addL c l2) 0 : Nat) : Int), .int .u64 ((wd (addL c l2) 1 : Nat) : Int), .int .u64 ((wd (addL c l2) 2 : Nat) : Int), .int .u64 ((wd (addL c l2) 3 : Nat) : Int)] 89, Res.row g107 [.int .i64 c.N, .int .i64 c.K, .int .i64 c.Delta, .int .u64 ((wd (addL c l1) 0 : Nat) : Int), .int .u64 ((wd (addL c l1) 1 : Nat) : Int), .int .u64 ((wd (addL c l1) 2 : Nat) : Int), .int .u64 ((wd (addL c l1) 3 : Nat) : Int)] 89, Res.row g3 [.int .i64 c.N, .int .i64 c.K, .int .i64 c.Delta] 23] w327) ?_ ?_
      · have hp137 := hp132.drew
        refine WP.held (fun w138 => Ld Try.prog w138 3 ⟨g3, 0, none⟩ (.int .i64 c.N) ∧ True) [] [(0, true), (1, true), (2, true), (3, true), (4, true), (5, true), (6, true), (7, true), (9, true), (8, false), (10, true), (11, true), (12, true), (13, true), (15, true), (14, false), (16, true), (17, true), (18, true), (19, true), (21, true), (22, true), (23, true), (20, false), (24, true), (25, true), (26, true), (27, true), (29, true), (30, true), (31, true), (28, false), (32, true), (33, true), (34, true), (35, true), (38, true), (39, true), (40, true), (41, true), (36, false), (37, true), (42, true), (43, true)] (np_thn (np_thn np_body)) (by kernel_rfl) ?_
        refine HOPS.take 3 {} [] [1, 2, 3, 7, 15, 17, 19, 20, 130] [.slice s1.a s1.n s1.c, .slice s2.a s2.n s2.c, .pointer (some ⟨g3, 0, none⟩), .int .i64 (qSize c), .pointer (some ⟨g107, 0, none⟩), .pointer (some ⟨g115, 0, none⟩), .int .i64 ((cntB (addL c l1) 256 : Nat) : Int), .int .i64 ((cntB (addL c l2) 256 : Nat) : Int), .bool (decide (((cntB (addL c l1) 256 : Nat) : Int) < 0))] (by kernel_rfl) ⟨(show Ld Try.prog w131.drew 3 ⟨g3, 0, none⟩ (.int .i64 c.N) from (Ld.row1 (P := Try.prog) (t := 3) (o := 0) (v := .int .i64 c.N) hp137.get2 (by kernel_rfl))), trivial⟩ (fun w139 hS140 => QB.mk .nil (by kernel_rfl)) (fun b141 => ?_)
        by_cases h142 : ((cntB (addL c l1) 256 : Nat) : Int) < 0
        · refine HOPS.take 0 {} [] [1, 2, 3, 7, 15, 17, 19, 20, 130] [.slice s1.a s1.n s1.c, .slice s2.a s2.n s2.c, .pointer (some ⟨g3, 0, none⟩), .int .i64 (qSize c), .pointer (some ⟨g107, 0, none⟩), .pointer (some ⟨g115, 0, none⟩), .int .i64 ((cntB (addL c l1) 256 : Nat) : Int), .int .i64 ((cntB (addL c l2) 256 : Nat) : Int), .bool (decide (((cntB (addL c l1) 256 : Nat) : Int) < 0))] (by kernel_rfl) ⟨(show Ld Try.prog w131.drew 3 ⟨g3, 0, none⟩ (.int .i64 c.N) from (Ld.row1 (P := Try.prog) (t := 3) (o := 0) (v := .int .i64 c.N) hp137.get2 (by kernel_rfl))), trivial⟩ (fun _ _ => QB.mk .nil (by kernel_rfl)) (fun b143 => ?_)
          refine HOPS.re [.slice s1.a s1.n s1.c, .slice s2.a s2.n s2.c, .pointer (some ⟨g3, 0, none⟩), .int .i64 (qSize c), .pointer (some ⟨g107, 0, none⟩), .pointer (some ⟨g115, 0, none⟩), .int .i64 ((cntB (addL c l1) 256 : Nat) : Int), .int .i64 ((cntB (addL c l2) 256 : Nat) : Int), .bool true] (by rw [show (decide (((cntB (addL c l1) 256 : Nat) : Int) < 0)) = true from Bp.dec.tt h142]) ?_
          refine HOPS.take 6 { wraps := [133] } [] [1, 2, 3, 7, 15, 17, 19, 20, 134, 135, 137] [.slice s1.a s1.n s1.c, .slice s2.a s2.n s2.c, .pointer (some ⟨g3, 0, none⟩), .int .i64 (qSize c), .pointer (some ⟨g107, 0, none⟩), .pointer (some ⟨g115, 0, none⟩), .int .i64 ((cntB (addL c l1) 256 : Nat) : Int), .int .i64 ((cntB (addL c l2) 256 : Nat) : Int), .bool true, undef, undef] (by kernel_rfl) ⟨(show Ld Try.prog w131.drew 3 ⟨g3, 0, none⟩ (.int .i64 c.N) from (Ld.row1 (P := Try.prog) (t := 3) (o := 0) (v := .int .i64 c.N) hp137.get2 (by kernel_rfl))), trivial⟩ (fun w144 hS145 => QB.mk .nil (by kernel_rfl)) (fun b146 => ?_)
          refine HOPS.one _ rfl {} [] [1, 2, 3, 7, 15, 17, 19, 20, 134, 136, 137] [.slice s1.a s1.n s1.c, .slice s2.a s2.n s2.c, .pointer (some ⟨g3, 0, none⟩), .int .i64 (qSize c), .pointer (some ⟨g107, 0, none⟩), .pointer (some ⟨g115, 0, none⟩), .int .i64 ((cntB (addL c l1) 256 : Nat) : Int), .int .i64 ((cntB (addL c l2) 256 : Nat) : Int), .bool true, undef, undef] .nil (by kernel_rfl) ⟨(show Ld Try.prog w131.drew 3 ⟨g3, 0, none⟩ (.int .i64 c.N) from (Ld.row1 (P := Try.prog) (t := 3) (o := 0) (v := .int .i64 c.N) hp137.get2 (by kernel_rfl))), trivial⟩ (fun b147 => ?_)
          refine HOPS.take 5 { wraps := [139] } [] [1, 2, 3, 7, 15, 17, 19, 20, 140, 141, 143] [.slice s1.a s1.n s1.c, .slice s2.a s2.n s2.c, .pointer (some ⟨g3, 0, none⟩), .int .i64 (qSize c), .pointer (some ⟨g107, 0, none⟩), .pointer (some ⟨g115, 0, none⟩), .int .i64 ((cntB (addL c l1) 256 : Nat) : Int), .int .i64 ((cntB (addL c l2) 256 : Nat) : Int), .bool true, undef, undef] (by kernel_rfl) ⟨(show Ld Try.prog w131.drew 3 ⟨g3, 0, none⟩ (.int .i64 c.N) from (Ld.row1 (P := Try.prog) (t := 3) (o := 0) (v := .int .i64 c.N) hp137.get2 (by kernel_rfl))), trivial⟩ (fun w148 hS149 => QB.mk .nil (by kernel_rfl)) (fun b150 => ?_)
          refine HOPS.one _ rfl {} [] [1, 2, 3, 7, 15, 17, 19, 20, 140, 142, 143] [.slice s1.a s1.n s1.c, .slice s2.a s2.n s2.c, .pointer (some ⟨g3, 0, none⟩), .int .i64 (qSize c), .pointer (some ⟨g107, 0, none⟩), .pointer (some ⟨g115, 0, none⟩), .int .i64 ((cntB (addL c l1) 256 : Nat) : Int), .int .i64 ((cntB (addL c l2) 256 : Nat) : Int), .bool true, undef, undef] .nil (by kernel_rfl) ⟨(show Ld Try.prog w131.drew 3 ⟨g3, 0, none⟩ (.int .i64 c.N) from (Ld.row1 (P := Try.prog) (t := 3) (o := 0) (v := .int .i64 c.N) hp137.get2 (by kernel_rfl))), trivial⟩ (fun b151 => ?_)
          refine HOPS.take 7 { wraps := [145] } [] [1, 2, 3, 7, 15, 17, 19, 20, 146, 147, 151] [.slice s1.a s1.n s1.c, .slice s2.a s2.n s2.c, .pointer (some ⟨g3, 0, none⟩), .int .i64 (qSize c), .pointer (some ⟨g107, 0, none⟩), .pointer (some ⟨g115, 0, none⟩), .int .i64 ((cntB (addL c l1) 256 : Nat) : Int), .int .i64 ((cntB (addL c l2) 256 : Nat) : Int), .bool true, undef, undef] (by kernel_rfl) ⟨(show Ld Try.prog w131.drew 3 ⟨g3, 0, none⟩ (.int .i64 c.N) from (Ld.row1 (P := Try.prog) (t := 3) (o := 0) (v := .int .i64 c.N) hp137.get2 (by kernel_rfl))), trivial⟩ (fun w152 hS153 => QB.mk .nil (by kernel_rfl)) (fun b154 => ?_)
          refine HOPS.one _ rfl {} [] [1, 2, 3, 7, 15, 17, 19, 20, 146, 148, 151] [.slice s1.a s1.n s1.c, .slice s2.a s2.n s2.c, .pointer (some ⟨g3, 0, none⟩), .int .i64 (qSize c), .pointer (some ⟨g107, 0, none⟩), .pointer (some ⟨g115, 0, none⟩), .int .i64 ((cntB (addL c l1) 256 : Nat) : Int), .int .i64 ((cntB (addL c l2) 256 : Nat) : Int), .bool true, undef, undef] .nil (by kernel_rfl) ⟨(show Ld Try.prog w131.drew 3 ⟨g3, 0, none⟩ (.int .i64 c.N) from (Ld.row1 (P := Try.prog) (t := 3) (o := 0) (v := .int .i64 c.N) hp137.get2 (by kernel_rfl))), trivial⟩ (fun b155 => ?_)
          refine HOPS.take 7 { wraps := [153] } [] [1, 2, 3, 15, 17, 19, 154, 155, 159] [.slice s1.a s1.n s1.c, .slice s2.a s2.n s2.c, .pointer (some ⟨g3, 0, none⟩), .pointer (some ⟨g107, 0, none⟩), .pointer (some ⟨g115, 0, none⟩), .int .i64 ((cntB (addL c l1) 256 : Nat) : Int), .bool true, undef, undef] (by kernel_rfl) ⟨(show Ld Try.prog w131.drew 3 ⟨g3, 0, none⟩ (.int .i64 c.N) from (Ld.row1 (P := Try.prog) (t := 3) (o := 0) (v := .int .i64 c.N) hp137.get2 (by kernel_rfl))), trivial⟩ (fun w156 hS157 => QB.mk .nil (by kernel_rfl)) (fun b158 => ?_)
          refine HOPS.one _ rfl {} [] [1, 2, 3, 15, 17, 19, 154, 156, 159] [.slice s1.a s1.n s1.c, .slice s2.a s2.n s2.c, .pointer (some ⟨g3, 0, none⟩), .pointer (some ⟨g107, 0, none⟩), .pointer (some ⟨g115, 0, none⟩), .int .i64 ((cntB (addL c l1) 256 : Nat) : Int), .bool true, undef, undef] .nil (by kernel_rfl) ⟨(show Ld Try.prog w131.drew 3 ⟨g3, 0, none⟩ (.int .i64 c.N) from (Ld.row1 (P := Try.prog) (t := 3) (o := 0) (v := .int .i64 c.N) hp137.get2 (by kernel_rfl))), trivial⟩ (fun b159 => ?_)
          refine HOPS.take 8 { wraps := [161] } [] [1, 2, 3, 15, 17, 162, 163, 169] [.slice s1.a s1.n s1.c, .slice s2.a s2.n s2.c, .pointer (some ⟨g3, 0, none⟩), .pointer (some ⟨g107, 0, none⟩), .pointer (some ⟨g115, 0, none⟩), .bool true, undef, undef] (by kernel_rfl) ⟨(show Ld Try.prog w131.drew 3 ⟨g3, 0, none⟩ (.int .i64 c.N) from (Ld.row1 (P := Try.prog) (t := 3) (o := 0) (v := .int .i64 c.N) hp137.get2 (by kernel_rfl))), trivial⟩ (fun w160 hS161 => QB.mk .nil (by kernel_rfl)) (fun b162 => ?_)
          refine HOPS.one _ rfl {} [] [1, 2, 3, 15, 17, 162, 164, 169] [.slice s1.a s1.n s1.c, .slice s2.a s2.n s2.c, .pointer (some ⟨g3, 0, none⟩), .pointer (some ⟨g107, 0, none⟩), .pointer (some ⟨g115, 0, none⟩), .bool true, undef, undef] .nil (by kernel_rfl) ⟨(show Ld Try.prog w131.drew 3 ⟨g3, 0, none⟩ (.int .i64 c.N) from (Ld.row1 (P := Try.prog) (t := 3) (o := 0) (v := .int .i64 c.N) hp137.get2 (by kernel_rfl))), trivial⟩ (fun b163 => ?_)
          refine HOPS.take 3 { wraps := [171] } [] [1, 2, 3, 15, 17, 171] [.slice s1.a s1.n s1.c, .slice s2.a s2.n s2.c, .pointer (some ⟨g3, 0, none⟩), .pointer (some ⟨g107, 0, none⟩), .pointer (some ⟨g115, 0, none⟩), .bool true] (by kernel_rfl) ⟨(show Ld Try.prog w131.drew 3 ⟨g3, 0, none⟩ (.int .i64 c.N) from (Ld.row1 (P := Try.prog) (t := 3) (o := 0) (v := .int .i64 c.N) hp137.get2 (by kernel_rfl))), trivial⟩ (fun w164 hS165 => QB.mk .nil (by kernel_rfl)) (fun b166 => ?_)
          refine HOPS.nil ?_
          refine thn_n ?_
          exact ⟨true, trivial, Bp.of Bp.t (by first | (simp only [h142, iff_false, false_iff, iff_true, true_iff, Classical.not_not, and_true, true_and, and_false, false_and, or_true, true_or, or_false, false_or, not_true_eq_false, not_false_eq_true, and_self, or_self, iff_self]; done) | (simp [h142]; done) | simp_all), by kernel_rfl, hp137⟩
        · refine HOPS.take 0 {} [] [1, 2, 3, 7, 15, 17, 19, 20, 130] [.slice s1.a s1.n s1.c, .slice s2.a s2.n s2.c, .pointer (some ⟨g3, 0, none⟩), .int .i64 (qSize c), .pointer (some ⟨g107, 0, none⟩), .pointer (some ⟨g115, 0, none⟩), .int .i64 ((cntB (addL c l1) 256 : Nat) : Int), .int .i64 ((cntB (addL c l2) 256 : Nat) : Int), .bool (decide (((cntB (addL c l1) 256 : Nat) : Int) < 0))] (by kernel_rfl) ⟨(show Ld Try.prog w131.drew 3 ⟨g3, 0, none⟩ (.int .i64 c.N) from (Ld.row1 (P := Try.prog) (t := 3) (o := 0) (v := .int .i64 c.N) hp137.get2 (by kernel_rfl))), trivial⟩ (fun _ _ => QB.mk .nil (by kernel_rfl)) (fun b167 => ?_)
          refine HOPS.re [.slice s1.a s1.n s1.c, .slice s2.a s2.n s2.c, .pointer (some ⟨g3, 0, none⟩), .int .i64 (qSize c), .pointer (some ⟨g107, 0, none⟩), .pointer (some ⟨g115, 0, none⟩), .int .i64 ((cntB (addL c l1) 256 : Nat) : Int), .int .i64 ((cntB (addL c l2) 256 : Nat) : Int), .bool false] (by rw [show (decide (((cntB (addL c l1) 256 : Nat) : Int) < 0)) = false from Bp.dec.ff h142]) ?_
          refine HOPS.take 4 { wraps := [133] } [] [1, 2, 3, 7, 15, 17, 19, 20, 134] [.slice s1.a s1.n s1.c, .slice s2.a s2.n s2.c, .pointer (some ⟨g3, 0, none⟩), .int .i64 (qSize c), .pointer (some ⟨g107, 0, none⟩), .pointer (some ⟨g115, 0, none⟩), .int .i64 ((cntB (addL c l1) 256 : Nat) : Int), .int .i64 ((cntB (addL c l2) 256 : Nat) : Int), .bool (decide (((cntB (addL c l2) 256 : Nat) : Int) < 0))] (by kernel_rfl) ⟨(show Ld Try.prog w131.drew 3 ⟨g3, 0, none⟩ (.int .i64 c.N) from (Ld.row1 (P := Try.prog) (t := 3) (o := 0) (v := .int .i64 c.N) hp137.get2 (by kernel_rfl))), trivial⟩ (fun w168 hS169 => QB.mk .nil (by kernel_rfl)) (fun b170 => ?_)
          by_cases h171 : ((cntB (addL c l2) 256 : Nat) : Int) < 0
          · refine HOPS.take 0 {} [] [1, 2, 3, 7, 15, 17, 19, 20, 134] [.slice s1.a s1.n s1.c, .slice s2.a s2.n s2.c, .pointer (some ⟨g3, 0, none⟩), .int .i64 (qSize c), .pointer (some ⟨g107, 0, none⟩), .pointer (some ⟨g115, 0, none⟩), .int .i64 ((cntB (addL c l1) 256 : Nat) : Int), .int .i64 ((cntB (addL c l2) 256 : Nat) : Int), .bool (decide (((cntB (addL c l2) 256 : Nat) : Int) < 0))] (by kernel_rfl) ⟨(show Ld Try.prog w131.drew 3 ⟨g3, 0, none⟩ (.int .i64 c.N) from (Ld.row1 (P := Try.prog) (t := 3) (o := 0) (v := .int .i64 c.N) hp137.get2 (by kernel_rfl))), trivial⟩ (fun _ _ => QB.mk .nil (by kernel_rfl)) (fun b172 => ?_)
            refine HOPS.re [.slice s1.a s1.n s1.c, .slice s2.a s2.n s2.c, .pointer (some ⟨g3, 0, none⟩), .int .i64 (qSize c), .pointer (some ⟨g107, 0, none⟩), .pointer (some ⟨g115, 0, none⟩), .int .i64 ((cntB (addL c l1) 256 : Nat) : Int), .int .i64 ((cntB (addL c l2) 256 : Nat) : Int), .bool true] (by rw [show (decide (((cntB (addL c l2) 256 : Nat) : Int) < 0)) = true from Bp.dec.tt h171]) ?_
            refine HOPS.take 2 {} [] [1, 2, 3, 7, 15, 17, 19, 20, 134, 135, 137] [.slice s1.a s1.n s1.c, .slice s2.a s2.n s2.c, .pointer (some ⟨g3, 0, none⟩), .int .i64 (qSize c), .pointer (some ⟨g107, 0, none⟩), .pointer (some ⟨g115, 0, none⟩), .int .i64 ((cntB (addL c l1) 256 : Nat) : Int), .int .i64 ((cntB (addL c l2) 256 : Nat) : Int), .bool true, undef, undef] (by kernel_rfl) ⟨(show Ld Try.prog w131.drew 3 ⟨g3, 0, none⟩ (.int .i64 c.N) from (Ld.row1 (P := Try.prog) (t := 3) (o := 0) (v := .int .i64 c.N) hp137.get2 (by kernel_rfl))), trivial⟩ (fun w173 hS174 => QB.mk .nil (by kernel_rfl)) (fun b175 => ?_)
            refine HOPS.one _ rfl {} [] [1, 2, 3, 7, 15, 17, 19, 20, 134, 136, 137] [.slice s1.a s1.n s1.c, .slice s2.a s2.n s2.c, .pointer (some ⟨g3, 0, none⟩), .int .i64 (qSize c), .pointer (some ⟨g107, 0, none⟩), .pointer (some ⟨g115, 0, none⟩), .int .i64 ((cntB (addL c l1) 256 : Nat) : Int), .int .i64 ((cntB (addL c l2) 256 : Nat) : Int), .bool true, undef, undef] .nil (by kernel_rfl) ⟨(show Ld Try.prog w131.drew 3 ⟨g3, 0, none⟩ (.int .i64 c.N) from (Ld.row1 (P := Try.prog) (t := 3) (o := 0) (v := .int .i64 c.N) hp137.get2 (by kernel_rfl))), trivial⟩ (fun b176 => ?_)
            refine HOPS.take 5 { wraps := [139] } [] [1, 2, 3, 7, 15, 17, 19, 20, 140, 141, 143] [.slice s1.a s1.n s1.c, .slice s2.a s2.n s2.c, .pointer (some ⟨g3, 0, none⟩), .int .i64 (qSize c), .pointer (some ⟨g107, 0, none⟩), .pointer (some ⟨g115, 0, none⟩), .int .i64 ((cntB (addL c l1) 256 : Nat) : Int), .int .i64 ((cntB (addL c l2) 256 : Nat) : Int), .bool true, undef, undef] (by kernel_rfl) ⟨(show Ld Try.prog w131.drew 3 ⟨g3, 0, none⟩ (.int .i64 c.N) from (Ld.row1 (P := Try.prog) (t := 3) (o := 0) (v := .int .i64 c.N) hp137.get2 (by kernel_rfl))), trivial⟩ (fun w177 hS178 => QB.mk .nil (by kernel_rfl)) (fun b179 => ?_)
            refine HOPS.one _ rfl {} [] [1, 2, 3, 7, 15, 17, 19, 20, 140, 142, 143] [.slice s1.a s1.n s1.c, .slice s2.a s2.n s2.c, .pointer (some ⟨g3, 0, none⟩), .int .i64 (qSize c), .pointer (some ⟨g107, 0, none⟩), .pointer (some ⟨g115, 0, none⟩), .int .i64 ((cntB (addL c l1) 256 : Nat) : Int), .int .i64 ((cntB (addL c l2) 256 : Nat) : Int), .bool true, undef, undef] .nil (by kernel_rfl) ⟨(show Ld Try.prog w131.drew 3 ⟨g3, 0, none⟩ (.int .i64 c.N) from (Ld.row1 (P := Try.prog) (t := 3) (o := 0) (v := .int .i64 c.N) hp137.get2 (by kernel_rfl))), trivial⟩ (fun b180 => ?_)
            refine HOPS.take 7 { wraps := [145] } [] [1, 2, 3, 7, 15, 17, 19, 20, 146, 147, 151] [.slice s1.a s1.n s1.c, .slice s2.a s2.n s2.c, .pointer (some ⟨g3, 0, none⟩), .int .i64 (qSize c), .pointer (some ⟨g107, 0, none⟩), .pointer (some ⟨g115, 0, none⟩), .int .i64 ((cntB (addL c l1) 256 : Nat) : Int), .int .i64 ((cntB (addL c l2) 256 : Nat) : Int), .bool true, undef, undef] (by kernel_rfl) ⟨(show Ld Try.prog w131.drew 3 ⟨g3, 0, none⟩ (.int .i64 c.N) from (Ld.row1 (P := Try.prog) (t := 3) (o := 0) (v := .int .i64 c.N) hp137.get2 (by kernel_rfl))), trivial⟩ (fun w181 hS182 => QB.mk .nil (by kernel_rfl)) (fun b183 => ?_)
            refine HOPS.one _ rfl {} [] [1, 2, 3, 7, 15, 17, 19, 20, 146, 148, 151] [.slice s1.a s1.n s1.c, .slice s2.a s2.n s2.c, .pointer (some ⟨g3, 0, none⟩), .int .i64 (qSize c), .pointer (some ⟨g107, 0, none⟩), .pointer (some ⟨g115, 0, none⟩), .int .i64 ((cntB (addL c l1) 256 : Nat) : Int), .int .i64 ((cntB (addL c l2) 256 : Nat) : Int), .bool true, undef, undef] .nil (by kernel_rfl) ⟨(show Ld Try.prog w131.drew 3 ⟨g3, 0, none⟩ (.int .i64 c.N) from (Ld.row1 (P := Try.prog) (t := 3) (o := 0) (v := .int .i64 c.N) hp137.get2 (by kernel_rfl))), trivial⟩ (fun b184 => ?_)
            refine HOPS.take 7 { wraps := [153] } [] [1, 2, 3, 15, 17, 19, 154, 155, 159] [.slice s1.a s1.n s1.c, .slice s2.a s2.n s2.c, .pointer (some ⟨g3, 0, none⟩), .pointer (some ⟨g107, 0, none⟩), .pointer (some ⟨g115, 0, none⟩), .int .i64 ((cntB (addL c l1) 256 : Nat) : Int), .bool true, undef, undef] (by kernel_rfl) ⟨(show Ld Try.prog w131.drew 3 ⟨g3, 0, none⟩ (.int .i64 c.N) from (Ld.row1 (P := Try.prog) (t := 3) (o := 0) (v := .int .i64 c.N) hp137.get2 (by kernel_rfl))), trivial⟩ (fun w185 hS186 => QB.mk .nil (by kernel_rfl)) (fun b187 => ?_)
            refine HOPS.one _ rfl {} [] [1, 2, 3, 15, 17, 19, 154, 156, 159] [.slice s1.a s1.n s1.c, .slice s2.a s2.n s2.c, .pointer (some ⟨g3, 0, none⟩), .pointer (some ⟨g107, 0, none⟩), .pointer (some ⟨g115, 0, none⟩), .int .i64 ((cntB (addL c l1) 256 : Nat) : Int), .bool true, undef, undef] .nil (by kernel_rfl) ⟨(show Ld Try.prog w131.drew 3 ⟨g3, 0, none⟩ (.int .i64 c.N) from (Ld.row1 (P := Try.prog) (t := 3) (o := 0) (v := .int .i64 c.N) hp137.get2 (by kernel_rfl))), trivial⟩ (fun b188 => ?_)
            refine HOPS.take 8 { wraps := [161] } [] [1, 2, 3, 15, 17, 162, 163, 169] [.slice s1.a s1.n s1.c, .slice s2.a s2.n s2.c, .pointer (some ⟨g3, 0, none⟩), .pointer (some ⟨g107, 0, none⟩), .pointer (some ⟨g115, 0, none⟩), .bool true, undef, undef] (by kernel_rfl) ⟨(show Ld Try.prog w131.drew 3 ⟨g3, 0, none⟩ (.int .i64 c.N) from (Ld.row1 (P := Try.prog) (t := 3) (o := 0) (v := .int .i64 c.N) hp137.get2 (by kernel_rfl))), trivial⟩ (fun w189 hS190 => QB.mk .nil (by kernel_rfl)) (fun b191 => ?_)
            refine HOPS.one _ rfl {} [] [1, 2, 3, 15, 17, 162, 164, 169] [.slice s1.a s1.n s1.c, .slice s2.a s2.n s2.c, .pointer (some ⟨g3, 0, none⟩), .pointer (some ⟨g107, 0, none⟩), .pointer (some ⟨g115, 0, none⟩), .bool true, undef, undef] .nil (by kernel_rfl) ⟨(show Ld Try.prog w131.drew 3 ⟨g3, 0, none⟩ (.int .i64 c.N) from (Ld.row1 (P := Try.prog) (t := 3) (o := 0) (v := .int .i64 c.N) hp137.get2 (by kernel_rfl))), trivial⟩ (fun b192 => ?_)
            refine HOPS.take 3 { wraps := [171] } [] [1, 2, 3, 15, 17, 171] [.slice s1.a s1.n s1.c, .slice s2.a s2.n s2.c, .pointer (some ⟨g3, 0, none⟩), .pointer (some ⟨g107, 0, none⟩), .pointer (some ⟨g115, 0, none⟩), .bool true] (by kernel_rfl) ⟨(show Ld Try.prog w131.drew 3 ⟨g3, 0, none⟩ (.int .i64 c.N) from (Ld.row1 (P := Try.prog) (t := 3) (o := 0) (v := .int .i64 c.N) hp137.get2 (by kernel_rfl))), trivial⟩ (fun w193 hS194 => QB.mk .nil (by kernel_rfl)) (fun b195 => ?_)
            refine HOPS.nil ?_
            refine thn_n ?_
            exact ⟨true, trivial, Bp.of Bp.t (by first | (simp only [h142, h171, iff_false, false_iff, iff_true, true_iff, Classical.not_not, and_true, true_and, and_false, false_and, or_true, true_or, or_false, false_or, not_true_eq_false, not_false_eq_true, and_self, or_self, iff_self]; done) | (simp [h142, h171]; done) | simp_all), by kernel_rfl, hp137⟩
          · refine HOPS.take 0 {} [] [1, 2, 3, 7, 15, 17, 19, 20, 134] [.slice s1.a s1.n s1.c, .slice s2.a s2.n s2.c, .pointer (some ⟨g3, 0, none⟩), .int .i64 (qSize c), .pointer (some ⟨g107, 0, none⟩), .pointer (some ⟨g115, 0, none⟩), .int .i64 ((cntB (addL c l1) 256 : Nat) : Int), .int .i64 ((cntB (addL c l2) 256 : Nat) : Int), .bool (decide (((cntB (addL c l2) 256 : Nat) : Int) < 0))] (by kernel_rfl) ⟨(show Ld Try.prog w131.drew 3 ⟨g3, 0, none⟩ (.int .i64 c.N) from (Ld.row1 (P := Try.prog) (t := 3) (o := 0) (v := .int .i64 c.N) hp137.get2 (by kernel_rfl))), trivial⟩ (fun _ _ => QB.mk .nil (by kernel_rfl)) (fun b196 => ?_)
            refine HOPS.re [.slice s1.a s1.n s1.c, .slice s2.a s2.n s2.c, .pointer (some ⟨g3, 0, none⟩), .int .i64 (qSize c), .pointer (some ⟨g107, 0, none⟩), .pointer (some ⟨g115, 0, none⟩), .int .i64 ((cntB (addL c l1) 256 : Nat) : Int), .int .i64 ((cntB (addL c l2) 256 : Nat) : Int), .bool false] (by rw [show (decide (((cntB (addL c l2) 256 : Nat) : Int) < 0)) = false from Bp.dec.ff h171]) ?_
            refine HOPS.take 2 {} [] [1, 2, 3, 7, 15, 17, 19, 20, 134, 135, 137] [.slice s1.a s1.n s1.c, .slice s2.a s2.n s2.c, .pointer (some ⟨g3, 0, none⟩), .int .i64 (qSize c), .pointer (some ⟨g107, 0, none⟩), .pointer (some ⟨g115, 0, none⟩), .int .i64 ((cntB (addL c l1) 256 : Nat) : Int), .int .i64 ((cntB (addL c l2) 256 : Nat) : Int), .bool false, .pointer (some ⟨g107, 0, none⟩), .int .i64 ((cntB (addL c l1) 256 : Nat) : Int)] (by kernel_rfl) ⟨(show Ld Try.prog w131.drew 3 ⟨g3, 0, none⟩ (.int .i64 c.N) from (Ld.row1 (P := Try.prog) (t := 3) (o := 0) (v := .int .i64 c.N) hp137.get2 (by kernel_rfl))), trivial⟩ (fun w197 hS198 => QB.mk .nil (by kernel_rfl)) (fun b199 => ?_)
            have hp202 := hp137.pull1
            refine HOPS.effW _ rfl (by kernel_rfl) (opStep.call (some 136) [.pointer (some ⟨g107, 0, none⟩)] (by kernel_rfl) (q_Len _ _ _ c (addL c l1) _ (show okCfg c from h21)  hp202) ?_)
            rintro _ w203 ⟨rfl, hp204⟩
            refine ⟨_, rfl, ?_⟩
            refine ⟨.inr ⟨(show Ld Try.prog w203 3 ⟨g3, 0, none⟩ (.int .i64 c.N) from (Ld.row1 (P := Try.prog) (t := 3) (o := 0) (v := .int .i64 c.N) hp204.get2 (by kernel_rfl))), trivial⟩, ?_⟩
            refine HOPS.take 3 { wraps := [139] } [] [1, 2, 3, 7, 15, 17, 19, 20, 140] [.slice s1.a s1.n s1.c, .slice s2.a s2.n s2.c, .pointer (some ⟨g3, 0, none⟩), .int .i64 (qSize c), .pointer (some ⟨g107, 0, none⟩), .pointer (some ⟨g115, 0, none⟩), .int .i64 ((cntB (addL c l1) 256 : Nat) : Int), .int .i64 ((cntB (addL c l2) 256 : Nat) : Int), .bool (decide (¬ (((cntB (addL c l1) 256 : Nat) : Int) = ((cntB (addL c l1) 256 : Nat) : Int))))] (by kernel_rfl) ⟨(show Ld Try.prog w203 3 ⟨g3, 0, none⟩ (.int .i64 c.N) from (Ld.row1 (P := Try.prog) (t := 3) (o := 0) (v := .int .i64 c.N) hp204.get2 (by kernel_rfl))), trivial⟩ (fun w206 hS207 => QB.mk .nil (by kernel_rfl)) (fun b208 => ?_)
            by_cases h209 : ((cntB (addL c l1) 256 : Nat) : Int) = ((cntB (addL c l1) 256 : Nat) : Int)
            · refine HOPS.take 0 {} [] [1, 2, 3, 7, 15, 17, 19, 20, 140] [.slice s1.a s1.n s1.c, .slice s2.a s2.n s2.c, .pointer (some ⟨g3, 0, none⟩), .int .i64 (qSize c), .pointer (some ⟨g107, 0, none⟩), .pointer (some ⟨g115, 0, none⟩), .int .i64 ((cntB (addL c l1) 256 : Nat) : Int), .int .i64 ((cntB (addL c l2) 256 : Nat) : Int), .bool (decide (¬ (((cntB (addL c l1) 256 : Nat) : Int) = ((cntB (addL c l1) 256 : Nat) : Int))))] (by kernel_rfl) ⟨(show Ld Try.prog w203 3 ⟨g3, 0, none⟩ (.int .i64 c.N) from (Ld.row1 (P := Try.prog) (t := 3) (o := 0) (v := .int .i64 c.N) hp204.get2 (by kernel_rfl))), trivial⟩ (fun _ _ => QB.mk .nil (by kernel_rfl)) (fun b230 => ?_)
              refine HOPS.re [.slice s1.a s1.n s1.c, .slice s2.a s2.n s2.c, .pointer (some ⟨g3, 0, none⟩), .int .i64 (qSize c), .pointer (some ⟨g107, 0, none⟩), .pointer (some ⟨g115, 0, none⟩), .int .i64 ((cntB (addL c l1) 256 : Nat) : Int), .int .i64 ((cntB (addL c l2) 256 : Nat) : Int), .bool false] (by rw [show (decide (¬ (((cntB (addL c l1) 256 : Nat) : Int) = ((cntB (addL c l1) 256 : Nat) : Int)))) = false from Bp.dec.ff (fun k => k h209)]) ?_
              refine HOPS.take 2 {} [] [1, 2, 3, 7, 15, 17, 19, 20, 140, 141, 143] [.slice s1.a s1.n s1.c, .slice s2.a s2.n s2.c, .pointer (some ⟨g3, 0, none⟩), .int .i64 (qSize c), .pointer (some ⟨g107, 0, none⟩), .pointer (some ⟨g115, 0, none⟩), .int .i64 ((cntB (addL c l1) 256 : Nat) : Int), .int .i64 ((cntB (addL c l2) 256 : Nat) : Int), .bool false, .pointer (some ⟨g115, 0, none⟩), .int .i64 ((cntB (addL c l2) 256 : Nat) : Int)] (by kernel_rfl) ⟨(show Ld Try.prog w203 3 ⟨g3, 0, none⟩ (.int .i64 c.N) from (Ld.row1 (P := Try.prog) (t := 3) (o := 0) (v := .int .i64 c.N) hp204.get2 (by kernel_rfl))), trivial⟩ (fun w231 hS232 => QB.mk .nil (by kernel_rfl)) (fun b233 => ?_)
              have hp236 := hp204.pull1
              refine HOPS.effW _ rfl (by kernel_rfl) (opStep.call (some 142) [.pointer (some ⟨g115, 0, none⟩)] (by kernel_rfl) (q_Len _ _ _ c (addL c l2) _ (show okCfg c from h21)  hp236) ?_)
              rintro _ w237 ⟨rfl, hp238⟩
              refine ⟨_, rfl, ?_⟩
              refine ⟨.inr ⟨(show Ld Try.prog w237 3 ⟨g3, 0, none⟩ (.int .i64 c.N) from (Ld.row1 (P := Try.prog) (t := 3) (o := 0) (v := .int .i64 c.N) hp238.get2 (by kernel_rfl))), trivial⟩, ?_⟩
              refine HOPS.take 3 { wraps := [145] } [] [1, 2, 3, 7, 15, 17, 19, 20, 146] [.slice s1.a s1.n s1.c, .slice s2.a s2.n s2.c, .pointer (some ⟨g3, 0, none⟩), .int .i64 (qSize c), .pointer (some ⟨g107, 0, none⟩), .pointer (some ⟨g115, 0, none⟩), .int .i64 ((cntB (addL c l1) 256 : Nat) : Int), .int .i64 ((cntB (addL c l2) 256 : Nat) : Int), .bool (decide (¬ (((cntB (addL c l2) 256 : Nat) : Int) = ((cntB (addL c l2) 256 : Nat) : Int))))] (by kernel_rfl) ⟨(show Ld Try.prog w237 3 ⟨g3, 0, none⟩ (.int .i64 c.N) from (Ld.row1 (P := Try.prog) (t := 3) (o := 0) (v := .int .i64 c.N) hp238.get2 (by kernel_rfl))), trivial⟩ (fun w240 hS241 => QB.mk .nil (by kernel_rfl)) (fun b242 => ?_)
              by_cases h243 : ((cntB (addL c l2) 256 : Nat) : Int) = ((cntB (addL c l2) 256 : Nat) : Int)
              · refine HOPS.take 0 {} [] [1, 2, 3, 7, 15, 17, 19, 20, 146] [.slice s1.a s1.n s1.c, .slice s2.a s2.n s2.c, .pointer (some ⟨g3, 0, none⟩), .int .i64 (qSize c), .pointer (some ⟨g107, 0, none⟩), .pointer (some ⟨g115, 0, none⟩), .int .i64 ((cntB (addL c l1) 256 : Nat) : Int), .int .i64 ((cntB (addL c l2) 256 : Nat) : Int), .bool (decide (¬ (((cntB (addL c l2) 256 : Nat) : Int) = ((cntB (addL c l2) 256 : Nat) : Int))))] (by kernel_rfl) ⟨(show Ld Try.prog w237 3 ⟨g3, 0, none⟩ (.int .i64 c.N) from (Ld.row1 (P := Try.prog) (t := 3) (o := 0) (v := .int .i64 c.N) hp238.get2 (by kernel_rfl))), trivial⟩ (fun _ _ => QB.mk .nil (by kernel_rfl)) (fun b260 => ?_)
                refine HOPS.re [.slice s1.a s1.n s1.c, .slice s2.a s2.n s2.c, .pointer (some ⟨g3, 0, none⟩), .int .i64 (qSize c), .pointer (some ⟨g107, 0, none⟩), .pointer (some ⟨g115, 0, none⟩), .int .i64 ((cntB (addL c l1) 256 : Nat) : Int), .int .i64 ((cntB (addL c l2) 256 : Nat) : Int), .bool false] (by rw [show (decide (¬ (((cntB (addL c l2) 256 : Nat) : Int) = ((cntB (addL c l2) 256 : Nat) : Int)))) = false from Bp.dec.ff (fun k => k h243)]) ?_
                refine HOPS.take 4 {} [] [1, 2, 3, 7, 15, 17, 19, 20, 146, 147, 151] [.slice s1.a s1.n s1.c, .slice s2.a s2.n s2.c, .pointer (some ⟨g3, 0, none⟩), .int .i64 (qSize c), .pointer (some ⟨g107, 0, none⟩), .pointer (some ⟨g115, 0, none⟩), .int .i64 ((cntB (addL c l1) 256 : Nat) : Int), .int .i64 ((cntB (addL c l2) 256 : Nat) : Int), .bool false, .pointer (some ⟨g107, 0, none⟩), .bool (decide ((qSize c) ≤ ((cntB (addL c l1) 256 : Nat) : Int)))] (by kernel_rfl) ⟨(show Ld Try.prog w237 3 ⟨g3, 0, none⟩ (.int .i64 c.N) from (Ld.row1 (P := Try.prog) (t := 3) (o := 0) (v := .int .i64 c.N) hp238.get2 (by kernel_rfl))), trivial⟩ (fun w261 hS262 => QB.mk .nil (by kernel_rfl)) (fun b263 => ?_)
                have hp266 := hp238.pull1
                refine HOPS.effW _ rfl (by kernel_rfl) (opStep.call (some 148) [.pointer (some ⟨g107, 0, none⟩)] (by kernel_rfl) (q_Met _ _ _ c (addL c l1) _ (show okCfg c from h21)  hp266) ?_)
                rintro _ w267 ⟨b270, rfl, hq269, hp268⟩
                refine ⟨_, rfl, ?_⟩
                refine ⟨.inr ⟨(show Ld Try.prog w267 3 ⟨g3, 0, none⟩ (.int .i64 c.N) from (Ld.row1 (P := Try.prog) (t := 3) (o := 0) (v := .int .i64 c.N) hp268.get2 (by kernel_rfl))), trivial⟩, ?_⟩
                refine HOPS.take 3 { wraps := [153] } [] [1, 2, 3, 7, 15, 17, 19, 20, 154] [.slice s1.a s1.n s1.c, .slice s2.a s2.n s2.c, .pointer (some ⟨g3, 0, none⟩), .int .i64 (qSize c), .pointer (some ⟨g107, 0, none⟩), .pointer (some ⟨g115, 0, none⟩), .int .i64 ((cntB (addL c l1) 256 : Nat) : Int), .int .i64 ((cntB (addL c l2) 256 : Nat) : Int), .bool (!(b270 == (decide ((qSize c) ≤ ((cntB (addL c l1) 256 : Nat) : Int)))))] (by kernel_rfl) ⟨(show Ld Try.prog w267 3 ⟨g3, 0, none⟩ (.int .i64 c.N) from (Ld.row1 (P := Try.prog) (t := 3) (o := 0) (v := .int .i64 c.N) hp268.get2 (by kernel_rfl))), trivial⟩ (fun w271 hS272 => QB.mk .nil (by kernel_rfl)) (fun b273 => ?_)
                by_cases h274 : ((qSize c ≤ ((cntB (addL c l1) 256 : Nat) : Int)) ↔ ((qSize c) ≤ ((cntB (addL c l1) 256 : Nat) : Int)))
                · refine HOPS.take 0 {} [] [1, 2, 3, 7, 15, 17, 19, 20, 154] [.slice s1.a s1.n s1.c, .slice s2.a s2.n s2.c, .pointer (some ⟨g3, 0, none⟩), .int .i64 (qSize c), .pointer (some ⟨g107, 0, none⟩), .pointer (some ⟨g115, 0, none⟩), .int .i64 ((cntB (addL c l1) 256 : Nat) : Int), .int .i64 ((cntB (addL c l2) 256 : Nat) : Int), .bool (!(b270 == (decide ((qSize c) ≤ ((cntB (addL c l1) 256 : Nat) : Int)))))] (by kernel_rfl) ⟨(show Ld Try.prog w267 3 ⟨g3, 0, none⟩ (.int .i64 c.N) from (Ld.row1 (P := Try.prog) (t := 3) (o := 0) (v := .int .i64 c.N) hp268.get2 (by kernel_rfl))), trivial⟩ (fun _ _ => QB.mk .nil (by kernel_rfl)) (fun b287 => ?_)
                  refine HOPS.re [.slice s1.a s1.n s1.c, .slice s2.a s2.n s2.c, .pointer (some ⟨g3, 0, none⟩), .int .i64 (qSize c), .pointer (some ⟨g107, 0, none⟩), .pointer (some ⟨g115, 0, none⟩), .int .i64 ((cntB (addL c l1) 256 : Nat) : Int), .int .i64 ((cntB (addL c l2) 256 : Nat) : Int), .bool false] (by rw [show (!(b270 == (decide ((qSize c) ≤ ((cntB (addL c l1) 256 : Nat) : Int))))) = false from (Bp.not (Bp.beq hq269 Bp.dec)).ff (fun k => k h274)]) ?_
                  refine HOPS.take 4 {} [] [1, 2, 3, 15, 17, 19, 154, 155, 159] [.slice s1.a s1.n s1.c, .slice s2.a s2.n s2.c, .pointer (some ⟨g3, 0, none⟩), .pointer (some ⟨g107, 0, none⟩), .pointer (some ⟨g115, 0, none⟩), .int .i64 ((cntB (addL c l1) 256 : Nat) : Int), .bool false, .pointer (some ⟨g115, 0, none⟩), .bool (decide ((qSize c) ≤ ((cntB (addL c l2) 256 : Nat) : Int)))] (by kernel_rfl) ⟨(show Ld Try.prog w267 3 ⟨g3, 0, none⟩ (.int .i64 c.N) from (Ld.row1 (P := Try.prog) (t := 3) (o := 0) (v := .int .i64 c.N) hp268.get2 (by kernel_rfl))), trivial⟩ (fun w288 hS289 => QB.mk .nil (by kernel_rfl)) (fun b290 => ?_)
                  have hp293 := hp268.pull1
                  refine HOPS.effW _ rfl (by kernel_rfl) (opStep.call (some 156) [.pointer (some ⟨g115, 0, none⟩)] (by kernel_rfl) (q_Met _ _ _ c (addL c l2) _ (show okCfg c from h21)  hp293) ?_)
                  rintro _ w294 ⟨b297, rfl, hq296, hp295⟩
                  refine ⟨_, rfl, ?_⟩
                  refine ⟨.inr ⟨(show Ld Try.prog w294 3 ⟨g3, 0, none⟩ (.int .i64 c.N) from (Ld.row1 (P := Try.prog) (t := 3) (o := 0) (v := .int .i64 c.N) hp295.get2 (by kernel_rfl))), trivial⟩, ?_⟩
                  refine HOPS.take 3 { wraps := [161] } [] [1, 2, 3, 15, 17, 19, 162] [.slice s1.a s1.n s1.c, .slice s2.a s2.n s2.c, .pointer (some ⟨g3, 0, none⟩), .pointer (some ⟨g107, 0, none⟩), .pointer (some ⟨g115, 0, none⟩), .int .i64 ((cntB (addL c l1) 256 : Nat) : Int), .bool (!(b297 == (decide ((qSize c) ≤ ((cntB (addL c l2) 256 : Nat) : Int)))))] (by kernel_rfl) ⟨(show Ld Try.prog w294 3 ⟨g3, 0, none⟩ (.int .i64 c.N) from (Ld.row1 (P := Try.prog) (t := 3) (o := 0) (v := .int .i64 c.N) hp295.get2 (by kernel_rfl))), trivial⟩ (fun w298 hS299 => QB.mk .nil (by kernel_rfl)) (fun b300 => ?_)
                  by_cases h301 : ((qSize c ≤ ((cntB (addL c l2) 256 : Nat) : Int)) ↔ ((qSize c) ≤ ((cntB (addL c l2) 256 : Nat) : Int)))
                  · refine HOPS.take 0 {} [] [1, 2, 3, 15, 17, 19, 162] [.slice s1.a s1.n s1.c, .slice s2.a s2.n s2.c, .pointer (some ⟨g3, 0, none⟩), .pointer (some ⟨g107, 0, none⟩), .pointer (some ⟨g115, 0, none⟩), .int .i64 ((cntB (addL c l1) 256 : Nat) : Int), .bool (!(b297 == (decide ((qSize c) ≤ ((cntB (addL c l2) 256 : Nat) : Int)))))] (by kernel_rfl) ⟨(show Ld Try.prog w294 3 ⟨g3, 0, none⟩ (.int .i64 c.N) from (Ld.row1 (P := Try.prog) (t := 3) (o := 0) (v := .int .i64 c.N) hp295.get2 (by kernel_rfl))), trivial⟩ (fun _ _ => QB.mk .nil (by kernel_rfl)) (fun b310 => ?_)
                    refine HOPS.re [.slice s1.a s1.n s1.c, .slice s2.a s2.n s2.c, .pointer (some ⟨g3, 0, none⟩), .pointer (some ⟨g107, 0, none⟩), .pointer (some ⟨g115, 0, none⟩), .int .i64 ((cntB (addL c l1) 256 : Nat) : Int), .bool false] (by rw [show (!(b297 == (decide ((qSize c) ≤ ((cntB (addL c l2) 256 : Nat) : Int))))) = false from (Bp.not (Bp.beq hq296 Bp.dec)).ff (fun k => k h301)]) ?_
                    refine HOPS.take 5 {} [.int .i64 c.N] [1, 2, 3, 15, 17, 162, 163, 169] [.slice s1.a s1.n s1.c, .slice s2.a s2.n s2.c, .pointer (some ⟨g3, 0, none⟩), .pointer (some ⟨g107, 0, none⟩), .pointer (some ⟨g115, 0, none⟩), .bool false, .pointer (some ⟨g107, 0, none⟩), .int .i64 (c.N - ((cntB (addL c l1) 256 : Nat) : Int))] (by kernel_rfl) ⟨(show Ld Try.prog w294 3 ⟨g3, 0, none⟩ (.int .i64 c.N) from (Ld.row1 (P := Try.prog) (t := 3) (o := 0) (v := .int .i64 c.N) hp295.get2 (by kernel_rfl))), trivial⟩ (fun w311 hS312 => QB.mk (.cons (hS312.1) (.cons (show Rng .i64 (c.N - ((cntB (addL c l1) 256 : Nat) : Int)) from Rng.i64 (by omega)) .nil)) (by kernel_rfl)) (fun b313 => ?_)
                    have hp316 := hp295.pull1
                    refine HOPS.effW _ rfl (by kernel_rfl) (opStep.call (some 164) [.pointer (some ⟨g107, 0, none⟩)] (by kernel_rfl) (q_Rest _ _ _ c (addL c l1) _ (show okCfg c from h21)  hp316) ?_)
                    rintro _ w317 ⟨ao319, co320, rfl, hp318⟩
                    refine ⟨_, rfl, ?_⟩
                    have := sel_le (addL c l1) false (c.N).toNat
                    refine ⟨.inr ⟨(show Ld Try.prog w317 3 ⟨g3, 0, none⟩ (.int .i64 c.N) from (Ld.row1 (P := Try.prog) (t := 3) (o := 0) (v := .int .i64 c.N) hp318.get3 (by kernel_rfl))), trivial⟩, ?_⟩
                    refine HOPS.take 3 { wraps := [171] } [] [1, 2, 3, 15, 17, 171] [.slice s1.a s1.n s1.c, .slice s2.a s2.n s2.c, .pointer (some ⟨g3, 0, none⟩), .pointer (some ⟨g107, 0, none⟩), .pointer (some ⟨g115, 0, none⟩), .bool (decide (¬ ((((sel (addL c l1) false (c.N).toNat).length : Nat) : Int) = (c.N - ((cntB (addL c l1) 256 : Nat) : Int)))))] (by kernel_rfl) ⟨(show Ld Try.prog w317 3 ⟨g3, 0, none⟩ (.int .i64 c.N) from (Ld.row1 (P := Try.prog) (t := 3) (o := 0) (v := .int .i64 c.N) hp318.get3 (by kernel_rfl))), trivial⟩ (fun w321 hS322 => QB.mk .nil (by kernel_rfl)) (fun b323 => ?_)
                    refine HOPS.nil ?_
                    refine thn_n ?_
                    exact ⟨decide (¬ ((((sel (addL c l1) false (c.N).toNat).length : Nat) : Int) = (c.N - ((cntB (addL c l1) 256 : Nat) : Int)))), trivial, Bp.of Bp.dec (by first | (simp only [h142, h171, h209, h243, h274, h301, iff_false, false_iff, iff_true, true_iff, Classical.not_not, and_true, true_and, and_false, false_and, or_true, true_or, or_false, false_or, not_true_eq_false, not_false_eq_true, and_self, or_self, iff_self]; done) | (simp [h142, h171, h209, h243, h274, h301]; done) | simp_all), by kernel_rfl, ((((hp318.pull3).pull2).pull3).sub (.cons_cons _ (.cons_cons _ (.cons_cons _ (.cons _ (.slnil))))))⟩
                  · refine HOPS.take 0 {} [] [1, 2, 3, 15, 17, 19, 162] [.slice s1.a s1.n s1.c, .slice s2.a s2.n s2.c, .pointer (some ⟨g3, 0, none⟩), .pointer (some ⟨g107, 0, none⟩), .pointer (some ⟨g115, 0, none⟩), .int .i64 ((cntB (addL c l1) 256 : Nat) : Int), .bool (!(b297 == (decide ((qSize c) ≤ ((cntB (addL c l2) 256 : Nat) : Int)))))] (by kernel_rfl) ⟨(show Ld Try.prog w294 3 ⟨g3, 0, none⟩ (.int .i64 c.N) from (Ld.row1 (P := Try.prog) (t := 3) (o := 0) (v := .int .i64 c.N) hp295.get2 (by kernel_rfl))), trivial⟩ (fun _ _ => QB.mk .nil (by kernel_rfl)) (fun b302 => ?_)
                    refine HOPS.re [.slice s1.a s1.n s1.c, .slice s2.a s2.n s2.c, .pointer (some ⟨g3, 0, none⟩), .pointer (some ⟨g107, 0, none⟩), .pointer (some ⟨g115, 0, none⟩), .int .i64 ((cntB (addL c l1) 256 : Nat) : Int), .bool true] (by rw [show (!(b297 == (decide ((qSize c) ≤ ((cntB (addL c l2) 256 : Nat) : Int))))) = true from (Bp.not (Bp.beq hq296 Bp.dec)).tt h301]) ?_
                    refine HOPS.take 5 {} [] [1, 2, 3, 15, 17, 162, 163, 169] [.slice s1.a s1.n s1.c, .slice s2.a s2.n s2.c, .pointer (some ⟨g3, 0, none⟩), .pointer (some ⟨g107, 0, none⟩), .pointer (some ⟨g115, 0, none⟩), .bool true, undef, undef] (by kernel_rfl) ⟨(show Ld Try.prog w294 3 ⟨g3, 0, none⟩ (.int .i64 c.N) from (Ld.row1 (P := Try.prog) (t := 3) (o := 0) (v := .int .i64 c.N) hp295.get2 (by kernel_rfl))), trivial⟩ (fun w303 hS304 => QB.mk .nil (by kernel_rfl)) (fun b305 => ?_)
                    refine HOPS.one _ rfl {} [] [1, 2, 3, 15, 17, 162, 164, 169] [.slice s1.a s1.n s1.c, .slice s2.a s2.n s2.c, .pointer (some ⟨g3, 0, none⟩), .pointer (some ⟨g107, 0, none⟩), .pointer (some ⟨g115, 0, none⟩), .bool true, undef, undef] .nil (by kernel_rfl) ⟨(show Ld Try.prog w294 3 ⟨g3, 0, none⟩ (.int .i64 c.N) from (Ld.row1 (P := Try.prog) (t := 3) (o := 0) (v := .int .i64 c.N) hp295.get2 (by kernel_rfl))), trivial⟩ (fun b306 => ?_)
                    refine HOPS.take 3 { wraps := [171] } [] [1, 2, 3, 15, 17, 171] [.slice s1.a s1.n s1.c, .slice s2.a s2.n s2.c, .pointer (some ⟨g3, 0, none⟩), .pointer (some ⟨g107, 0, none⟩), .pointer (some ⟨g115, 0, none⟩), .bool true] (by kernel_rfl) ⟨(show Ld Try.prog w294 3 ⟨g3, 0, none⟩ (.int .i64 c.N) from (Ld.row1 (P := Try.prog) (t := 3) (o := 0) (v := .int .i64 c.N) hp295.get2 (by kernel_rfl))), trivial⟩ (fun w307 hS308 => QB.mk .nil (by kernel_rfl)) (fun b309 => ?_)
                    refine HOPS.nil ?_
                    refine thn_n ?_
                    exact ⟨true, trivial, Bp.of Bp.t (by first | (simp only [h142, h171, h209, h243, h274, h301, iff_false, false_iff, iff_true, true_iff, Classical.not_not, and_true, true_and, and_false, false_and, or_true, true_or, or_false, false_or, not_true_eq_false, not_false_eq_true, and_self, or_self, iff_self]; done) | (simp [h142, h171, h209, h243, h274, h301]; done) | simp_all), by kernel_rfl, hp295⟩
                · refine HOPS.take 0 {} [] [1, 2, 3, 7, 15, 17, 19, 20, 154] [.slice s1.a s1.n s1.c, .slice s2.a s2.n s2.c, .pointer (some ⟨g3, 0, none⟩), .int .i64 (qSize c), .pointer (some ⟨g107, 0, none⟩), .pointer (some ⟨g115, 0, none⟩), .int .i64 ((cntB (addL c l1) 256 : Nat) : Int), .int .i64 ((cntB (addL c l2) 256 : Nat) : Int), .bool (!(b270 == (decide ((qSize c) ≤ ((cntB (addL c l1) 256 : Nat) : Int)))))] (by kernel_rfl) ⟨(show Ld Try.prog w267 3 ⟨g3, 0, none⟩ (.int .i64 c.N) from (Ld.row1 (P := Try.prog) (t := 3) (o := 0) (v := .int .i64 c.N) hp268.get2 (by kernel_rfl))), trivial⟩ (fun _ _ => QB.mk .nil (by kernel_rfl)) (fun b275 => ?_)
                  refine HOPS.re [.slice s1.a s1.n s1.c, .slice s2.a s2.n s2.c, .pointer (some ⟨g3, 0, none⟩), .int .i64 (qSize c), .pointer (some ⟨g107, 0, none⟩), .pointer (some ⟨g115, 0, none⟩), .int .i64 ((cntB (addL c l1) 256 : Nat) : Int), .int .i64 ((cntB (addL c l2) 256 : Nat) : Int), .bool true] (by rw [show (!(b270 == (decide ((qSize c) ≤ ((cntB (addL c l1) 256 : Nat) : Int))))) = true from (Bp.not (Bp.beq hq269 Bp.dec)).tt h274]) ?_
                  refine HOPS.take 4 {} [] [1, 2, 3, 15, 17, 19, 154, 155, 159] [.slice s1.a s1.n s1.c, .slice s2.a s2.n s2.c, .pointer (some ⟨g3, 0, none⟩), .pointer (some ⟨g107, 0, none⟩), .pointer (some ⟨g115, 0, none⟩), .int .i64 ((cntB (addL c l1) 256 : Nat) : Int), .bool true, undef, undef] (by kernel_rfl) ⟨(show Ld Try.prog w267 3 ⟨g3, 0, none⟩ (.int .i64 c.N) from (Ld.row1 (P := Try.prog) (t := 3) (o := 0) (v := .int .i64 c.N) hp268.get2 (by kernel_rfl))), trivial⟩ (fun w276 hS277 => QB.mk .nil (by kernel_rfl)) (fun b278 => ?_)
                  refine HOPS.one _ rfl {} [] [1, 2, 3, 15, 17, 19, 154, 156, 159] [.slice s1.a s1.n s1.c, .slice s2.a s2.n s2.c, .pointer (some ⟨g3, 0, none⟩), .pointer (some ⟨g107, 0, none⟩), .pointer (some ⟨g115, 0, none⟩), .int .i64 ((cntB (addL c l1) 256 : Nat) : Int), .bool true, undef, undef] .nil (by kernel_rfl) ⟨(show Ld Try.prog w267 3 ⟨g3, 0, none⟩ (.int .i64 c.N) from (Ld.row1 (P := Try.prog) (t := 3) (o := 0) (v := .int .i64 c.N) hp268.get2 (by kernel_rfl))), trivial⟩ (fun b279 => ?_)
                  refine HOPS.take 8 { wraps := [161] } [] [1, 2, 3, 15, 17, 162, 163, 169] [.slice s1.a s1.n s1.c, .slice s2.a s2.n s2.c, .pointer (some ⟨g3, 0, none⟩), .pointer (some ⟨g107, 0, none⟩), .pointer (some ⟨g115, 0, none⟩), .bool true, undef, undef] (by kernel_rfl) ⟨(show Ld Try.prog w267 3 ⟨g3, 0, none⟩ (.int .i64 c.N) from (Ld.row1 (P := Try.prog) (t := 3) (o := 0) (v := .int .i64 c.N) hp268.get2 (by kernel_rfl))), trivial⟩ (fun w280 hS281 => QB.mk .nil (by kernel_rfl)) (fun b282 => ?_)
                  refine HOPS.one _ rfl {} [] [1, 2, 3, 15, 17, 162, 164, 169] [.slice s1.a s1.n s1.c, .slice s2.a s2.n s2.c, .pointer (some ⟨g3, 0, none⟩), .pointer (some ⟨g107, 0, none⟩), .pointer (some ⟨g115, 0, none⟩), .bool true, undef, undef] .nil (by kernel_rfl) ⟨(show Ld Try.prog w267 3 ⟨g3, 0, none⟩ (.int .i64 c.N) from (Ld.row1 (P := Try.prog) (t := 3) (o := 0) (v := .int .i64 c.N) hp268.get2 (by kernel_rfl))), trivial⟩ (fun b283 => ?_)
                  refine HOPS.take 3 { wraps := [171] } [] [1, 2, 3, 15, 17, 171] [.slice s1.a s1.n s1.c, .slice s2.a s2.n s2.c, .pointer (some ⟨g3, 0, none⟩), .pointer (some ⟨g107, 0, none⟩), .pointer (some ⟨g115, 0, none⟩), .bool true] (by kernel_rfl) ⟨(show Ld Try.prog w267 3 ⟨g3, 0, none⟩ (.int .i64 c.N) from (Ld.row1 (P := Try.prog) (t := 3) (o := 0) (v := .int .i64 c.N) hp268.get2 (by kernel_rfl))), trivial⟩ (fun w284 hS285 => QB.mk .nil (by kernel_rfl)) (fun b286 => ?_)
                  refine HOPS.nil ?_
                  refine thn_n ?_
                  exact ⟨true, trivial, Bp.of Bp.t (by first | (simp only [h142, h171, h209, h243, h274, iff_false, false_iff, iff_true, true_iff, Classical.not_not, and_true, true_and, and_false, false_and, or_true, true_or, or_false, false_or, not_true_eq_false, not_false_eq_true, and_self, or_self, iff_self]; done) | (simp [h142, h171, h209, h243, h274]; done) | simp_all), by kernel_rfl, ((((hp268.pull2).pull1).pull2).sub (.cons_cons _ (.cons_cons _ (.cons_cons _ (.slnil)))))⟩
              · refine HOPS.take 0 {} [] [1, 2, 3, 7, 15, 17, 19, 20, 146] [.slice s1.a s1.n s1.c, .slice s2.a s2.n s2.c, .pointer (some ⟨g3, 0, none⟩), .int .i64 (qSize c), .pointer (some ⟨g107, 0, none⟩), .pointer (some ⟨g115, 0, none⟩), .int .i64 ((cntB (addL c l1) 256 : Nat) : Int), .int .i64 ((cntB (addL c l2) 256 : Nat) : Int), .bool (decide (¬ (((cntB (addL c l2) 256 : Nat) : Int) = ((cntB (addL c l2) 256 : Nat) : Int))))] (by kernel_rfl) ⟨(show Ld Try.prog w237 3 ⟨g3, 0, none⟩ (.int .i64 c.N) from (Ld.row1 (P := Try.prog) (t := 3) (o := 0) (v := .int .i64 c.N) hp238.get2 (by kernel_rfl))), trivial⟩ (fun _ _ => QB.mk .nil (by kernel_rfl)) (fun b244 => ?_)
                refine HOPS.re [.slice s1.a s1.n s1.c, .slice s2.a s2.n s2.c, .pointer (some ⟨g3, 0, none⟩), .int .i64 (qSize c), .pointer (some ⟨g107, 0, none⟩), .pointer (some ⟨g115, 0, none⟩), .int .i64 ((cntB (addL c l1) 256 : Nat) : Int), .int .i64 ((cntB (addL c l2) 256 : Nat) : Int), .bool true] (by rw [show (decide (¬ (((cntB (addL c l2) 256 : Nat) : Int) = ((cntB (addL c l2) 256 : Nat) : Int)))) = true from Bp.dec.tt h243]) ?_
                refine HOPS.take 4 {} [] [1, 2, 3, 7, 15, 17, 19, 20, 146, 147, 151] [.slice s1.a s1.n s1.c, .slice s2.a s2.n s2.c, .pointer (some ⟨g3, 0, none⟩), .int .i64 (qSize c), .pointer (some ⟨g107, 0, none⟩), .pointer (some ⟨g115, 0, none⟩), .int .i64 ((cntB (addL c l1) 256 : Nat) : Int), .int .i64 ((cntB (addL c l2) 256 : Nat) : Int), .bool true, undef, undef] (by kernel_rfl) ⟨(show Ld Try.prog w237 3 ⟨g3, 0, none⟩ (.int .i64 c.N) from (Ld.row1 (P := Try.prog) (t := 3) (o := 0) (v := .int .i64 c.N) hp238.get2 (by kernel_rfl))), trivial⟩ (fun w245 hS246 => QB.mk .nil (by kernel_rfl)) (fun b247 => ?_)
                refine HOPS.one _ rfl {} [] [1, 2, 3, 7, 15, 17, 19, 20, 146, 148, 151] [.slice s1.a s1.n s1.c, .slice s2.a s2.n s2.c, .pointer (some ⟨g3, 0, none⟩), .int .i64 (qSize c), .pointer (some ⟨g107, 0, none⟩), .pointer (some ⟨g115, 0, none⟩), .int .i64 ((cntB (addL c l1) 256 : Nat) : Int), .int .i64 ((cntB (addL c l2) 256 : Nat) : Int), .bool true, undef, undef] .nil (by kernel_rfl) ⟨(show Ld Try.prog w237 3 ⟨g3, 0, none⟩ (.int .i64 c.N) from (Ld.row1 (P := Try.prog) (t := 3) (o := 0) (v := .int .i64 c.N) hp238.get2 (by kernel_rfl))), trivial⟩ (fun b248 => ?_)
                refine HOPS.take 7 { wraps := [153] } [] [1, 2, 3, 15, 17, 19, 154, 155, 159] [.slice s1.a s1.n s1.c, .slice s2.a s2.n s2.c, .pointer (some ⟨g3, 0, none⟩), .pointer (some ⟨g107, 0, none⟩), .pointer (some ⟨g115, 0, none⟩), .int .i64 ((cntB (addL c l1) 256 : Nat) : Int), .bool true, undef, undef] (by kernel_rfl) ⟨(show Ld Try.prog w237 3 ⟨g3, 0, none⟩ (.int .i64 c.N) from (Ld.row1 (P := Try.prog) (t := 3) (o := 0) (v := .int .i64 c.N) hp238.get2 (by kernel_rfl))), trivial⟩ (fun w249 hS250 => QB.mk .nil (by kernel_rfl)) (fun b251 => ?_)
                refine HOPS.one _ rfl {} [] [1, 2, 3, 15, 17, 19, 154, 156, 159] [.slice s1.a s1.n s1.c, .slice s2.a s2.n s2.c, .pointer (some ⟨g3, 0, none⟩), .pointer (some ⟨g107, 0, none⟩), .pointer (some ⟨g115, 0, none⟩), .int .i64 ((cntB (addL c l1) 256 : Nat) : Int), .bool true, undef, undef] .nil (by kernel_rfl) ⟨(show Ld Try.prog w237 3 ⟨g3, 0, none⟩ (.int .i64 c.N) from (Ld.row1 (P := Try.prog) (t := 3) (o := 0) (v := .int .i64 c.N) hp238.get2 (by kernel_rfl))), trivial⟩ (fun b252 => ?_)
                refine HOPS.take 8 { wraps := [161] } [] [1, 2, 3, 15, 17, 162, 163, 169] [.slice s1.a s1.n s1.c, .slice s2.a s2.n s2.c, .pointer (some ⟨g3, 0, none⟩), .pointer (some ⟨g107, 0, none⟩), .pointer (some ⟨g115, 0, none⟩), .bool true, undef, undef] (by kernel_rfl) ⟨(show Ld Try.prog w237 3 ⟨g3, 0, none⟩ (.int .i64 c.N) from (Ld.row1 (P := Try.prog) (t := 3) (o := 0) (v := .int .i64 c.N) hp238.get2 (by kernel_rfl))), trivial⟩ (fun w253 hS254 => QB.mk .nil (by kernel_rfl)) (fun b255 => ?_)
                refine HOPS.one _ rfl {} [] [1, 2, 3, 15, 17, 162, 164, 169] [.slice s1.a s1.n s1.c, .slice s2.a s2.n s2.c, .pointer (some ⟨g3, 0, none⟩), .pointer (some ⟨g107, 0, none⟩), .pointer (some ⟨g115, 0, none⟩), .bool true, undef, undef] .nil (by kernel_rfl) ⟨(show Ld Try.prog w237 3 ⟨g3, 0, none⟩ (.int .i64 c.N) from (Ld.row1 (P := Try.prog) (t := 3) (o := 0) (v := .int .i64 c.N) hp238.get2 (by kernel_rfl))), trivial⟩ (fun b256 => ?_)
                refine HOPS.take 3 { wraps := [171] } [] [1, 2, 3, 15, 17, 171] [.slice s1.a s1.n s1.c, .slice s2.a s2.n s2.c, .pointer (some ⟨g3, 0, none⟩), .pointer (some ⟨g107, 0, none⟩), .pointer (some ⟨g115, 0, none⟩), .bool true] (by kernel_rfl) ⟨(show Ld Try.prog w237 3 ⟨g3, 0, none⟩ (.int .i64 c.N) from (Ld.row1 (P := Try.prog) (t := 3) (o := 0) (v := .int .i64 c.N) hp238.get2 (by kernel_rfl))), trivial⟩ (fun w257 hS258 => QB.mk .nil (by kernel_rfl)) (fun b259 => ?_)
                refine HOPS.nil ?_
                refine thn_n ?_
                exact ⟨true, trivial, Bp.of Bp.t (by first | (simp only [h142, h171, h209, h243, iff_false, false_iff, iff_true, true_iff, Classical.not_not, and_true, true_and, and_false, false_and, or_true, true_or, or_false, false_or, not_true_eq_false, not_false_eq_true, and_self, or_self, iff_self]; done) | (simp [h142, h171, h209, h243]; done) | simp_all), by kernel_rfl, hp238⟩
            · refine HOPS.take 0 {} [] [1, 2, 3, 7, 15, 17, 19, 20, 140] [.slice s1.a s1.n s1.c, .slice s2.a s2.n s2.c, .pointer (some ⟨g3, 0, none⟩), .int .i64 (qSize c), .pointer (some ⟨g107, 0, none⟩), .pointer (some ⟨g115, 0, none⟩), .int .i64 ((cntB (addL c l1) 256 : Nat) : Int), .int .i64 ((cntB (addL c l2) 256 : Nat) : Int), .bool (decide (¬ (((cntB (addL c l1) 256 : Nat) : Int) = ((cntB (addL c l1) 256 : Nat) : Int))))] (by kernel_rfl) ⟨(show Ld Try.prog w203 3 ⟨g3, 0, none⟩ (.int .i64 c.N) from (Ld.row1 (P := Try.prog) (t := 3) (o := 0) (v := .int .i64 c.N) hp204.get2 (by kernel_rfl))), trivial⟩ (fun _ _ => QB.mk .nil (by kernel_rfl)) (fun b210 => ?_)
              refine HOPS.re [.slice s1.a s1.n s1.c, .slice s2.a s2.n s2.c, .pointer (some ⟨g3, 0, none⟩), .int .i64 (qSize c), .pointer (some ⟨g107, 0, none⟩), .pointer (some ⟨g115, 0, none⟩), .int .i64 ((cntB (addL c l1) 256 : Nat) : Int), .int .i64 ((cntB (addL c l2) 256 : Nat) : Int), .bool true] (by rw [show (decide (¬ (((cntB (addL c l1) 256 : Nat) : Int) = ((cntB (addL c l1) 256 : Nat) : Int)))) = true from Bp.dec.tt h209]) ?_
              refine HOPS.take 2 {} [] [1, 2, 3, 7, 15, 17, 19, 20, 140, 141, 143] [.slice s1.a s1.n s1.c, .slice s2.a s2.n s2.c, .pointer (some ⟨g3, 0, none⟩), .int .i64 (qSize c), .pointer (some ⟨g107, 0, none⟩), .pointer (some ⟨g115, 0, none⟩), .int .i64 ((cntB (addL c l1) 256 : Nat) : Int), .int .i64 ((cntB (addL c l2) 256 : Nat) : Int), .bool true, undef, undef] (by kernel_rfl) ⟨(show Ld Try.prog w203 3 ⟨g3, 0, none⟩ (.int .i64 c.N) from (Ld.row1 (P := Try.prog) (t := 3) (o := 0) (v := .int .i64 c.N) hp204.get2 (by kernel_rfl))), trivial⟩ (fun w211 hS212 => QB.mk .nil (by kernel_rfl)) (fun b213 => ?_)
              refine HOPS.one _ rfl {} [] [1, 2, 3, 7, 15, 17, 19, 20, 140, 142, 143] [.slice s1.a s1.n s1.c, .slice s2.a s2.n s2.c, .pointer (some ⟨g3, 0, none⟩), .int .i64 (qSize c), .pointer (some ⟨g107, 0, none⟩), .pointer (some ⟨g115, 0, none⟩), .int .i64 ((cntB (addL c l1) 256 : Nat) : Int), .int .i64 ((cntB (addL c l2) 256 : Nat) : Int), .bool true, undef, undef] .nil (by kernel_rfl) ⟨(show Ld Try.prog w203 3 ⟨g3, 0, none⟩ (.int .i64 c.N) from (Ld.row1 (P := Try.prog) (t := 3) (o := 0) (v := .int .i64 c.N) hp204.get2 (by kernel_rfl))), trivial⟩ (fun b214 => ?_)
              refine HOPS.take 7 { wraps := [145] } [] [1, 2, 3, 7, 15, 17, 19, 20, 146, 147, 151] [.slice s1.a s1.n s1.c, .slice s2.a s2.n s2.c, .pointer (some ⟨g3, 0, none⟩), .int .i64 (qSize c), .pointer (some ⟨g107, 0, none⟩), .pointer (some ⟨g115, 0, none⟩), .int .i64 ((cntB (addL c l1) 256 : Nat) : Int), .int .i64 ((cntB (addL c l2) 256 : Nat) : Int), .bool true, undef, undef] (by kernel_rfl) ⟨(show Ld Try.prog w203 3 ⟨g3, 0, none⟩ (.int .i64 c.N) from (Ld.row1 (P := Try.prog) (t := 3) (o := 0) (v := .int .i64 c.N) hp204.get2 (by kernel_rfl))), trivial⟩ (fun w215 hS216 => QB.mk .nil (by kernel_rfl)) (fun b217 => ?_)
              refine HOPS.one _ rfl {} [] [1, 2, 3, 7, 15, 17, 19, 20, 146, 148, 151] [.slice s1.a s1.n s1.c, .slice s2.a s2.n s2.c, .pointer (some ⟨g3, 0, none⟩), .int .i64 (qSize c), .pointer (some ⟨g107, 0, none⟩), .pointer (some ⟨g115, 0, none⟩), .int .i64 ((cntB (addL c l1) 256 : Nat) : Int), .int .i64 ((cntB (addL c l2) 256 : Nat) : Int), .bool true, undef, undef] .nil (by kernel_rfl) ⟨(show Ld Try.prog w203 3 ⟨g3, 0, none⟩ (.int .i64 c.N) from (Ld.row1 (P := Try.prog) (t := 3) (o := 0) (v := .int .i64 c.N) hp204.get2 (by kernel_rfl))), trivial⟩ (fun b218 => ?_)
              refine HOPS.take 7 { wraps := [153] } [] [1, 2, 3, 15, 17, 19, 154, 155, 159] [.slice s1.a s1.n s1.c, .slice s2.a s2.n s2.c, .pointer (some ⟨g3, 0, none⟩), .pointer (some ⟨g107, 0, none⟩), .pointer (some ⟨g115, 0, none⟩), .int .i64 ((cntB (addL c l1) 256 : Nat) : Int), .bool true, undef, undef] (by kernel_rfl) ⟨(show Ld Try.prog w203 3 ⟨g3, 0, none⟩ (.int .i64 c.N) from (Ld.row1 (P := Try.prog) (t := 3) (o := 0) (v := .int .i64 c.N) hp204.get2 (by kernel_rfl))), trivial⟩ (fun w219 hS220 => QB.mk .nil (by kernel_rfl)) (fun b221 => ?_)
              refine HOPS.one _ rfl {} [] [1, 2, 3, 15, 17, 19, 154, 156, 159] [.slice s1.a s1.n s1.c, .slice s2.a s2.n s2.c, .pointer (some ⟨g3, 0, none⟩), .pointer (some ⟨g107, 0, none⟩), .pointer (some ⟨g115, 0, none⟩), .int .i64 ((cntB (addL c l1) 256 : Nat) : Int), .bool true, undef, undef] .nil (by kernel_rfl) ⟨(show Ld Try.prog w203 3 ⟨g3, 0, none⟩ (.int .i64 c.N) from (Ld.row1 (P := Try.prog) (t := 3) (o := 0) (v := .int .i64 c.N) hp204.get2 (by kernel_rfl))), trivial⟩ (fun b222 => ?_)
              refine HOPS.take 8 { wraps := [161] } [] [1, 2, 3, 15, 17, 162, 163, 169] [.slice s1.a s1.n s1.c, .slice s2.a s2.n s2.c, .pointer (some ⟨g3, 0, none⟩), .pointer (some ⟨g107, 0, none⟩), .pointer (some ⟨g115, 0, none⟩), .bool true, undef, undef] (by kernel_rfl) ⟨(show Ld Try.prog w203 3 ⟨g3, 0, none⟩ (.int .i64 c.N) from (Ld.row1 (P := Try.prog) (t := 3) (o := 0) (v := .int .i64 c.N) hp204.get2 (by kernel_rfl))), trivial⟩ (fun w223 hS224 => QB.mk .nil (by kernel_rfl)) (fun b225 => ?_)
              refine HOPS.one _ rfl {} [] [1, 2, 3, 15, 17, 162, 164, 169] [.slice s1.a s1.n s1.c, .slice s2.a s2.n s2.c, .pointer (some ⟨g3, 0, none⟩), .pointer (some ⟨g107, 0, none⟩), .pointer (some ⟨g115, 0, none⟩), .bool true, undef, undef] .nil (by kernel_rfl) ⟨(show Ld Try.prog w203 3 ⟨g3, 0, none⟩ (.int .i64 c.N) from (Ld.row1 (P := Try.prog) (t := 3) (o := 0) (v := .int .i64 c.N) hp204.get2 (by kernel_rfl))), trivial⟩ (fun b226 => ?_)
              refine HOPS.take 3 { wraps := [171] } [] [1, 2, 3, 15, 17, 171] [.slice s1.a s1.n s1.c, .slice s2.a s2.n s2.c, .pointer (some ⟨g3, 0, none⟩), .pointer (some ⟨g107, 0, none⟩), .pointer (some ⟨g115, 0, none⟩), .bool true] (by kernel_rfl) ⟨(show Ld Try.prog w203 3 ⟨g3, 0, none⟩ (.int .i64 c.N) from (Ld.row1 (P := Try.prog) (t := 3) (o := 0) (v := .int .i64 c.N) hp204.get2 (by kernel_rfl))), trivial⟩ (fun w227 hS228 => QB.mk .nil (by kernel_rfl)) (fun b229 => ?_)
              refine HOPS.nil ?_
              refine thn_n ?_
              exact ⟨true, trivial, Bp.of Bp.t (by first | (simp only [h142, h171, h209, iff_false, false_iff, iff_true, true_iff, Classical.not_not, and_true, true_and, and_false, false_and, or_true, true_or, or_false, false_or, not_true_eq_false, not_false_eq_true, and_self, or_self, iff_self]; done) | (simp [h142, h171, h209]; done) | simp_all), by kernel_rfl, ((((hp204.pull2).pull1).pull2).sub (.cons_cons _ (.cons_cons _ (.cons_cons _ (.slnil)))))⟩
      rintro e326 w327 ⟨x324, hd329, hb325, hE330, hp328⟩
      obtain ⟨b331, rfl⟩ := toMk hE330
      clear hE330
      clear hd329
      refine WP.test (p := ((((cntB (addL c l1) 256 : Nat) : Int) < 0)) ∨ ((¬ (((cntB (addL c l1) 256 : Nat) : Int) < 0)) ∧ (((cntB (addL c l2) 256 : Nat) : Int) < 0)) ∨ ((((cntB (addL c l1) 256 : Nat) : Int) < 0)) ∨ ((¬ (((cntB (addL c l1) 256 : Nat) : Int) < 0)) ∧ (((cntB (addL c l2) 256 : Nat) : Int) < 0)) ∨ ((¬ (((cntB (addL c l1) 256 : Nat) : Int) < 0)) ∧ (¬ (((cntB (addL c l2) 256 : Nat) : Int) < 0)) ∧ (¬ (((cntB (addL c l1) 256 : Nat) : Int) = ((cntB (addL c l1) 256 : Nat) : Int)))) ∨ ((¬ (((cntB (addL c l1) 256 : Nat) : Int) < 0)) ∧ (¬ (((cntB (addL c l2) 256 : Nat) : Int) < 0)) ∧ (((cntB (addL c l1) 256 : Nat) : Int) = ((cntB (addL c l1) 256 : Nat) : Int)) ∧ (¬ (((cntB (addL c l2) 256 : Nat) : Int) = ((cntB (addL c l2) 256 : Nat) : Int)))) ∨ ((¬ (((cntB (addL c l1) 256 : Nat) : Int) < 0)) ∧ (¬ (((cntB (addL c l2) 256 : Nat) : Int) < 0)) ∧ (((cntB (addL c l1) 256 : Nat) : Int) = ((cntB (addL c l1) 256 : Nat) : Int)) ∧ (((cntB (addL c l2) 256 : Nat) : Int) = ((cntB (addL c l2) 256 : Nat) : Int)) ∧ (¬ (((qSize c ≤ ((cntB (addL c l1) 256 : Nat) : Int)) ↔ ((qSize c) ≤ ((cntB (addL c l1) 256 : Nat) : Int)))))) ∨ ((¬ (((cntB (addL c l1) 256 : Nat) : Int) < 0)) ∧ (¬ (((cntB (addL c l2) 256 : Nat) : Int) < 0)) ∧ (((cntB (addL c l1) 256 : Nat) : Int) = ((cntB (addL c l1) 256 : Nat) : Int)) ∧ (((cntB (addL c l2) 256 : Nat) : Int) = ((cntB (addL c l2) 256 : Nat) : Int)) ∧ ((qSize c ≤ ((cntB (addL c l1) 256 : Nat) : Int)) ↔ ((qSize c) ≤ ((cntB (addL c l1) 256 : Nat) : Int))) ∧ (¬ (((qSize c ≤ ((cntB (addL c l2) 256 : Nat) : Int)) ↔ ((qSize c) ≤ ((cntB (addL c l2) 256 : Nat) : Int)))))) ∨ ((¬ (((cntB (addL c l1) 256 : Nat) : Int) < 0)) ∧ (¬ (((cntB (addL c l2) 256 : Nat) : Int) < 0)) ∧ (((cntB (addL c l1) 256 : Nat) : Int) = ((cntB (addL c l1) 256 : Nat) : Int)) ∧ (((cntB (addL c l2) 256 : Nat) : Int) = ((cntB (addL c l2) 256 : Nat) : Int)) ∧ ((qSize c ≤ ((cntB (addL c l1) 256 : Nat) : Int)) ↔ ((qSize c) ≤ ((cntB (addL c l1) 256 : Nat) : Int))) ∧ ((qSize c ≤ ((cntB (addL c l2) 256 : Nat) : Int)) ↔ ((qSize c) ≤ ((cntB (addL c l2) 256 : Nat) : Int))) ∧ (¬ ((((sel (addL c l1) false (c.N).toNat).length : Nat) : Int) = (c.N - ((cntB (addL c l1) 256 : Nat) : Int)))))) rfl hb325 (fun h332 => ?_) (fun h332 => ?_)
      · refine WP.seq ?_
        refine WP.pure {} [] [6] [.bool false] .nil (by kernel_rfl) (fun b333 => ?_)
        refine thn_n ?_
        refine WP.ret ?_
        refine thn_r ?_
        refine bodyQ.of _ rfl [.bool false] ⟨rfl, trivial⟩ ?_
        exfalso
        obtain ⟨fa, fb⟩ := sel_facts (show okCfg c from h21) (addL_small c l1)
        clear h99; omega
      · refine WP.skip ?_
        refine thn_n ?_
        refine WP.seq ?_
        refine WP.region _ rfl (by kernel_rfl) ?_
        refine OPS.batch 2 {} [] [1, 2, 3, 15, 17, 173, 174] [.slice s1.a s1.n s1.c, .slice s2.a s2.n s2.c, .pointer (some ⟨g3, 0, none⟩), .pointer (some ⟨g107, 0, none⟩), .pointer (some ⟨g115, 0, none⟩), .pointer (some ⟨g107, 0, none⟩), .pointer (some ⟨g115, 0, none⟩)] .nil (by kernel_rfl) (fun b334 => ?_)
        have hp337 := hp328.pull0
        have hp338 := hp337.pull1
        refine OPS.cons (opStep.call (some 175) [.pointer (some ⟨g107, 0, none⟩), .pointer (some ⟨g115, 0, none⟩)] (by kernel_rfl) (q_And _ _ _ _ c (addL c l1) (addL c l2) _ (show okCfg c from h21) hp338) ?_)
        rintro _ w339 ⟨g341, rfl, hp340⟩
        refine ⟨_, rfl, ?_⟩
        refine OPS.batch 5 {} [] [1, 2, 3, 15, 17, 21, 22] [.slice s1.a s1.n s1.c, .slice s2.a s2.n s2.c, .pointer (some ⟨g3, 0, none⟩), .pointer (some ⟨g107, 0, none⟩), .pointer (some ⟨g115, 0, none⟩), .pointer (some ⟨g341, 0, none⟩), .int .i64 0] .nil (by kernel_rfl) (fun b342 => ?_)
        refine OPS.nil ?_
        refine thn_n ?_
        refine WP.seq ?_
        refine WP.seq ?_
        refine WP.pure { wraps := [183] } [] [1, 2, 3, 15, 17, 21, 183] [.slice s1.a s1.n s1.c, .slice s2.a s2.n s2.c, .pointer (some ⟨g3, 0, none⟩), .pointer (some ⟨g107, 0, none⟩), .pointer (some ⟨g115, 0, none⟩), .pointer (some ⟨g341, 0, none⟩), .bool false] .nil (by kernel_rfl) (fun b343 => ?_)
        refine thn_n ?_
        refine WP.condF rfl ?_
        refine WP.skip ?_
        refine thn_n ?_
        refine WP.seq ?_
        refine WP.pure {} [] [1, 2, 3, 15, 17, 21, 23] [.slice s1.a s1.n s1.c, .slice s2.a s2.n s2.c, .pointer (some ⟨g3, 0, none⟩), .pointer (some ⟨g107, 0, none⟩), .pointer (some ⟨g115, 0, none⟩), .pointer (some ⟨g341, 0, none⟩), .int .i64 0] .nil (by kernel_rfl) (fun b344 => ?_)
        refine thn_n ?_
        refine WP.seq ?_
        refine WP.seq ?_
        refine WP.pure {} [] [1, 2, 3, 15, 17, 21, 23, 24] [.slice s1.a s1.n s1.c, .slice s2.a s2.n s2.c, .pointer (some ⟨g3, 0, none⟩), .pointer (some ⟨g107, 0, none⟩), .pointer (some ⟨g115, 0, none⟩), .pointer (some ⟨g341, 0, none⟩), .int .i64 0, .int .i64 0] .nil (by kernel_rfl) (fun b345 => ?_)
        refine thn_n ?_
        refine WP.block ?_
        refine WP.loop (fun mz_ e346 w347 => ∃ (i : Nat) (z : Int), mz_ = c.N.toNat - i ∧ ((i : Int) ≤ c.N ∧ z = ((cntB (addL c l1 &&& addL c l2) i : Nat) : Int)) ∧ List.map e346 [1, 2, 3, 15, 17, 21, 23, 24] = [.slice s1.a s1.n s1.c, .slice s2.a s2.n s2.c, .pointer (some ⟨g3, 0, none⟩), .pointer (some ⟨g107, 0, none⟩), .pointer (some ⟨g115, 0, none⟩), .pointer (some ⟨g341, 0, none⟩), .int .i64 z, .int .i64 (i : Int)] ∧ Hp w Non [Res.row g341 [.int .i64 c.N, .int .i64 c.K, .int .i64 c.Delta, .int .u64 ((wd ((addL c l1) &&& (addL c l2)) 0 : Nat) : Int), .int .u64 ((wd ((addL c l1) &&& (addL c l2)) 1 : Nat) : Int), .int .u64 ((wd ((addL c l1) &&& (addL c l2)) 2 : Nat) : Int), .int .u64 ((wd ((addL c l1) &&& (addL c l2)) 3 : Nat) : Int)] 89, Res.row g107 [.int .i64 c.N, .int .i64 c.K, .int .i64 c.Delta, .int .u64 ((wd (addL c l1) 0 : Nat) : Int), .int .u64 ((wd (addL c l1) 1 : Nat) : Int), .int .u64 ((wd (addL c l1) 2 : Nat) : Int), .int .u64 ((wd (addL c l1) 3 : Nat) : Int)] 89, Res.row g115 [.int .i64 c.N, .int .i64 c.K, .int .i64 c.Delta, .int .u64 ((wd (addL c l2) 0 : Nat) : Int), .int .u64 ((wd (addL c l2) 1 : Nat) : Int), .int .u64 ((wd (addL c l2) 2 : Nat) : Int), .int .u64 ((wd (addL c l2) 3 : Nat) : Int)] 89, Res.row g3 [.int .i64 c.N, .int .i64 c.K, .int .i64 c.Delta] 23] w347) (c.N.toNat - (0)) ⟨0, 0, rfl, ⟨by omega, rfl⟩, by kernel_rfl, hp340⟩ ?_
        rintro _ e346 w347 ⟨i, z, rfl, hI349, hE350, hp348⟩
        obtain ⟨b351, rfl⟩ := toMk hE350
        clear hE350
        obtain ⟨pa, pb⟩ := hI349
        have pc := cntB_le (addL c l1 &&& addL c l2) i
        refine WP.seq ?_
        refine WP.seq ?_
        refine WP.pure {} [.int .i64 c.N] [1, 2, 3, 15, 17, 21, 23, 24, 187] [.slice s1.a s1.n s1.c, .slice s2.a s2.n s2.c, .pointer (some ⟨g3, 0, none⟩), .pointer (some ⟨g107, 0, none⟩), .pointer (some ⟨g115, 0, none⟩), .pointer (some ⟨g341, 0, none⟩), .int .i64 z, .int .i64 (i : Int), .bool (decide ((i : Int) < c.N))] (.cons (Ld.row1 (P := Try.prog) (t := 3) (o := 0) (v := .int .i64 c.N) hp348.get3 (by kernel_rfl)) .nil) (by kernel_rfl) (fun b352 => ?_)
        refine thn_n ?_
        refine WP.test (p := (i : Int) < c.N) rfl Bp.dec (fun h353 => ?_) (fun h353 => ?_)
        · refine WP.skip ?_
          refine thn_n ?_
          refine WP.seq ?_
          refine WP.block ?_
          refine WP.cut (fun e377 w378 => ∃ (x375 : Bool), (True) ∧ Bp x375 (((i : Int) ∈ l1) ∧ ((i : Int) ∈ l2)) ∧ List.map e377 [1, 2, 3, 15, 17, 21, 23, 24, 25] = [.slice s1.a s1.n s1.c, .slice s2.a s2.n s2.c, .pointer (some ⟨g3, 0, none⟩), .pointer (some ⟨g107, 0, none⟩), .pointer (some ⟨g115, 0, none⟩), .pointer (some ⟨g341, 0, none⟩), .int .i64 z, .int .i64 (i : Int), .bool x375] ∧ Hp w Non [Res.row g341 [.int .i64 c.N, .int .i64 c.K, .int .i64 c.Delta, .int .u64 ((wd ((addL c l1) &&& (addL c l2)) 0 : Nat) : Int), .int .u64 ((wd ((addL c l1) &&& (addL c l2)) 1 : Nat) : Int), .int .u64 ((wd ((addL c l1) &&& (addL c l2)) 2 : Nat) : Int), .int .u64 ((wd ((addL c l1) &&& (addL c l2)) 3 : Nat) : Int)] 89, Res.row g107 [.int .i64 c.N, .int .i64 c.K, .int .i64 c.Delta, .int .u64 ((wd (addL c l1) 0 : Nat) : Int), .int .u64 ((wd (addL c l1) 1 : Nat) : Int), .int .u64 ((wd (addL c l1) 2 : Nat) : Int), .int .u64 ((wd (addL c l1) 3 : Nat) : Int)] 89, Res.row g115 [.int .i64 c.N, .int .i64 c.K, .int .i64 c.Delta, .int .u64 ((wd (addL c l2) 0 : Nat) : Int), .int .u64 ((wd (addL c l2) 1 : Nat) : Int), .int .u64 ((wd (addL c l2) 2 : Nat) : Int), .int .u64 ((wd (addL c l2) 3 : Nat) : Int)] 89, Res.row g3 [.int .i64 c.N, .int .i64 c.K, .int .i64 c.Delta] 23] w378) ?_ ?_
          · refine WP.region _ rfl (by kernel_rfl) ?_
            refine OPS.batch 2 {} [] [1, 2, 3, 15, 17, 21, 23, 24, 190, 191] [.slice s1.a s1.n s1.c, .slice s2.a s2.n s2.c, .pointer (some ⟨g3, 0, none⟩), .pointer (some ⟨g107, 0, none⟩), .pointer (some ⟨g115, 0, none⟩), .pointer (some ⟨g341, 0, none⟩), .int .i64 z, .int .i64 (i : Int), .slice s1.a s1.n s1.c, .int .i64 (i : Int)] .nil (by kernel_rfl) (fun b355 => ?_)
            refine OPS.cons (opStep.call (some 192) [.slice s1.a s1.n s1.c, .int .i64 (i : Int)] (by kernel_rfl) (t_has l1 s1.a s1.n s1.c (i : Int) _ (by first | omega | (rw [List.length_take]; omega)) (by first | omega | (rw [List.length_take]; omega)) (o1.rd.at hp348)) ?_)
            rintro _ w358 ⟨b361, rfl, hb362, hf359⟩
            refine ⟨_, rfl, ?_⟩
            have hp360 := hp348.step hf359
            refine OPS.batch 1 {} [] [1, 2, 3, 15, 17, 21, 23, 24, 193] [.slice s1.a s1.n s1.c, .slice s2.a s2.n s2.c, .pointer (some ⟨g3, 0, none⟩), .pointer (some ⟨g107, 0, none⟩), .pointer (some ⟨g115, 0, none⟩), .pointer (some ⟨g341, 0, none⟩), .int .i64 z, .int .i64 (i : Int), .bool b361] .nil (by kernel_rfl) (fun b363 => ?_)
            by_cases h364 : (i : Int) ∈ l1
            · rw [show b361 = true from hb362.tt h364]
              refine OPS.batch 2 {} [] [1, 2, 3, 15, 17, 21, 23, 24, 193, 194, 195] [.slice s1.a s1.n s1.c, .slice s2.a s2.n s2.c, .pointer (some ⟨g3, 0, none⟩), .pointer (some ⟨g107, 0, none⟩), .pointer (some ⟨g115, 0, none⟩), .pointer (some ⟨g341, 0, none⟩), .int .i64 z, .int .i64 (i : Int), .bool true, .slice s2.a s2.n s2.c, .int .i64 (i : Int)] .nil (by kernel_rfl) (fun b365 => ?_)
              refine OPS.want (by kernel_rfl) ?_
              refine OPS.cons (opStep.call (some 196) [.slice s2.a s2.n s2.c, .int .i64 (i : Int)] (by kernel_rfl) (t_has l2 s2.a s2.n s2.c (i : Int) _ (by first | omega | (rw [List.length_take]; omega)) (by first | omega | (rw [List.length_take]; omega)) (o2.rd.at hp360)) ?_)
              rintro _ w368 ⟨b371, rfl, hb372, hf369⟩
              refine ⟨_, rfl, ?_⟩
              have hp370 := hp360.step hf369
              refine OPS.batch 2 { wraps := [197] } [] [1, 2, 3, 15, 17, 21, 23, 24, 25] [.slice s1.a s1.n s1.c, .slice s2.a s2.n s2.c, .pointer (some ⟨g3, 0, none⟩), .pointer (some ⟨g107, 0, none⟩), .pointer (some ⟨g115, 0, none⟩), .pointer (some ⟨g341, 0, none⟩), .int .i64 z, .int .i64 (i : Int), .bool b371] .nil (by kernel_rfl) (fun b373 => ?_)
              refine OPS.nil ?_
              refine thn_n ?_
              exact ⟨b371, trivial, Bp.of hb372 (by first | (simp only [h364, iff_false, false_iff, iff_true, true_iff, Classical.not_not, and_true, true_and, and_false, false_and, or_true, true_or, or_false, false_or, not_true_eq_false, not_false_eq_true, and_self, or_self, iff_self]; done) | (simp [h364]; done) | simp_all), by kernel_rfl, hp370⟩
            · rw [show b361 = false from hb362.ff h364]
              refine OPS.batch 5 { wraps := [197] } [] [1, 2, 3, 15, 17, 21, 23, 24, 25] [.slice s1.a s1.n s1.c, .slice s2.a s2.n s2.c, .pointer (some ⟨g3, 0, none⟩), .pointer (some ⟨g107, 0, none⟩), .pointer (some ⟨g115, 0, none⟩), .pointer (some ⟨g341, 0, none⟩), .int .i64 z, .int .i64 (i : Int), .bool false] .nil (by kernel_rfl) (fun b374 => ?_)
              refine OPS.nil ?_
              refine thn_n ?_
              exact ⟨false, trivial, Bp.of Bp.f (by first | (simp only [h364, iff_false, false_iff, iff_true, true_iff, Classical.not_not, and_true, true_and, and_false, false_and, or_true, true_or, or_false, false_or, not_true_eq_false, not_false_eq_true, and_self, or_self, iff_self]; done) | (simp [h364]; done) | simp_all), by kernel_rfl, hp360⟩
          rintro e377 w378 ⟨x375, hd380, hb376, hE381, hp379⟩
          obtain ⟨b382, rfl⟩ := toMk hE381
          clear hE381
          clear hd380
          refine WP.seq ?_
          refine WP.seq ?_
          refine WP.region _ rfl (by kernel_rfl) ?_
          refine OPS.batch 2 {} [] [1, 2, 3, 15, 17, 21, 23, 24, 25, 198, 199] [.slice s1.a s1.n s1.c, .slice s2.a s2.n s2.c, .pointer (some ⟨g3, 0, none⟩), .pointer (some ⟨g107, 0, none⟩), .pointer (some ⟨g115, 0, none⟩), .pointer (some ⟨g341, 0, none⟩), .int .i64 z, .int .i64 (i : Int), .bool x375, .pointer (some ⟨g341, 0, none⟩), .int .i64 (i : Int)] .nil (by kernel_rfl) (fun b383 => ?_)
          have hp386 := hp379.pull0
          refine OPS.cons (opStep.call (some 200) [.pointer (some ⟨g341, 0, none⟩), .int .i64 (i : Int)] (by kernel_rfl) (q_Has _ _ _ c ((addL c l1) &&& (addL c l2)) _ (show okCfg c from h21) (i : Int) hp386) ?_)
          rintro _ w387 ⟨b390, rfl, hq389, hp388⟩
          refine ⟨_, rfl, ?_⟩
          refine OPS.batch 2 {} [] [1, 2, 3, 15, 17, 21, 23, 24, 25, 202] [.slice s1.a s1.n s1.c, .slice s2.a s2.n s2.c, .pointer (some ⟨g3, 0, none⟩), .pointer (some ⟨g107, 0, none⟩), .pointer (some ⟨g115, 0, none⟩), .pointer (some ⟨g341, 0, none⟩), .int .i64 z, .int .i64 (i : Int), .bool x375, .bool (!(b390 == x375))] .nil (by kernel_rfl) (fun b391 => ?_)
          refine OPS.nil ?_
          refine thn_n ?_
          refine WP.test (p := ¬ (((inN c (i : Int) ∧ ((addL c l1) &&& (addL c l2)).testBit ((i : Int)).toNat = true) ↔ (((i : Int) ∈ l1) ∧ ((i : Int) ∈ l2))))) rfl (Bp.not (Bp.beq hq389 hb376)) (fun h392 => ?_) (fun h392 => ?_)
          · refine WP.seq ?_
            refine WP.pure {} [] [6] [.bool false] .nil (by kernel_rfl) (fun b393 => ?_)
            refine thn_n ?_
            refine WP.ret ?_
            refine thn_r ?_
            refine blk_r ?_
            refine thn_r ?_
            refine thn_r ?_
            refine blk_r ?_
            refine thn_r ?_
            refine bodyQ.of _ rfl [.bool false] ⟨rfl, trivial⟩ ?_
            exfalso
            exact h392 (has_both (by omega))
          · replace h392 := Classical.not_not.1 h392
            refine WP.skip ?_
            refine thn_n ?_
            refine WP.seq ?_
            refine WP.pure {} [] [1, 2, 3, 15, 17, 21, 23, 24, 203] [.slice s1.a s1.n s1.c, .slice s2.a s2.n s2.c, .pointer (some ⟨g3, 0, none⟩), .pointer (some ⟨g107, 0, none⟩), .pointer (some ⟨g115, 0, none⟩), .pointer (some ⟨g341, 0, none⟩), .int .i64 z, .int .i64 (i : Int), .bool x375] .nil (by kernel_rfl) (fun b394 => ?_)
            refine thn_n ?_
            refine WP.test (p := ((i : Int) ∈ l1) ∧ ((i : Int) ∈ l2)) rfl hb376 (fun h395 => ?_) (fun h395 => ?_)
            · refine WP.pure {} [] [1, 2, 3, 15, 17, 21, 23, 24] [.slice s1.a s1.n s1.c, .slice s2.a s2.n s2.c, .pointer (some ⟨g3, 0, none⟩), .pointer (some ⟨g107, 0, none⟩), .pointer (some ⟨g115, 0, none⟩), .pointer (some ⟨g341, 0, none⟩), .int .i64 (z + 1), .int .i64 (i : Int)] (.cons (show Rng .i64 (z + 1) from Rng.i64 (by omega)) .nil) (by kernel_rfl) (fun b396 => ?_)
              refine blk_n ?_
              refine thn_n ?_
              refine WP.pure {} [] [1, 2, 3, 15, 17, 21, 23, 24] [.slice s1.a s1.n s1.c, .slice s2.a s2.n s2.c, .pointer (some ⟨g3, 0, none⟩), .pointer (some ⟨g107, 0, none⟩), .pointer (some ⟨g115, 0, none⟩), .pointer (some ⟨g341, 0, none⟩), .int .i64 (z + 1), .int .i64 ((i : Int) + 1)] (.cons (show Rng .i64 ((i : Int) + 1) from Rng.i64 (by omega)) .nil) (by kernel_rfl) (fun b397 => ?_)
              refine thn_n ?_
              exact ⟨c.N.toNat - (i + 1), (by omega), i + 1, z + 1, rfl, ⟨by omega, by rw [both_step (by omega), if_pos h395]; omega⟩, by kernel_rfl, hp388⟩
            · refine WP.skip ?_
              refine blk_n ?_
              refine thn_n ?_
              refine WP.pure {} [] [1, 2, 3, 15, 17, 21, 23, 24] [.slice s1.a s1.n s1.c, .slice s2.a s2.n s2.c, .pointer (some ⟨g3, 0, none⟩), .pointer (some ⟨g107, 0, none⟩), .pointer (some ⟨g115, 0, none⟩), .pointer (some ⟨g341, 0, none⟩), .int .i64 z, .int .i64 ((i : Int) + 1)] (.cons (show Rng .i64 ((i : Int) + 1) from Rng.i64 (by omega)) .nil) (by kernel_rfl) (fun b398 => ?_)
              refine thn_n ?_
              exact ⟨c.N.toNat - (i + 1), (by omega), i + 1, z, rfl, ⟨by omega, by rw [both_step (by omega), if_neg h395]; omega⟩, by kernel_rfl, hp388⟩
        · refine WP.exit ?_
          refine thn_x ?_
          refine thn_x ?_
          refine blk_hit ?_
          refine thn_n ?_
          refine WP.cut (fun e441 w442 => ∃ (x439 : Bool), (True) ∧ Bp x439 (((((cntB ((addL c l1) &&& (addL c l2)) 256 : Nat) : Int) = z) ∧ (¬ (qSize c ≤ ((cntB (addL c l1) 256 : Nat) : Int)))) ∨ ((((cntB ((addL c l1) &&& (addL c l2)) 256 : Nat) : Int) = z) ∧ (qSize c ≤ ((cntB (addL c l1) 256 : Nat) : Int)) ∧ (¬ (qSize c ≤ ((cntB (addL c l2) 256 : Nat) : Int)))) ∨ ((((cntB ((addL c l1) &&& (addL c l2)) 256 : Nat) : Int) = z) ∧ (qSize c ≤ ((cntB (addL c l1) 256 : Nat) : Int)) ∧ (qSize c ≤ ((cntB (addL c l2) 256 : Nat) : Int)) ∧ (c.K ≤ z))) ∧ List.map e441 [6] = [.bool x439] ∧ Hp w Non [Res.row g107 [.int .i64 c.N, .int .i64 c.K, .int .i64 c.Delta, .int .u64 ((wd (addL c l1) 0 : Nat) : Int), .int .u64 ((wd (addL c l1) 1 : Nat) : Int), .int .u64 ((wd (addL c l1) 2 : Nat) : Int), .int .u64 ((wd (addL c l1) 3 : Nat) : Int)] 89, Res.row g341 [.int .i64 c.N, .int .i64 c.K, .int .i64 c.Delta, .int .u64 ((wd ((addL c l1) &&& (addL c l2)) 0 : Nat) : Int), .int .u64 ((wd ((addL c l1) &&& (addL c l2)) 1 : Nat) : Int), .int .u64 ((wd ((addL c l1) &&& (addL c l2)) 2 : Nat) : Int), .int .u64 ((wd ((addL c l1) &&& (addL c l2)) 3 : Nat) : Int)] 89, Res.row g115 [.int .i64 c.N, .int .i64 c.K, .int .i64 c.Delta, .int .u64 ((wd (addL c l2) 0 : Nat) : Int), .int .u64 ((wd (addL c l2) 1 : Nat) : Int), .int .u64 ((wd (addL c l2) 2 : Nat) : Int), .int .u64 ((wd (addL c l2) 3 : Nat) : Int)] 89, Res.row g3 [.int .i64 c.N, .int .i64 c.K, .int .i64 c.Delta] 23] w442) ?_ ?_
          · refine WP.region _ rfl (by kernel_rfl) ?_
            refine OPS.batch 1 {} [] [3, 15, 17, 23, 206] [.pointer (some ⟨g3, 0, none⟩), .pointer (some ⟨g107, 0, none⟩), .pointer (some ⟨g115, 0, none⟩), .int .i64 z, .pointer (some ⟨g341, 0, none⟩)] .nil (by kernel_rfl) (fun b400 => ?_)
            have hp403 := hp348.pull0
            refine OPS.cons (opStep.call (some 207) [.pointer (some ⟨g341, 0, none⟩)] (by kernel_rfl) (q_Len _ _ _ c ((addL c l1) &&& (addL c l2)) _ (show okCfg c from h21)  hp403) ?_)
            rintro _ w404 ⟨rfl, hp405⟩
            refine ⟨_, rfl, ?_⟩
            refine OPS.batch 3 {} [] [3, 15, 17, 23, 210] [.pointer (some ⟨g3, 0, none⟩), .pointer (some ⟨g107, 0, none⟩), .pointer (some ⟨g115, 0, none⟩), .int .i64 z, .bool (decide (((cntB ((addL c l1) &&& (addL c l2)) 256 : Nat) : Int) = z))] .nil (by kernel_rfl) (fun b407 => ?_)
            by_cases h408 : ((cntB ((addL c l1) &&& (addL c l2)) 256 : Nat) : Int) = z
            · refine OPS.batch 0 {} [] [3, 15, 17, 23, 210] [.pointer (some ⟨g3, 0, none⟩), .pointer (some ⟨g107, 0, none⟩), .pointer (some ⟨g115, 0, none⟩), .int .i64 z, .bool (decide (((cntB ((addL c l1) &&& (addL c l2)) 256 : Nat) : Int) = z))] .nil (by kernel_rfl) (fun b409 => ?_)
              refine OPS.re [.pointer (some ⟨g3, 0, none⟩), .pointer (some ⟨g107, 0, none⟩), .pointer (some ⟨g115, 0, none⟩), .int .i64 z, .bool true] (by rw [show (decide (((cntB ((addL c l1) &&& (addL c l2)) 256 : Nat) : Int) = z)) = true from Bp.dec.tt h408]) ?_
              refine OPS.batch 1 {} [] [3, 17, 23, 210, 211] [.pointer (some ⟨g3, 0, none⟩), .pointer (some ⟨g115, 0, none⟩), .int .i64 z, .bool true, .pointer (some ⟨g107, 0, none⟩)] .nil (by kernel_rfl) (fun b410 => ?_)
              refine OPS.want (by kernel_rfl) ?_
              have hp413 := hp405.pull1
              refine OPS.cons (opStep.call (some 212) [.pointer (some ⟨g107, 0, none⟩)] (by kernel_rfl) (q_Met _ _ _ c (addL c l1) _ (show okCfg c from h21)  hp413) ?_)
              rintro _ w414 ⟨b417, rfl, hq416, hp415⟩
              refine ⟨_, rfl, ?_⟩
              refine OPS.batch 2 {} [] [3, 17, 23, 210, 214] [.pointer (some ⟨g3, 0, none⟩), .pointer (some ⟨g115, 0, none⟩), .int .i64 z, .bool true, .bool (!b417)] .nil (by kernel_rfl) (fun b418 => ?_)
              by_cases h419 : qSize c ≤ ((cntB (addL c l1) 256 : Nat) : Int)
              · refine OPS.batch 0 {} [] [3, 17, 23, 210, 214] [.pointer (some ⟨g3, 0, none⟩), .pointer (some ⟨g115, 0, none⟩), .int .i64 z, .bool true, .bool (!b417)] .nil (by kernel_rfl) (fun b422 => ?_)
                refine OPS.re [.pointer (some ⟨g3, 0, none⟩), .pointer (some ⟨g115, 0, none⟩), .int .i64 z, .bool true, .bool false] (by rw [show (!b417) = false from (Bp.not hq416).ff (fun k => k h419)]) ?_
                refine OPS.batch 1 {} [] [3, 23, 210, 214, 215] [.pointer (some ⟨g3, 0, none⟩), .int .i64 z, .bool true, .bool false, .pointer (some ⟨g115, 0, none⟩)] .nil (by kernel_rfl) (fun b423 => ?_)
                refine OPS.want (by kernel_rfl) ?_
                have hp426 := hp415.pull2
                refine OPS.cons (opStep.call (some 216) [.pointer (some ⟨g115, 0, none⟩)] (by kernel_rfl) (q_Met _ _ _ c (addL c l2) _ (show okCfg c from h21)  hp426) ?_)
                rintro _ w427 ⟨b430, rfl, hq429, hp428⟩
                refine ⟨_, rfl, ?_⟩
                refine OPS.batch 3 { wraps := [218] } [] [3, 23, 210, 219] [.pointer (some ⟨g3, 0, none⟩), .int .i64 z, .bool true, .bool (!b430)] .nil (by kernel_rfl) (fun b431 => ?_)
                by_cases h432 : qSize c ≤ ((cntB (addL c l2) 256 : Nat) : Int)
                · refine OPS.batch 0 {} [] [3, 23, 210, 219] [.pointer (some ⟨g3, 0, none⟩), .int .i64 z, .bool true, .bool (!b430)] .nil (by kernel_rfl) (fun b435 => ?_)
                  refine OPS.re [.pointer (some ⟨g3, 0, none⟩), .int .i64 z, .bool true, .bool false] (by rw [show (!b430) = false from (Bp.not hq429).ff (fun k => k h432)]) ?_
                  refine OPS.batch 7 { wraps := [224, 225] } [.int .i64 c.K] [6] [.bool (decide (c.K ≤ z))] (.cons (Ld.row1 (P := Try.prog) (t := 3) (o := 1) (v := .int .i64 c.K) hp428.get3 (by kernel_rfl)) .nil) (by kernel_rfl) (fun b436 => ?_)
                  refine OPS.nil ?_
                  refine thn_n ?_
                  exact ⟨decide (c.K ≤ z), trivial, Bp.of Bp.dec (by first | (simp only [h408, h419, h432, iff_false, false_iff, iff_true, true_iff, Classical.not_not, and_true, true_and, and_false, false_and, or_true, true_or, or_false, false_or, not_true_eq_false, not_false_eq_true, and_self, or_self, iff_self]; done) | (simp [h408, h419, h432]; done) | simp_all), by kernel_rfl, (((((hp428.pull3).pull1).pull3).pull3).sub (.cons_cons _ (.cons_cons _ (.cons_cons _ (.cons_cons _ (.slnil))))))⟩
                · refine OPS.batch 0 {} [] [3, 23, 210, 219] [.pointer (some ⟨g3, 0, none⟩), .int .i64 z, .bool true, .bool (!b430)] .nil (by kernel_rfl) (fun b433 => ?_)
                  refine OPS.re [.pointer (some ⟨g3, 0, none⟩), .int .i64 z, .bool true, .bool true] (by rw [show (!b430) = true from (Bp.not hq429).tt h432]) ?_
                  refine OPS.batch 7 { wraps := [224, 225] } [] [6] [.bool true] .nil (by kernel_rfl) (fun b434 => ?_)
                  refine OPS.nil ?_
                  refine thn_n ?_
                  exact ⟨true, trivial, Bp.of Bp.t (by first | (simp only [h408, h419, h432, iff_false, false_iff, iff_true, true_iff, Classical.not_not, and_true, true_and, and_false, false_and, or_true, true_or, or_false, false_or, not_true_eq_false, not_false_eq_true, and_self, or_self, iff_self]; done) | (simp [h408, h419, h432]; done) | simp_all), by kernel_rfl, (((((hp428.pull3).pull1).pull3).pull3).sub (.cons_cons _ (.cons_cons _ (.cons_cons _ (.cons_cons _ (.slnil))))))⟩
              · refine OPS.batch 0 {} [] [3, 17, 23, 210, 214] [.pointer (some ⟨g3, 0, none⟩), .pointer (some ⟨g115, 0, none⟩), .int .i64 z, .bool true, .bool (!b417)] .nil (by kernel_rfl) (fun b420 => ?_)
                refine OPS.re [.pointer (some ⟨g3, 0, none⟩), .pointer (some ⟨g115, 0, none⟩), .int .i64 z, .bool true, .bool true] (by rw [show (!b417) = true from (Bp.not hq416).tt h419]) ?_
                refine OPS.batch 12 { wraps := [218, 224, 225] } [] [6] [.bool true] .nil (by kernel_rfl) (fun b421 => ?_)
                refine OPS.nil ?_
                refine thn_n ?_
                exact ⟨true, trivial, Bp.of Bp.t (by first | (simp only [h408, h419, iff_false, false_iff, iff_true, true_iff, Classical.not_not, and_true, true_and, and_false, false_and, or_true, true_or, or_false, false_or, not_true_eq_false, not_false_eq_true, and_self, or_self, iff_self]; done) | (simp [h408, h419]; done) | simp_all), by kernel_rfl, hp415⟩
            · refine OPS.batch 0 {} [] [3, 15, 17, 23, 210] [.pointer (some ⟨g3, 0, none⟩), .pointer (some ⟨g107, 0, none⟩), .pointer (some ⟨g115, 0, none⟩), .int .i64 z, .bool (decide (((cntB ((addL c l1) &&& (addL c l2)) 256 : Nat) : Int) = z))] .nil (by kernel_rfl) (fun b437 => ?_)
              refine OPS.re [.pointer (some ⟨g3, 0, none⟩), .pointer (some ⟨g107, 0, none⟩), .pointer (some ⟨g115, 0, none⟩), .int .i64 z, .bool false] (by rw [show (decide (((cntB ((addL c l1) &&& (addL c l2)) 256 : Nat) : Int) = z)) = false from Bp.dec.ff h408]) ?_
              refine OPS.batch 16 { wraps := [225] } [] [6] [.bool false] .nil (by kernel_rfl) (fun b438 => ?_)
              refine OPS.nil ?_
              refine thn_n ?_
              exact ⟨false, trivial, Bp.of Bp.f (by first | (simp only [h408, iff_false, false_iff, iff_true, true_iff, Classical.not_not, and_true, true_and, and_false, false_and, or_true, true_or, or_false, false_or, not_true_eq_false, not_false_eq_true, and_self, or_self, iff_self]; done) | (simp [h408]; done) | simp_all), by kernel_rfl, (((((hp405.pull3).pull3).pull2).pull3).sub (.cons_cons _ (.cons_cons _ (.cons_cons _ (.cons_cons _ (.slnil))))))⟩
          rintro e441 w442 ⟨x439, hd444, hb440, hE445, hp443⟩
          obtain ⟨b446, rfl⟩ := toMk hE445
          clear hE445
          clear hd444
          refine WP.ret ?_
          refine bodyQ.of _ rfl [.bool x439] ⟨rfl, trivial⟩ ?_
          obtain ⟨ka, kb⟩ := top_end (show okCfg c from h21) pb (by omega)
          exact ⟨congrArg (fun b => Ending.returned (.bool b)) (Bp.tt hb440 (by clear h99 h332; rcases Int.lt_or_le ((cntB (addL c l1) 256 : Nat) : Int) (qSize c) with q | q <;> rcases Int.lt_or_le ((cntB (addL c l2) 256 : Nat) : Int) (qSize c) with r | r <;> first | omega | (have := kb q r; omega))), hp443.fr⟩

end Go.Proofs.Ytgpjpcemfaignaa.K
