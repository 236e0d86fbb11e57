/- The walks of WQuorumShare: what each function computes. -/
import Derived.Test.YthdkbbpiaeaojaaProg
import Derived.Test.YthdkbbpiaeaojaaCoreO
import Derived.Test.YthdkbbpiaeaojaaQuoN
import Derived.Test.YthdkbbpiaeaojaaOpen
namespace Go.Proofs.Ythdkbbpiaeaojaa.K
open Go Go.Proofs Go.RowKit
set_option linter.unusedVariables false
set_option linter.unusedSimpArgs false
set_option maxRecDepth 20000
set_option maxHeartbeats 4000000

theorem QuorumShare (c : GConfig) (BN : Nat) (hBN : BN ≤ 17592186043904) (w : World) (s1 : SlH) (l1 : List Int) (o1 : SlD w (α := Int) (fun y => [Go.Value.int .i64 y]) (fun y => Rng .i64 y) BN s1 l1) (s2 : SlH) (l2 : List Int) (o2 : SlD w (α := Int) (fun y => [Go.Value.int .i64 y]) (fun y => Rng .i64 y) BN s2 l2) :
    Calls Try.prog 13 #[GConfig.val c, .slice s1.a s1.n s1.c, .slice s2.a s2.n s2.c] w (fun x w' => x = .returned (.bool true) ∧ Fram Non w w') := by
  have hn1 := o1.len
  have hc1 := o1.cap
  have hd1 := o1.bnd
  have hn2 := o2.len
  have hc2 := o2.cap
  have hd2 := o2.bnd
  refine calls_of Try.func13 rfl 131 rfl (by simp) ?_
  have hp0 := Hp.init w
  have he0 : List.map (env0 [GConfig.val c, .slice s1.a s1.n s1.c, .slice s2.a s2.n s2.c]) [0, 1, 2] = [GConfig.val c, .slice s1.a s1.n s1.c, .slice s2.a s2.n s2.c] := by kernel_rfl
  obtain ⟨b0, he0⟩ := toMk he0
  rw [he0]
  clear he0
  refine WP.seq ?_
  refine WP.region _ rfl (by kernel_rfl) ?_
  refine OPS.cons (opStep.box hp0 [.int .i64 c.N, .int .i64 c.K, .int .i64 c.Delta] (by kernel_rfl) (fun g3 w1 hp2 => ?_))
  refine OPS.batch 1 {} [] [1, 2, 3] [.slice s1.a s1.n s1.c, .slice s2.a s2.n s2.c, .pointer (some ⟨g3, 0, none⟩)] .nil (by kernel_rfl) (fun b4 => ?_)
  refine OPS.nil ?_
  refine thn_n ?_
  refine WP.seq ?_
  refine WP.region _ rfl (by kernel_rfl) ?_
  refine OPS.batch 1 {} [GConfig.val c] [1, 2, 3, 22] [.slice s1.a s1.n s1.c, .slice s2.a s2.n s2.c, .pointer (some ⟨g3, 0, none⟩), GConfig.val c] (.cons (show Ld Try.prog w1 60 ⟨g3, 0, none⟩ (GConfig.val c) from Ld.rowN (cs := [.int .i64 c.N, .int .i64 c.K, .int .i64 c.Delta]) hp2.get0 (by kernel_rfl)) .nil) (by kernel_rfl) (fun b5 => ?_)
  refine OPS.cons (opStep.call (some 23) [GConfig.val c] (by kernel_rfl) (q_may c _) ?_)
  rintro _ w8 ⟨c11, rfl, hok12, hf9⟩
  refine ⟨_, rfl, ?_⟩
  have hp10 := hp2.step hf9
  have okX := hok12
  unfold okCfg at okX
  have qz := qSize_ok hok12
  have qk := qChk_ok hok12
  have qd : qDown c11 = c11.N - qSize c11 := if_pos hok12
  have qc : qCom c11 = 2 * qSize c11 - c11.N := if_pos hok12
  refine OPS.cons (opStep.store0 hp10 rfl [.int .i64 c11.N, .int .i64 c11.K, .int .i64 c11.Delta] [.int .i64 c11.N, .int .i64 c11.K, .int .i64 c11.Delta] (by kernel_rfl) (fun w13 hp14 => ?_))
  refine OPS.nil ?_
  refine thn_n ?_
  refine WP.seq ?_
  refine WP.region _ rfl (by kernel_rfl) ?_
  refine OPS.batch 1 {} [GConfig.val c11] [1, 2, 3, 25] [.slice s1.a s1.n s1.c, .slice s2.a s2.n s2.c, .pointer (some ⟨g3, 0, none⟩), GConfig.val c11] (.cons (show Ld Try.prog w13 60 ⟨g3, 0, none⟩ (GConfig.val c11) from Ld.rowN (cs := [.int .i64 c11.N, .int .i64 c11.K, .int .i64 c11.Delta]) hp14.get0 (by kernel_rfl)) .nil) (by kernel_rfl) (fun b15 => ?_)
  refine OPS.cons (opStep.call (some 26) [GConfig.val c11] (by kernel_rfl) (q_Common c11 _) ?_)
  rintro _ w18 ⟨rfl, hf19⟩
  refine ⟨_, rfl, ?_⟩
  have hp20 := hp14.step hf19
  refine OPS.batch 5 {} [] [1, 2, 3, 7, 8] [.slice s1.a s1.n s1.c, .slice s2.a s2.n s2.c, .pointer (some ⟨g3, 0, none⟩), .int .i64 (qCom c11), .int .i64 (qChk c11)] .nil (by kernel_rfl) (fun b21 => ?_)
  refine OPS.nil ?_
  refine thn_n ?_
  refine WP.seq ?_
  refine WP.region _ rfl (by kernel_rfl) ?_
  refine OPS.batch 1 {} [GConfig.val c11] [1, 2, 3, 7, 8, 30] [.slice s1.a s1.n s1.c, .slice s2.a s2.n s2.c, .pointer (some ⟨g3, 0, none⟩), .int .i64 (qCom c11), .int .i64 (qChk c11), GConfig.val c11] (.cons (show Ld Try.prog w18 60 ⟨g3, 0, none⟩ (GConfig.val c11) from Ld.rowN (cs := [.int .i64 c11.N, .int .i64 c11.K, .int .i64 c11.Delta]) hp20.get0 (by kernel_rfl)) .nil) (by kernel_rfl) (fun b22 => ?_)
  refine OPS.cons (opStep.call (some 31) [GConfig.val c11] (by kernel_rfl) (q_Size c11 _) ?_)
  rintro _ w25 ⟨rfl, hf26⟩
  refine ⟨_, rfl, ?_⟩
  have hp27 := hp20.step hf26
  refine OPS.batch 5 {} [] [1, 2, 3, 7, 8, 9] [.slice s1.a s1.n s1.c, .slice s2.a s2.n s2.c, .pointer (some ⟨g3, 0, none⟩), .int .i64 (qCom c11), .int .i64 (qChk c11), .int .i64 (qSize c11)] .nil (by kernel_rfl) (fun b28 => ?_)
  refine OPS.nil ?_
  refine thn_n ?_
  refine WP.seq ?_
  refine WP.region _ rfl (by kernel_rfl) ?_
  refine OPS.batch 2 {} [GConfig.val c11] [2, 3, 7, 8, 9, 34, 35] [.slice s2.a s2.n s2.c, .pointer (some ⟨g3, 0, none⟩), .int .i64 (qCom c11), .int .i64 (qChk c11), .int .i64 (qSize c11), GConfig.val c11, .slice s1.a s1.n s1.c] (.cons (show Ld Try.prog w25 60 ⟨g3, 0, none⟩ (GConfig.val c11) from Ld.rowN (cs := [.int .i64 c11.N, .int .i64 c11.K, .int .i64 c11.Delta]) hp27.get0 (by kernel_rfl)) .nil) (by kernel_rfl) (fun b29 => ?_)
  refine OPS.cons (opStep.call (some 36) [GConfig.val c11, .slice s1.a s1.n s1.c] (by kernel_rfl) (q_filled c11 _ hok12 s1 l1 (o1.rd.at hp27) (by omega) (by omega)) ?_)
  rintro _ w32 ⟨g35, m36, rfl, hs37, hm38, hp34⟩
  refine ⟨_, rfl, ?_⟩
  have hp33 := hp27.made hp34
  refine OPS.batch 1 {} [] [2, 3, 7, 8, 9, 11] [.slice s2.a s2.n s2.c, .pointer (some ⟨g3, 0, none⟩), .int .i64 (qCom c11), .int .i64 (qChk c11), .int .i64 (qSize c11), .pointer (some ⟨g35, 0, none⟩)] .nil (by kernel_rfl) (fun b39 => ?_)
  refine OPS.nil ?_
  refine thn_n ?_
  refine WP.seq ?_
  refine WP.region _ rfl (by kernel_rfl) ?_
  refine OPS.batch 2 {} [GConfig.val c11] [3, 7, 8, 9, 11, 37, 38] [.pointer (some ⟨g3, 0, none⟩), .int .i64 (qCom c11), .int .i64 (qChk c11), .int .i64 (qSize c11), .pointer (some ⟨g35, 0, none⟩), GConfig.val c11, .slice s2.a s2.n s2.c] (.cons (show Ld Try.prog w32 60 ⟨g3, 0, none⟩ (GConfig.val c11) from Ld.rowN (cs := [.int .i64 c11.N, .int .i64 c11.K, .int .i64 c11.Delta]) hp33.get1 (by kernel_rfl)) .nil) (by kernel_rfl) (fun b40 => ?_)
  refine OPS.cons (opStep.call (some 39) [GConfig.val c11, .slice s2.a s2.n s2.c] (by kernel_rfl) (q_filled c11 _ hok12 s2 l2 (o2.rd.at hp33) (by omega) (by omega)) ?_)
  rintro _ w43 ⟨g46, m47, rfl, hs48, hm49, hp45⟩
  refine ⟨_, rfl, ?_⟩
  have hp44 := hp33.made hp45
  refine OPS.batch 1 {} [] [3, 7, 8, 9, 11, 12] [.pointer (some ⟨g3, 0, none⟩), .int .i64 (qCom c11), .int .i64 (qChk c11), .int .i64 (qSize c11), .pointer (some ⟨g35, 0, none⟩), .pointer (some ⟨g46, 0, none⟩)] .nil (by kernel_rfl) (fun b50 => ?_)
  refine OPS.nil ?_
  refine thn_n ?_
  refine WP.seq ?_
  refine WP.region _ rfl (by kernel_rfl) ?_
  refine OPS.batch 2 {} [] [3, 7, 8, 9, 11, 12, 41, 42] [.pointer (some ⟨g3, 0, none⟩), .int .i64 (qCom c11), .int .i64 (qChk c11), .int .i64 (qSize c11), .pointer (some ⟨g35, 0, none⟩), .pointer (some ⟨g46, 0, none⟩), .pointer (some ⟨g35, 0, none⟩), .pointer (some ⟨g46, 0, none⟩)] .nil (by kernel_rfl) (fun b51 => ?_)
  have hp54 := hp44.pull0
  have hp55 := hp54.pull1
  refine OPS.cons (opStep.call (some 43) [.pointer (some ⟨g35, 0, none⟩), .pointer (some ⟨g46, 0, none⟩)] (by kernel_rfl) (q_And _ _ _ _ c11 m36 m47 _ hok12 hp55) ?_)
  rintro _ w56 ⟨g58, rfl, hp57⟩
  refine ⟨_, rfl, ?_⟩
  refine OPS.batch 5 {} [] [3, 7, 8, 9, 11, 12, 13, 14] [.pointer (some ⟨g3, 0, none⟩), .int .i64 (qCom c11), .int .i64 (qChk c11), .int .i64 (qSize c11), .pointer (some ⟨g35, 0, none⟩), .pointer (some ⟨g46, 0, none⟩), .pointer (some ⟨g58, 0, none⟩), .int .i64 0] .nil (by kernel_rfl) (fun b59 => ?_)
  refine OPS.nil ?_
  refine thn_n ?_
  refine WP.seq ?_
  refine WP.cut (fun e112 w113 => ∃ (x110 : Bool), (True) ∧ Bp x110 (((¬ ((qChk c11) = 0))) ∨ (((qChk c11) = 0) ∧ (¬ (qSize c11 ≤ ((cntB m36 256 : Nat) : Int)))) ∨ (((qChk c11) = 0) ∧ (qSize c11 ≤ ((cntB m36 256 : Nat) : Int)) ∧ (¬ (qSize c11 ≤ ((cntB m47 256 : Nat) : Int)))) ∨ (((qChk c11) = 0) ∧ (qSize c11 ≤ ((cntB m36 256 : Nat) : Int)) ∧ (qSize c11 ≤ ((cntB m47 256 : Nat) : Int)) ∧ (((cntB (m36 &&& m47) 256 : Nat) : Int) < (qCom c11))) ∨ (((qChk c11) = 0) ∧ (qSize c11 ≤ ((cntB m36 256 : Nat) : Int)) ∧ (qSize c11 ≤ ((cntB m47 256 : Nat) : Int)) ∧ (¬ (((cntB (m36 &&& m47) 256 : Nat) : Int) < (qCom c11))) ∧ ((qCom c11) < c11.K)) ∨ (((qChk c11) = 0) ∧ (qSize c11 ≤ ((cntB m36 256 : Nat) : Int)) ∧ (qSize c11 ≤ ((cntB m47 256 : Nat) : Int)) ∧ (¬ (((cntB (m36 &&& m47) 256 : Nat) : Int) < (qCom c11))) ∧ (¬ ((qCom c11) < c11.K)) ∧ ((c11.K + 1) < (qCom c11)))) ∧ List.map e112 [3, 7, 9, 80] = [.pointer (some ⟨g3, 0, none⟩), .int .i64 (qCom c11), .int .i64 (qSize c11), .bool x110] ∧ Hp w Non [Res.row g58 [.int .i64 c11.N, .int .i64 c11.K, .int .i64 c11.Delta, .int .u64 ((wd (m36 &&& m47) 0 : Nat) : Int), .int .u64 ((wd (m36 &&& m47) 1 : Nat) : Int), .int .u64 ((wd (m36 &&& m47) 2 : Nat) : Int), .int .u64 ((wd (m36 &&& m47) 3 : Nat) : Int)] 133, Res.row g35 [.int .i64 c11.N, .int .i64 c11.K, .int .i64 c11.Delta, .int .u64 ((wd m36 0 : Nat) : Int), .int .u64 ((wd m36 1 : Nat) : Int), .int .u64 ((wd m36 2 : Nat) : Int), .int .u64 ((wd m36 3 : Nat) : Int)] 133, Res.row g46 [.int .i64 c11.N, .int .i64 c11.K, .int .i64 c11.Delta, .int .u64 ((wd m47 0 : Nat) : Int), .int .u64 ((wd m47 1 : Nat) : Int), .int .u64 ((wd m47 2 : Nat) : Int), .int .u64 ((wd m47 3 : Nat) : Int)] 133, Res.row g3 [.int .i64 c11.N, .int .i64 c11.K, .int .i64 c11.Delta] 60] w113) ?_ ?_
  · refine WP.region _ rfl (by kernel_rfl) ?_
    refine OPS.batch 3 {} [] [3, 7, 9, 11, 12, 13, 14, 48] [.pointer (some ⟨g3, 0, none⟩), .int .i64 (qCom c11), .int .i64 (qSize c11), .pointer (some ⟨g35, 0, none⟩), .pointer (some ⟨g46, 0, none⟩), .pointer (some ⟨g58, 0, none⟩), .int .i64 0, .bool (decide (¬ ((qChk c11) = 0)))] .nil (by kernel_rfl) (fun b61 => ?_)
    by_cases h62 : (qChk c11) = 0
    · refine OPS.batch 0 {} [] [3, 7, 9, 11, 12, 13, 14, 48] [.pointer (some ⟨g3, 0, none⟩), .int .i64 (qCom c11), .int .i64 (qSize c11), .pointer (some ⟨g35, 0, none⟩), .pointer (some ⟨g46, 0, none⟩), .pointer (some ⟨g58, 0, none⟩), .int .i64 0, .bool (decide (¬ ((qChk c11) = 0)))] .nil (by kernel_rfl) (fun b65 => ?_)
      refine OPS.re [.pointer (some ⟨g3, 0, none⟩), .int .i64 (qCom c11), .int .i64 (qSize c11), .pointer (some ⟨g35, 0, none⟩), .pointer (some ⟨g46, 0, none⟩), .pointer (some ⟨g58, 0, none⟩), .int .i64 0, .bool false] (by rw [show (decide (¬ ((qChk c11) = 0))) = false from Bp.dec.ff (fun k => k h62)]) ?_
      refine OPS.batch 5 { wraps := [51] } [] [3, 7, 9, 12, 13, 52, 53] [.pointer (some ⟨g3, 0, none⟩), .int .i64 (qCom c11), .int .i64 (qSize c11), .pointer (some ⟨g46, 0, none⟩), .pointer (some ⟨g58, 0, none⟩), .bool false, .pointer (some ⟨g35, 0, none⟩)] .nil (by kernel_rfl) (fun b66 => ?_)
      refine OPS.want (by kernel_rfl) ?_
      have hp69 := hp57.pull1
      refine OPS.cons (opStep.call (some 54) [.pointer (some ⟨g35, 0, none⟩)] (by kernel_rfl) (q_Met _ _ _ c11 m36 _ hok12  hp69) ?_)
      rintro _ w70 ⟨b73, rfl, hq72, hp71⟩
      refine ⟨_, rfl, ?_⟩
      refine OPS.batch 3 { wraps := [56] } [] [3, 7, 9, 12, 13, 57] [.pointer (some ⟨g3, 0, none⟩), .int .i64 (qCom c11), .int .i64 (qSize c11), .pointer (some ⟨g46, 0, none⟩), .pointer (some ⟨g58, 0, none⟩), .bool (!b73)] .nil (by kernel_rfl) (fun b74 => ?_)
      by_cases h75 : qSize c11 ≤ ((cntB m36 256 : Nat) : Int)
      · refine OPS.batch 0 {} [] [3, 7, 9, 12, 13, 57] [.pointer (some ⟨g3, 0, none⟩), .int .i64 (qCom c11), .int .i64 (qSize c11), .pointer (some ⟨g46, 0, none⟩), .pointer (some ⟨g58, 0, none⟩), .bool (!b73)] .nil (by kernel_rfl) (fun b78 => ?_)
        refine OPS.re [.pointer (some ⟨g3, 0, none⟩), .int .i64 (qCom c11), .int .i64 (qSize c11), .pointer (some ⟨g46, 0, none⟩), .pointer (some ⟨g58, 0, none⟩), .bool false] (by rw [show (!b73) = false from (Bp.not hq72).ff (fun k => k h75)]) ?_
        refine OPS.batch 1 {} [] [3, 7, 9, 13, 57, 58] [.pointer (some ⟨g3, 0, none⟩), .int .i64 (qCom c11), .int .i64 (qSize c11), .pointer (some ⟨g58, 0, none⟩), .bool false, .pointer (some ⟨g46, 0, none⟩)] .nil (by kernel_rfl) (fun b79 => ?_)
        refine OPS.want (by kernel_rfl) ?_
        have hp82 := hp71.pull2
        refine OPS.cons (opStep.call (some 59) [.pointer (some ⟨g46, 0, none⟩)] (by kernel_rfl) (q_Met _ _ _ c11 m47 _ hok12  hp82) ?_)
        rintro _ w83 ⟨b86, rfl, hq85, hp84⟩
        refine ⟨_, rfl, ?_⟩
        refine OPS.batch 3 { wraps := [61] } [] [3, 7, 9, 13, 62] [.pointer (some ⟨g3, 0, none⟩), .int .i64 (qCom c11), .int .i64 (qSize c11), .pointer (some ⟨g58, 0, none⟩), .bool (!b86)] .nil (by kernel_rfl) (fun b87 => ?_)
        by_cases h88 : qSize c11 ≤ ((cntB m47 256 : Nat) : Int)
        · refine OPS.batch 0 {} [] [3, 7, 9, 13, 62] [.pointer (some ⟨g3, 0, none⟩), .int .i64 (qCom c11), .int .i64 (qSize c11), .pointer (some ⟨g58, 0, none⟩), .bool (!b86)] .nil (by kernel_rfl) (fun b91 => ?_)
          refine OPS.re [.pointer (some ⟨g3, 0, none⟩), .int .i64 (qCom c11), .int .i64 (qSize c11), .pointer (some ⟨g58, 0, none⟩), .bool false] (by rw [show (!b86) = false from (Bp.not hq85).ff (fun k => k h88)]) ?_
          refine OPS.batch 1 {} [] [3, 7, 9, 62, 63] [.pointer (some ⟨g3, 0, none⟩), .int .i64 (qCom c11), .int .i64 (qSize c11), .bool false, .pointer (some ⟨g58, 0, none⟩)] .nil (by kernel_rfl) (fun b92 => ?_)
          refine OPS.want (by kernel_rfl) ?_
          have hp95 := hp84.pull2
          refine OPS.cons (opStep.call (some 64) [.pointer (some ⟨g58, 0, none⟩)] (by kernel_rfl) (q_Len _ _ _ c11 (m36 &&& m47) _ hok12  hp95) ?_)
          rintro _ w96 ⟨rfl, hp97⟩
          refine ⟨_, rfl, ?_⟩
          refine OPS.batch 4 { wraps := [67] } [] [3, 7, 9, 68] [.pointer (some ⟨g3, 0, none⟩), .int .i64 (qCom c11), .int .i64 (qSize c11), .bool (decide (((cntB (m36 &&& m47) 256 : Nat) : Int) < (qCom c11)))] .nil (by kernel_rfl) (fun b99 => ?_)
          by_cases h100 : ((cntB (m36 &&& m47) 256 : Nat) : Int) < (qCom c11)
          · refine OPS.batch 0 {} [] [3, 7, 9, 68] [.pointer (some ⟨g3, 0, none⟩), .int .i64 (qCom c11), .int .i64 (qSize c11), .bool (decide (((cntB (m36 &&& m47) 256 : Nat) : Int) < (qCom c11)))] .nil (by kernel_rfl) (fun b101 => ?_)
            refine OPS.re [.pointer (some ⟨g3, 0, none⟩), .int .i64 (qCom c11), .int .i64 (qSize c11), .bool true] (by rw [show (decide (((cntB (m36 &&& m47) 256 : Nat) : Int) < (qCom c11))) = true from Bp.dec.tt h100]) ?_
            refine OPS.batch 12 { wraps := [73, 80] } [] [3, 7, 9, 80] [.pointer (some ⟨g3, 0, none⟩), .int .i64 (qCom c11), .int .i64 (qSize c11), .bool true] .nil (by kernel_rfl) (fun b102 => ?_)
            refine OPS.nil ?_
            refine thn_n ?_
            exact ⟨true, trivial, Bp.of Bp.t (by first | (simp only [h62, h75, h88, h100, iff_false, false_iff, iff_true, true_iff, Classical.not_not, and_true, true_and, and_false, false_and, or_true, true_or, or_false, false_or, not_true_eq_false, not_false_eq_true, and_self, or_self, iff_self]; done) | (simp [h62, h75, h88, h100]; done) | simp_all), by kernel_rfl, (((((hp97.pull3).pull2).pull3).pull3).sub (.cons_cons _ (.cons_cons _ (.cons_cons _ (.cons_cons _ (.slnil))))))⟩
          · refine OPS.batch 0 {} [] [3, 7, 9, 68] [.pointer (some ⟨g3, 0, none⟩), .int .i64 (qCom c11), .int .i64 (qSize c11), .bool (decide (((cntB (m36 &&& m47) 256 : Nat) : Int) < (qCom c11)))] .nil (by kernel_rfl) (fun b103 => ?_)
            refine OPS.re [.pointer (some ⟨g3, 0, none⟩), .int .i64 (qCom c11), .int .i64 (qSize c11), .bool false] (by rw [show (decide (((cntB (m36 &&& m47) 256 : Nat) : Int) < (qCom c11))) = false from Bp.dec.ff h100]) ?_
            refine OPS.batch 6 { wraps := [73] } [.int .i64 c11.K] [3, 7, 9, 74] [.pointer (some ⟨g3, 0, none⟩), .int .i64 (qCom c11), .int .i64 (qSize c11), .bool (decide ((qCom c11) < c11.K))] (.cons (Ld.row1 (P := Try.prog) (t := 3) (o := 1) (v := .int .i64 c11.K) hp97.get3 (by kernel_rfl)) .nil) (by kernel_rfl) (fun b104 => ?_)
            by_cases h105 : (qCom c11) < c11.K
            · refine OPS.batch 0 {} [] [3, 7, 9, 74] [.pointer (some ⟨g3, 0, none⟩), .int .i64 (qCom c11), .int .i64 (qSize c11), .bool (decide ((qCom c11) < c11.K))] .nil (by kernel_rfl) (fun b106 => ?_)
              refine OPS.re [.pointer (some ⟨g3, 0, none⟩), .int .i64 (qCom c11), .int .i64 (qSize c11), .bool true] (by rw [show (decide ((qCom c11) < c11.K)) = true from Bp.dec.tt h105]) ?_
              refine OPS.batch 6 { wraps := [80] } [] [3, 7, 9, 80] [.pointer (some ⟨g3, 0, none⟩), .int .i64 (qCom c11), .int .i64 (qSize c11), .bool true] .nil (by kernel_rfl) (fun b107 => ?_)
              refine OPS.nil ?_
              refine thn_n ?_
              exact ⟨true, trivial, Bp.of Bp.t (by first | (simp only [h62, h75, h88, h100, h105, iff_false, false_iff, iff_true, true_iff, Classical.not_not, and_true, true_and, and_false, false_and, or_true, true_or, or_false, false_or, not_true_eq_false, not_false_eq_true, and_self, or_self, iff_self]; done) | (simp [h62, h75, h88, h100, h105]; done) | simp_all), by kernel_rfl, (((((hp97.pull3).pull2).pull3).pull3).sub (.cons_cons _ (.cons_cons _ (.cons_cons _ (.cons_cons _ (.slnil))))))⟩
            · refine OPS.batch 0 {} [] [3, 7, 9, 74] [.pointer (some ⟨g3, 0, none⟩), .int .i64 (qCom c11), .int .i64 (qSize c11), .bool (decide ((qCom c11) < c11.K))] .nil (by kernel_rfl) (fun b108 => ?_)
              refine OPS.re [.pointer (some ⟨g3, 0, none⟩), .int .i64 (qCom c11), .int .i64 (qSize c11), .bool false] (by rw [show (decide ((qCom c11) < c11.K)) = false from Bp.dec.ff h105]) ?_
              refine OPS.batch 6 { wraps := [80] } [.int .i64 c11.K] [3, 7, 9, 80] [.pointer (some ⟨g3, 0, none⟩), .int .i64 (qCom c11), .int .i64 (qSize c11), .bool (decide ((c11.K + 1) < (qCom c11)))] (.cons (Ld.row1 (P := Try.prog) (t := 3) (o := 1) (v := .int .i64 c11.K) hp97.get3 (by kernel_rfl)) (.cons (show Rng .i64 (c11.K + 1) from Rng.i64 (by omega)) .nil)) (by kernel_rfl) (fun b109 => ?_)
              refine OPS.nil ?_
              refine thn_n ?_
              exact ⟨decide ((c11.K + 1) < (qCom c11)), trivial, Bp.of Bp.dec (by first | (simp only [h62, h75, h88, h100, h105, iff_false, false_iff, iff_true, true_iff, Classical.not_not, and_true, true_and, and_false, false_and, or_true, true_or, or_false, false_or, not_true_eq_false, not_false_eq_true, and_self, or_self, iff_self]; done) | (simp [h62, h75, h88, h100, h105]; done) | simp_all), by kernel_rfl, (((((hp97.pull3).pull2).pull3).pull3).sub (.cons_cons _ (.cons_cons _ (.cons_cons _ (.cons_cons _ (.slnil))))))⟩
        · refine OPS.batch 0 {} [] [3, 7, 9, 13, 62] [.pointer (some ⟨g3, 0, none⟩), .int .i64 (qCom c11), .int .i64 (qSize c11), .pointer (some ⟨g58, 0, none⟩), .bool (!b86)] .nil (by kernel_rfl) (fun b89 => ?_)
          refine OPS.re [.pointer (some ⟨g3, 0, none⟩), .int .i64 (qCom c11), .int .i64 (qSize c11), .pointer (some ⟨g58, 0, none⟩), .bool true] (by rw [show (!b86) = true from (Bp.not hq85).tt h88]) ?_
          refine OPS.batch 18 { wraps := [67, 73, 80] } [] [3, 7, 9, 80] [.pointer (some ⟨g3, 0, none⟩), .int .i64 (qCom c11), .int .i64 (qSize c11), .bool true] .nil (by kernel_rfl) (fun b90 => ?_)
          refine OPS.nil ?_
          refine thn_n ?_
          exact ⟨true, trivial, Bp.of Bp.t (by first | (simp only [h62, h75, h88, iff_false, false_iff, iff_true, true_iff, Classical.not_not, and_true, true_and, and_false, false_and, or_true, true_or, or_false, false_or, not_true_eq_false, not_false_eq_true, and_self, or_self, iff_self]; done) | (simp [h62, h75, h88]; done) | simp_all), by kernel_rfl, (((((hp84.pull3).pull1).pull2).pull3).sub (.cons_cons _ (.cons_cons _ (.cons_cons _ (.cons_cons _ (.slnil))))))⟩
      · refine OPS.batch 0 {} [] [3, 7, 9, 12, 13, 57] [.pointer (some ⟨g3, 0, none⟩), .int .i64 (qCom c11), .int .i64 (qSize c11), .pointer (some ⟨g46, 0, none⟩), .pointer (some ⟨g58, 0, none⟩), .bool (!b73)] .nil (by kernel_rfl) (fun b76 => ?_)
        refine OPS.re [.pointer (some ⟨g3, 0, none⟩), .int .i64 (qCom c11), .int .i64 (qSize c11), .pointer (some ⟨g46, 0, none⟩), .pointer (some ⟨g58, 0, none⟩), .bool true] (by rw [show (!b73) = true from (Bp.not hq72).tt h75]) ?_
        refine OPS.batch 23 { wraps := [61, 67, 73, 80] } [] [3, 7, 9, 80] [.pointer (some ⟨g3, 0, none⟩), .int .i64 (qCom c11), .int .i64 (qSize c11), .bool true] .nil (by kernel_rfl) (fun b77 => ?_)
        refine OPS.nil ?_
        refine thn_n ?_
        exact ⟨true, trivial, Bp.of Bp.t (by first | (simp only [h62, h75, iff_false, false_iff, iff_true, true_iff, Classical.not_not, and_true, true_and, and_false, false_and, or_true, true_or, or_false, false_or, not_true_eq_false, not_false_eq_true, and_self, or_self, iff_self]; done) | (simp [h62, h75]; done) | simp_all), by kernel_rfl, (((((hp71.pull3).pull3).pull2).pull3).sub (.cons_cons _ (.cons_cons _ (.cons_cons _ (.cons_cons _ (.slnil))))))⟩
    · refine OPS.batch 0 {} [] [3, 7, 9, 11, 12, 13, 14, 48] [.pointer (some ⟨g3, 0, none⟩), .int .i64 (qCom c11), .int .i64 (qSize c11), .pointer (some ⟨g35, 0, none⟩), .pointer (some ⟨g46, 0, none⟩), .pointer (some ⟨g58, 0, none⟩), .int .i64 0, .bool (decide (¬ ((qChk c11) = 0)))] .nil (by kernel_rfl) (fun b63 => ?_)
      refine OPS.re [.pointer (some ⟨g3, 0, none⟩), .int .i64 (qCom c11), .int .i64 (qSize c11), .pointer (some ⟨g35, 0, none⟩), .pointer (some ⟨g46, 0, none⟩), .pointer (some ⟨g58, 0, none⟩), .int .i64 0, .bool true] (by rw [show (decide (¬ ((qChk c11) = 0))) = true from Bp.dec.tt h62]) ?_
      refine OPS.batch 32 { wraps := [51, 56, 61, 67, 73, 80] } [] [3, 7, 9, 80] [.pointer (some ⟨g3, 0, none⟩), .int .i64 (qCom c11), .int .i64 (qSize c11), .bool true] .nil (by kernel_rfl) (fun b64 => ?_)
      refine OPS.nil ?_
      refine thn_n ?_
      exact ⟨true, trivial, Bp.of Bp.t (by first | (simp only [h62, iff_false, false_iff, iff_true, true_iff, Classical.not_not, and_true, true_and, and_false, false_and, or_true, true_or, or_false, false_or, not_true_eq_false, not_false_eq_true, and_self, or_self, iff_self]; done) | (simp [h62]; done) | simp_all), by kernel_rfl, hp57⟩
  rintro e112 w113 ⟨x110, hd115, hb111, hE116, hp114⟩
  obtain ⟨b117, rfl⟩ := toMk hE116
  clear hE116
  clear hd115
  refine WP.test (p := ((¬ ((qChk c11) = 0))) ∨ (((qChk c11) = 0) ∧ (¬ (qSize c11 ≤ ((cntB m36 256 : Nat) : Int)))) ∨ (((qChk c11) = 0) ∧ (qSize c11 ≤ ((cntB m36 256 : Nat) : Int)) ∧ (¬ (qSize c11 ≤ ((cntB m47 256 : Nat) : Int)))) ∨ (((qChk c11) = 0) ∧ (qSize c11 ≤ ((cntB m36 256 : Nat) : Int)) ∧ (qSize c11 ≤ ((cntB m47 256 : Nat) : Int)) ∧ (((cntB (m36 &&& m47) 256 : Nat) : Int) < (qCom c11))) ∨ (((qChk c11) = 0) ∧ (qSize c11 ≤ ((cntB m36 256 : Nat) : Int)) ∧ (qSize c11 ≤ ((cntB m47 256 : Nat) : Int)) ∧ (¬ (((cntB (m36 &&& m47) 256 : Nat) : Int) < (qCom c11))) ∧ ((qCom c11) < c11.K)) ∨ (((qChk c11) = 0) ∧ (qSize c11 ≤ ((cntB m36 256 : Nat) : Int)) ∧ (qSize c11 ≤ ((cntB m47 256 : Nat) : Int)) ∧ (¬ (((cntB (m36 &&& m47) 256 : Nat) : Int) < (qCom c11))) ∧ (¬ ((qCom c11) < c11.K)) ∧ ((c11.K + 1) < (qCom c11)))) rfl hb111 (fun h118 => ?_) (fun h118 => ?_)
  · refine WP.seq ?_
    refine WP.pure {} [] [6] [.bool false] .nil (by kernel_rfl) (fun b119 => ?_)
    refine thn_n ?_
    refine WP.ret ?_
    refine thn_r ?_
    refine bodyQ.of _ rfl [.bool false] ⟨rfl, trivial⟩ ?_
    exfalso
    have k1 := share_low hok12 hs37 hs48 hm38 hm49
    omega
  · refine WP.skip ?_
    refine thn_n ?_
    refine WP.seq ?_
    refine WP.region _ rfl (by kernel_rfl) ?_
    refine OPS.batch 1 {} [GConfig.val c11] [3, 7, 9, 82] [.pointer (some ⟨g3, 0, none⟩), .int .i64 (qCom c11), .int .i64 (qSize c11), GConfig.val c11] (.cons (show Ld Try.prog w113 60 ⟨g3, 0, none⟩ (GConfig.val c11) from Ld.rowN (cs := [.int .i64 c11.N, .int .i64 c11.K, .int .i64 c11.Delta]) hp114.get3 (by kernel_rfl)) .nil) (by kernel_rfl) (fun b120 => ?_)
    refine OPS.cons (opStep.call (some 83) [GConfig.val c11] (by kernel_rfl) (q_New c11 _ hok12) ?_)
    rintro _ w123 ⟨g126, rfl, hp125⟩
    refine ⟨_, rfl, ?_⟩
    have hp124 := hp114.made hp125
    refine OPS.batch 5 {} [] [3, 7, 9, 15] [.pointer (some ⟨g3, 0, none⟩), .int .i64 (qCom c11), .int .i64 (qSize c11), .pointer (some ⟨g126, 0, none⟩)] .nil (by kernel_rfl) (fun b127 => ?_)
    refine OPS.nil ?_
    refine thn_n ?_
    refine WP.seq ?_
    refine WP.region _ rfl (by kernel_rfl) ?_
    refine OPS.batch 1 {} [GConfig.val c11] [3, 7, 9, 15, 87] [.pointer (some ⟨g3, 0, none⟩), .int .i64 (qCom c11), .int .i64 (qSize c11), .pointer (some ⟨g126, 0, none⟩), GConfig.val c11] (.cons (show Ld Try.prog w123 60 ⟨g3, 0, none⟩ (GConfig.val c11) from Ld.rowN (cs := [.int .i64 c11.N, .int .i64 c11.K, .int .i64 c11.Delta]) hp124.get4 (by kernel_rfl)) .nil) (by kernel_rfl) (fun b128 => ?_)
    refine OPS.cons (opStep.call (some 88) [GConfig.val c11] (by kernel_rfl) (q_New c11 _ hok12) ?_)
    rintro _ w131 ⟨g134, rfl, hp133⟩
    refine ⟨_, rfl, ?_⟩
    have hp132 := hp124.made hp133
    refine OPS.batch 5 {} [] [3, 7, 9, 15, 17] [.pointer (some ⟨g3, 0, none⟩), .int .i64 (qCom c11), .int .i64 (qSize c11), .pointer (some ⟨g126, 0, none⟩), .pointer (some ⟨g134, 0, none⟩)] .nil (by kernel_rfl) (fun b135 => ?_)
    refine OPS.nil ?_
    refine thn_n ?_
    refine WP.seq ?_
    refine WP.seq ?_
    refine WP.pure {} [] [3, 7, 15, 17, 91, 92] [.pointer (some ⟨g3, 0, none⟩), .int .i64 (qCom c11), .pointer (some ⟨g126, 0, none⟩), .pointer (some ⟨g134, 0, none⟩), .int .i64 (qSize c11), .int .i64 0] .nil (by kernel_rfl) (fun b136 => ?_)
    refine thn_n ?_
    refine WP.block ?_
    refine WP.loop (fun mz_ e137 w138 => ∃ (k : Nat) (mc : Nat) (md : Nat), mz_ = (qSize c11).toNat - k ∧ ((k : Int) ≤ qSize c11 ∧ (∀ j, mc.testBit j = true ↔ 0 ≤ j ∧ j < k) ∧ (∀ j, md.testBit j = true ↔ c11.N.toNat - k ≤ j ∧ j < c11.N.toNat)) ∧ List.map e137 [3, 7, 15, 17, 91, 92] = [.pointer (some ⟨g3, 0, none⟩), .int .i64 (qCom c11), .pointer (some ⟨g126, 0, none⟩), .pointer (some ⟨g134, 0, none⟩), .int .i64 (qSize c11), .int .i64 (k : Int)] ∧ Hp w Non [Res.row g134 [.int .i64 c11.N, .int .i64 c11.K, .int .i64 c11.Delta, .int .u64 ((wd md 0 : Nat) : Int), .int .u64 ((wd md 1 : Nat) : Int), .int .u64 ((wd md 2 : Nat) : Int), .int .u64 ((wd md 3 : Nat) : Int)] 133, Res.row g126 [.int .i64 c11.N, .int .i64 c11.K, .int .i64 c11.Delta, .int .u64 ((wd mc 0 : Nat) : Int), .int .u64 ((wd mc 1 : Nat) : Int), .int .u64 ((wd mc 2 : Nat) : Int), .int .u64 ((wd mc 3 : Nat) : Int)] 133, Res.row g58 [.int .i64 c11.N, .int .i64 c11.K, .int .i64 c11.Delta, .int .u64 ((wd (m36 &&& m47) 0 : Nat) : Int), .int .u64 ((wd (m36 &&& m47) 1 : Nat) : Int), .int .u64 ((wd (m36 &&& m47) 2 : Nat) : Int), .int .u64 ((wd (m36 &&& m47) 3 : Nat) : Int)] 133, Res.row g35 [.int .i64 c11.N, .int .i64 c11.K, .int .i64 c11.Delta, .int .u64 ((wd m36 0 : Nat) : Int), .int .u64 ((wd m36 1 : Nat) : Int), .int .u64 ((wd m36 2 : Nat) : Int), .int .u64 ((wd m36 3 : Nat) : Int)] 133, Res.row g46 [.int .i64 c11.N, .int .i64 c11.K, .int .i64 c11.Delta, .int .u64 ((wd m47 0 : Nat) : Int), .int .u64 ((wd m47 1 : Nat) : Int), .int .u64 ((wd m47 2 : Nat) : Int), .int .u64 ((wd m47 3 : Nat) : Int)] 133, Res.row g3 [.int .i64 c11.N, .int .i64 c11.K, .int .i64 c11.Delta] 60] w138) ((qSize c11).toNat - (0)) ⟨0, 0, 0, rfl, ⟨by omega, fun j => by simp, fun j => by simp⟩, by kernel_rfl, hp132⟩ ?_
    rintro _ e137 w138 ⟨k, mc, md, rfl, hI140, hE141, hp139⟩
    obtain ⟨b142, rfl⟩ := toMk hE141
    clear hE141
    obtain ⟨pa, pb, pc⟩ := hI140
    refine WP.seq ?_
    refine WP.pure {} [] [3, 7, 15, 17, 91, 92, 93] [.pointer (some ⟨g3, 0, none⟩), .int .i64 (qCom c11), .pointer (some ⟨g126, 0, none⟩), .pointer (some ⟨g134, 0, none⟩), .int .i64 (qSize c11), .int .i64 (k : Int), .bool (decide ((k : Int) < (qSize c11)))] .nil (by kernel_rfl) (fun b143 => ?_)
    refine thn_n ?_
    refine WP.seq ?_
    refine WP.test (p := (k : Int) < (qSize c11)) rfl Bp.dec (fun h144 => ?_) (fun h144 => ?_)
    · refine WP.skip ?_
      refine thn_n ?_
      refine WP.seq ?_
      refine WP.block ?_
      refine WP.seq ?_
      refine WP.pure {} [] [3, 7, 15, 17, 19, 91, 92] [.pointer (some ⟨g3, 0, none⟩), .int .i64 (qCom c11), .pointer (some ⟨g126, 0, none⟩), .pointer (some ⟨g134, 0, none⟩), .int .i64 (k : Int), .int .i64 (qSize c11), .int .i64 (k : Int)] .nil (by kernel_rfl) (fun b145 => ?_)
      refine thn_n ?_
      refine WP.seq ?_
      refine WP.region _ rfl (by kernel_rfl) ?_
      refine OPS.batch 2 {} [] [3, 7, 15, 17, 19, 91, 92, 95, 96] [.pointer (some ⟨g3, 0, none⟩), .int .i64 (qCom c11), .pointer (some ⟨g126, 0, none⟩), .pointer (some ⟨g134, 0, none⟩), .int .i64 (k : Int), .int .i64 (qSize c11), .int .i64 (k : Int), .pointer (some ⟨g126, 0, none⟩), .int .i64 (k : Int)] .nil (by kernel_rfl) (fun b146 => ?_)
      have hp149 := hp139.pull1
      refine OPS.cons (opStep.call (some 97) [.pointer (some ⟨g126, 0, none⟩), .int .i64 (k : Int)] (by kernel_rfl) (q_Add _ _ _ c11 mc _ hok12 (k : Int) hp149) ?_)
      rintro _ w150 ⟨b153, rfl, hq152, hp151⟩
      refine ⟨_, rfl, ?_⟩
      refine OPS.nil ?_
      refine thn_n ?_
      refine WP.region _ rfl (by kernel_rfl) ?_
      refine OPS.batch 6 {} [.int .i64 c11.N] [3, 7, 15, 17, 91, 92, 98, 103] [.pointer (some ⟨g3, 0, none⟩), .int .i64 (qCom c11), .pointer (some ⟨g126, 0, none⟩), .pointer (some ⟨g134, 0, none⟩), .int .i64 (qSize c11), .int .i64 (k : Int), .pointer (some ⟨g134, 0, none⟩), .int .i64 ((c11.N - 1) - (k : Int))] (.cons (Ld.row1 (P := Try.prog) (t := 3) (o := 0) (v := .int .i64 c11.N) hp151.get5 (by kernel_rfl)) (.cons (show Rng .i64 (c11.N - 1) from Rng.i64 (by omega)) (.cons (show Rng .i64 ((c11.N - 1) - (k : Int)) from Rng.i64 (by omega)) .nil))) (by kernel_rfl) (fun b154 => ?_)
      have hp157 := hp151.pull1
      refine OPS.cons (opStep.call (some 104) [.pointer (some ⟨g134, 0, none⟩), .int .i64 ((c11.N - 1) - (k : Int))] (by kernel_rfl) (q_Add _ _ _ c11 md _ hok12 ((c11.N - 1) - (k : Int)) hp157) ?_)
      rintro _ w158 ⟨b161, rfl, hq160, hp159⟩
      refine ⟨_, rfl, ?_⟩
      refine OPS.nil ?_
      refine blk_n ?_
      refine thn_n ?_
      refine WP.pure {} [] [3, 7, 15, 17, 91, 92] [.pointer (some ⟨g3, 0, none⟩), .int .i64 (qCom c11), .pointer (some ⟨g126, 0, none⟩), .pointer (some ⟨g134, 0, none⟩), .int .i64 (qSize c11), .int .i64 ((k : Int) + 1)] (.cons (show Rng .i64 ((k : Int) + 1) from Rng.i64 (by omega)) .nil) (by kernel_rfl) (fun b162 => ?_)
      refine thn_n ?_
      exact ⟨(qSize c11).toNat - (k + 1), (by omega), k + 1, (qAdd c11 mc (k : Int)), (qAdd c11 md ((c11.N - 1) - (k : Int))), rfl, ⟨by omega, low_step (by omega) pb, high_step (by omega) pc⟩, by kernel_rfl, hp159⟩
    · refine WP.exit ?_
      refine thn_x ?_
      refine thn_x ?_
      refine blk_hit ?_
      refine thn_n ?_
      refine WP.seq ?_
      refine WP.region _ rfl (by kernel_rfl) ?_
      refine OPS.batch 2 {} [] [7, 15, 17, 107, 108] [.int .i64 (qCom c11), .pointer (some ⟨g126, 0, none⟩), .pointer (some ⟨g134, 0, none⟩), .pointer (some ⟨g126, 0, none⟩), .pointer (some ⟨g134, 0, none⟩)] .nil (by kernel_rfl) (fun b163 => ?_)
      have hp166 := hp139.pull0
      have hp167 := hp166.pull1
      refine OPS.cons (opStep.call (some 109) [.pointer (some ⟨g126, 0, none⟩), .pointer (some ⟨g134, 0, none⟩)] (by kernel_rfl) (q_And _ _ _ _ c11 mc md _ hok12 hp167) ?_)
      rintro _ w168 ⟨g170, rfl, hp169⟩
      refine ⟨_, rfl, ?_⟩
      refine OPS.batch 5 {} [] [7, 15, 17, 20, 21] [.int .i64 (qCom c11), .pointer (some ⟨g126, 0, none⟩), .pointer (some ⟨g134, 0, none⟩), .pointer (some ⟨g170, 0, none⟩), .int .i64 0] .nil (by kernel_rfl) (fun b171 => ?_)
      refine OPS.nil ?_
      refine thn_n ?_
      refine WP.cut (fun e215 w216 => ∃ (x213 : Bool), (True) ∧ Bp x213 ((qSize c11 ≤ ((cntB mc 256 : Nat) : Int)) ∧ (qSize c11 ≤ ((cntB md 256 : Nat) : Int)) ∧ (((cntB (mc &&& md) 256 : Nat) : Int) = (qCom c11))) ∧ List.map e215 [6] = [.bool x213] ∧ Hp w Non [Res.row g170 [.int .i64 c11.N, .int .i64 c11.K, .int .i64 c11.Delta, .int .u64 ((wd (mc &&& md) 0 : Nat) : Int), .int .u64 ((wd (mc &&& md) 1 : Nat) : Int), .int .u64 ((wd (mc &&& md) 2 : Nat) : Int), .int .u64 ((wd (mc &&& md) 3 : Nat) : Int)] 133, Res.row g134 [.int .i64 c11.N, .int .i64 c11.K, .int .i64 c11.Delta, .int .u64 ((wd md 0 : Nat) : Int), .int .u64 ((wd md 1 : Nat) : Int), .int .u64 ((wd md 2 : Nat) : Int), .int .u64 ((wd md 3 : Nat) : Int)] 133, Res.row g126 [.int .i64 c11.N, .int .i64 c11.K, .int .i64 c11.Delta, .int .u64 ((wd mc 0 : Nat) : Int), .int .u64 ((wd mc 1 : Nat) : Int), .int .u64 ((wd mc 2 : Nat) : Int), .int .u64 ((wd mc 3 : Nat) : Int)] 133, Res.row g58 [.int .i64 c11.N, .int .i64 c11.K, .int .i64 c11.Delta, .int .u64 ((wd (m36 &&& m47) 0 : Nat) : Int), .int .u64 ((wd (m36 &&& m47) 1 : Nat) : Int), .int .u64 ((wd (m36 &&& m47) 2 : Nat) : Int), .int .u64 ((wd (m36 &&& m47) 3 : Nat) : Int)] 133, Res.row g35 [.int .i64 c11.N, .int .i64 c11.K, .int .i64 c11.Delta, .int .u64 ((wd m36 0 : Nat) : Int), .int .u64 ((wd m36 1 : Nat) : Int), .int .u64 ((wd m36 2 : Nat) : Int), .int .u64 ((wd m36 3 : Nat) : Int)] 133, Res.row g46 [.int .i64 c11.N, .int .i64 c11.K, .int .i64 c11.Delta, .int .u64 ((wd m47 0 : Nat) : Int), .int .u64 ((wd m47 1 : Nat) : Int), .int .u64 ((wd m47 2 : Nat) : Int), .int .u64 ((wd m47 3 : Nat) : Int)] 133, Res.row g3 [.int .i64 c11.N, .int .i64 c11.K, .int .i64 c11.Delta] 60] w216) ?_ ?_
      · refine WP.region _ rfl (by kernel_rfl) ?_
        refine OPS.batch 4 {} [] [7, 17, 20, 114, 115] [.int .i64 (qCom c11), .pointer (some ⟨g134, 0, none⟩), .pointer (some ⟨g170, 0, none⟩), .bool true, .pointer (some ⟨g126, 0, none⟩)] .nil (by kernel_rfl) (fun b173 => ?_)
        refine OPS.want (by kernel_rfl) ?_
        have hp176 := hp169.pull1
        refine OPS.cons (opStep.call (some 116) [.pointer (some ⟨g126, 0, none⟩)] (by kernel_rfl) (q_Met _ _ _ c11 mc _ hok12  hp176) ?_)
        rintro _ w177 ⟨b180, rfl, hq179, hp178⟩
        refine ⟨_, rfl, ?_⟩
        refine OPS.batch 2 { wraps := [117] } [] [7, 17, 20, 118] [.int .i64 (qCom c11), .pointer (some ⟨g134, 0, none⟩), .pointer (some ⟨g170, 0, none⟩), .bool b180] .nil (by kernel_rfl) (fun b181 => ?_)
        by_cases h182 : qSize c11 ≤ ((cntB mc 256 : Nat) : Int)
        · rw [show b180 = true from hq179.tt h182]
          refine OPS.batch 1 {} [] [7, 20, 118, 119] [.int .i64 (qCom c11), .pointer (some ⟨g170, 0, none⟩), .bool true, .pointer (some ⟨g134, 0, none⟩)] .nil (by kernel_rfl) (fun b183 => ?_)
          refine OPS.want (by kernel_rfl) ?_
          have hp186 := hp178.pull2
          refine OPS.cons (opStep.call (some 120) [.pointer (some ⟨g134, 0, none⟩)] (by kernel_rfl) (q_Met _ _ _ c11 md _ hok12  hp186) ?_)
          rintro _ w187 ⟨b190, rfl, hq189, hp188⟩
          refine ⟨_, rfl, ?_⟩
          refine OPS.batch 2 { wraps := [121] } [] [7, 20, 122] [.int .i64 (qCom c11), .pointer (some ⟨g170, 0, none⟩), .bool b190] .nil (by kernel_rfl) (fun b191 => ?_)
          by_cases h192 : qSize c11 ≤ ((cntB md 256 : Nat) : Int)
          · rw [show b190 = true from hq189.tt h192]
            refine OPS.batch 1 {} [] [7, 122, 123] [.int .i64 (qCom c11), .bool true, .pointer (some ⟨g170, 0, none⟩)] .nil (by kernel_rfl) (fun b193 => ?_)
            refine OPS.want (by kernel_rfl) ?_
            have hp196 := hp188.pull2
            refine OPS.cons (opStep.call (some 124) [.pointer (some ⟨g170, 0, none⟩)] (by kernel_rfl) (q_Len _ _ _ c11 (mc &&& md) _ hok12  hp196) ?_)
            rintro _ w197 ⟨rfl, hp198⟩
            refine ⟨_, rfl, ?_⟩
            refine OPS.batch 4 { wraps := [127] } [] [128] [.bool (decide (((cntB (mc &&& md) 256 : Nat) : Int) = (qCom c11)))] .nil (by kernel_rfl) (fun b200 => ?_)
            by_cases h201 : ((cntB (mc &&& md) 256 : Nat) : Int) = (qCom c11)
            · refine OPS.batch 0 {} [] [128] [.bool (decide (((cntB (mc &&& md) 256 : Nat) : Int) = (qCom c11)))] .nil (by kernel_rfl) (fun b202 => ?_)
              refine OPS.re [.bool true] (by rw [show (decide (((cntB (mc &&& md) 256 : Nat) : Int) = (qCom c11))) = true from Bp.dec.tt h201]) ?_
              refine OPS.want (by kernel_rfl) ?_
              refine OPS.cons (opStep.call (some 129) [] (by kernel_rfl) (q_taken _) ?_)
              rintro _ w205 ⟨rfl, hf206⟩
              refine ⟨_, rfl, ?_⟩
              have hp207 := hp198.step hf206
              refine OPS.batch 2 { wraps := [130] } [] [6] [.bool true] .nil (by kernel_rfl) (fun b208 => ?_)
              refine OPS.nil ?_
              refine thn_n ?_
              exact ⟨true, trivial, Bp.of Bp.t (by first | (simp only [h182, h192, h201, iff_false, false_iff, iff_true, true_iff, Classical.not_not, and_true, true_and, and_false, false_and, or_true, true_or, or_false, false_or, not_true_eq_false, not_false_eq_true, and_self, or_self, iff_self]; done) | (simp [h182, h192, h201]; done) | simp_all), by kernel_rfl, hp207⟩
            · refine OPS.batch 0 {} [] [128] [.bool (decide (((cntB (mc &&& md) 256 : Nat) : Int) = (qCom c11)))] .nil (by kernel_rfl) (fun b209 => ?_)
              refine OPS.re [.bool false] (by rw [show (decide (((cntB (mc &&& md) 256 : Nat) : Int) = (qCom c11))) = false from Bp.dec.ff h201]) ?_
              refine OPS.batch 3 { wraps := [130] } [] [6] [.bool false] .nil (by kernel_rfl) (fun b210 => ?_)
              refine OPS.nil ?_
              refine thn_n ?_
              exact ⟨false, trivial, Bp.of Bp.f (by first | (simp only [h182, h192, h201, iff_false, false_iff, iff_true, true_iff, Classical.not_not, and_true, true_and, and_false, false_and, or_true, true_or, or_false, false_or, not_true_eq_false, not_false_eq_true, and_self, or_self, iff_self]; done) | (simp [h182, h192, h201]; done) | simp_all), by kernel_rfl, hp198⟩
          · rw [show b190 = false from hq189.ff h192]
            refine OPS.batch 9 { wraps := [127, 130] } [] [6] [.bool false] .nil (by kernel_rfl) (fun b211 => ?_)
            refine OPS.nil ?_
            refine thn_n ?_
            exact ⟨false, trivial, Bp.of Bp.f (by first | (simp only [h182, h192, iff_false, false_iff, iff_true, true_iff, Classical.not_not, and_true, true_and, and_false, false_and, or_true, true_or, or_false, false_or, not_true_eq_false, not_false_eq_true, and_self, or_self, iff_self]; done) | (simp [h182, h192]; done) | simp_all), by kernel_rfl, ((((((((hp188.pull6).pull6).pull6).pull6).pull5).pull5).pull6).sub (.cons_cons _ (.cons_cons _ (.cons_cons _ (.cons_cons _ (.cons_cons _ (.cons_cons _ (.cons_cons _ (.slnil)))))))))⟩
        · rw [show b180 = false from hq179.ff h182]
          refine OPS.batch 13 { wraps := [121, 127, 130] } [] [6] [.bool false] .nil (by kernel_rfl) (fun b212 => ?_)
          refine OPS.nil ?_
          refine thn_n ?_
          exact ⟨false, trivial, Bp.of Bp.f (by first | (simp only [h182, iff_false, false_iff, iff_true, true_iff, Classical.not_not, and_true, true_and, and_false, false_and, or_true, true_or, or_false, false_or, not_true_eq_false, not_false_eq_true, and_self, or_self, iff_self]; done) | (simp [h182]; done) | simp_all), by kernel_rfl, ((((((((hp178.pull6).pull6).pull6).pull6).pull4).pull6).pull6).sub (.cons_cons _ (.cons_cons _ (.cons_cons _ (.cons_cons _ (.cons_cons _ (.cons_cons _ (.cons_cons _ (.slnil)))))))))⟩
      rintro e215 w216 ⟨x213, hd218, hb214, hE219, hp217⟩
      obtain ⟨b220, rfl⟩ := toMk hE219
      clear hE219
      clear hd218
      refine WP.ret ?_
      refine bodyQ.of _ rfl [.bool x213] ⟨rfl, trivial⟩ ?_
      obtain ⟨k1, k2, k3⟩ := low_high hok12 (by omega) pb pc
      exact ⟨congrArg (fun b => Ending.returned (.bool b)) (Bp.tt hb214 (by first | exact ⟨by omega, by omega, by omega, by omega, trivial⟩ | simp_all)), hp217.fr⟩

end Go.Proofs.Ythdkbbpiaeaojaa.K
