/- The walks of WQuorumConfigs: what each function computes. -/
import Derived.Test.YthdkbbpiaeaojaaProg
import Derived.Test.YthdkbbpiaeaojaaCoreO
import Derived.Test.YthdkbbpiaeaojaaQuoL
import Derived.Test.YthdkbbpiaeaojaaOpen
namespace Go.Proofs.Ythdkbbpiaeaojaa.K
open Go Go.Proofs Go.RowKit
set_option linter.unusedVariables false
set_option linter.unusedSimpArgs false
set_option maxRecDepth 20000
set_option maxHeartbeats 4000000

theorem QuorumConfigs (c : GConfig) (w : World) :
    Calls Try.prog 10 #[GConfig.val c] w (fun x w' => x = .returned (.bool true) ∧ Fram Non w w') := by
  refine calls_of Try.func10 rfl 83 rfl (by simp) ?_
  have hp0 := Hp.init w
  have he0 : List.map (env0 [GConfig.val c]) [0] = [GConfig.val c] := by kernel_rfl
  obtain ⟨b0, he0⟩ := toMk he0
  rw [he0]
  clear he0
  refine WP.seq ?_
  refine WP.region _ rfl (by kernel_rfl) ?_
  refine OPS.cons (opStep.box hp0 [.int .i64 c.N, .int .i64 c.K, .int .i64 c.Delta] (by kernel_rfl) (fun g3 w1 hp2 => ?_))
  refine OPS.batch 1 {} [] [1] [.pointer (some ⟨g3, 0, none⟩)] .nil (by kernel_rfl) (fun b4 => ?_)
  refine OPS.nil ?_
  refine thn_n ?_
  refine WP.seq ?_
  refine WP.region _ rfl (by kernel_rfl) ?_
  refine OPS.batch 1 {} [GConfig.val c] [1, 16] [.pointer (some ⟨g3, 0, none⟩), GConfig.val c] (.cons (show Ld Try.prog w1 60 ⟨g3, 0, none⟩ (GConfig.val c) from Ld.rowN (cs := [.int .i64 c.N, .int .i64 c.K, .int .i64 c.Delta]) hp2.get0 (by kernel_rfl)) .nil) (by kernel_rfl) (fun b5 => ?_)
  refine OPS.cons (opStep.call (some 17) [GConfig.val c] (by kernel_rfl) (q_Size c _) ?_)
  rintro _ w8 ⟨rfl, hf9⟩
  refine ⟨_, rfl, ?_⟩
  have hp10 := hp2.step hf9
  refine OPS.batch 5 {} [] [1, 3, 4] [.pointer (some ⟨g3, 0, none⟩), .int .i64 (qSize c), .int .i64 (qChk c)] .nil (by kernel_rfl) (fun b11 => ?_)
  refine OPS.nil ?_
  refine thn_n ?_
  refine WP.seq ?_
  refine WP.region _ rfl (by kernel_rfl) ?_
  refine OPS.batch 1 {} [GConfig.val c] [1, 3, 4, 21] [.pointer (some ⟨g3, 0, none⟩), .int .i64 (qSize c), .int .i64 (qChk c), GConfig.val c] (.cons (show Ld Try.prog w8 60 ⟨g3, 0, none⟩ (GConfig.val c) from Ld.rowN (cs := [.int .i64 c.N, .int .i64 c.K, .int .i64 c.Delta]) hp10.get0 (by kernel_rfl)) .nil) (by kernel_rfl) (fun b12 => ?_)
  refine OPS.cons (opStep.call (some 22) [GConfig.val c] (by kernel_rfl) (q_Down c _) ?_)
  rintro _ w15 ⟨rfl, hf16⟩
  refine ⟨_, rfl, ?_⟩
  have hp17 := hp10.step hf16
  refine OPS.batch 5 {} [] [1, 3, 4, 5, 6] [.pointer (some ⟨g3, 0, none⟩), .int .i64 (qSize c), .int .i64 (qChk c), .int .i64 (qDown c), .int .i64 (qChk c)] .nil (by kernel_rfl) (fun b18 => ?_)
  refine OPS.nil ?_
  refine thn_n ?_
  refine WP.seq ?_
  refine WP.region _ rfl (by kernel_rfl) ?_
  refine OPS.batch 1 {} [GConfig.val c] [1, 3, 4, 5, 6, 26] [.pointer (some ⟨g3, 0, none⟩), .int .i64 (qSize c), .int .i64 (qChk c), .int .i64 (qDown c), .int .i64 (qChk c), GConfig.val c] (.cons (show Ld Try.prog w15 60 ⟨g3, 0, none⟩ (GConfig.val c) from Ld.rowN (cs := [.int .i64 c.N, .int .i64 c.K, .int .i64 c.Delta]) hp17.get0 (by kernel_rfl)) .nil) (by kernel_rfl) (fun b19 => ?_)
  refine OPS.cons (opStep.call (some 27) [GConfig.val c] (by kernel_rfl) (q_Common c _) ?_)
  rintro _ w22 ⟨rfl, hf23⟩
  refine ⟨_, rfl, ?_⟩
  have hp24 := hp17.step hf23
  refine OPS.batch 5 {} [] [1, 3, 4, 5, 6, 7, 8] [.pointer (some ⟨g3, 0, none⟩), .int .i64 (qSize c), .int .i64 (qChk c), .int .i64 (qDown c), .int .i64 (qChk c), .int .i64 (qCom c), .int .i64 (qChk c)] .nil (by kernel_rfl) (fun b25 => ?_)
  refine OPS.nil ?_
  refine thn_n ?_
  refine WP.seq ?_
  refine WP.region _ rfl (by kernel_rfl) ?_
  refine OPS.batch 1 {} [GConfig.val c] [1, 3, 4, 5, 6, 7, 8, 31] [.pointer (some ⟨g3, 0, none⟩), .int .i64 (qSize c), .int .i64 (qChk c), .int .i64 (qDown c), .int .i64 (qChk c), .int .i64 (qCom c), .int .i64 (qChk c), GConfig.val c] (.cons (show Ld Try.prog w22 60 ⟨g3, 0, none⟩ (GConfig.val c) from Ld.rowN (cs := [.int .i64 c.N, .int .i64 c.K, .int .i64 c.Delta]) hp24.get0 (by kernel_rfl)) .nil) (by kernel_rfl) (fun b26 => ?_)
  refine OPS.cons (opStep.call (some 32) [GConfig.val c] (by kernel_rfl) (r_Size c _) ?_)
  rintro _ w29 ⟨rfl, hf30⟩
  refine ⟨_, rfl, ?_⟩
  have hp31 := hp24.step hf30
  refine OPS.batch 5 {} [] [1, 3, 4, 5, 6, 7, 8, 9, 10] [.pointer (some ⟨g3, 0, none⟩), .int .i64 (qSize c), .int .i64 (qChk c), .int .i64 (qDown c), .int .i64 (qChk c), .int .i64 (qCom c), .int .i64 (qChk c), .int .i64 (qSize c), .int .i64 (qChk c)] .nil (by kernel_rfl) (fun b32 => ?_)
  refine OPS.nil ?_
  refine thn_n ?_
  refine WP.seq ?_
  refine WP.region _ rfl (by kernel_rfl) ?_
  refine OPS.batch 1 {} [GConfig.val c] [1, 3, 4, 5, 6, 7, 8, 9, 10, 36] [.pointer (some ⟨g3, 0, none⟩), .int .i64 (qSize c), .int .i64 (qChk c), .int .i64 (qDown c), .int .i64 (qChk c), .int .i64 (qCom c), .int .i64 (qChk c), .int .i64 (qSize c), .int .i64 (qChk c), GConfig.val c] (.cons (show Ld Try.prog w29 60 ⟨g3, 0, none⟩ (GConfig.val c) from Ld.rowN (cs := [.int .i64 c.N, .int .i64 c.K, .int .i64 c.Delta]) hp31.get0 (by kernel_rfl)) .nil) (by kernel_rfl) (fun b33 => ?_)
  refine OPS.cons (opStep.call (some 37) [GConfig.val c] (by kernel_rfl) (r_Down c _) ?_)
  rintro _ w36 ⟨rfl, hf37⟩
  refine ⟨_, rfl, ?_⟩
  have hp38 := hp31.step hf37
  refine OPS.batch 5 {} [] [1, 3, 4, 5, 6, 7, 8, 9, 10, 11, 12] [.pointer (some ⟨g3, 0, none⟩), .int .i64 (qSize c), .int .i64 (qChk c), .int .i64 (qDown c), .int .i64 (qChk c), .int .i64 (qCom c), .int .i64 (qChk c), .int .i64 (qSize c), .int .i64 (qChk c), .int .i64 (qDown c), .int .i64 (qChk c)] .nil (by kernel_rfl) (fun b39 => ?_)
  refine OPS.nil ?_
  refine thn_n ?_
  refine WP.seq ?_
  refine WP.region _ rfl (by kernel_rfl) ?_
  refine OPS.batch 1 {} [GConfig.val c] [1, 3, 4, 5, 6, 7, 8, 9, 10, 11, 12, 41] [.pointer (some ⟨g3, 0, none⟩), .int .i64 (qSize c), .int .i64 (qChk c), .int .i64 (qDown c), .int .i64 (qChk c), .int .i64 (qCom c), .int .i64 (qChk c), .int .i64 (qSize c), .int .i64 (qChk c), .int .i64 (qDown c), .int .i64 (qChk c), GConfig.val c] (.cons (show Ld Try.prog w36 60 ⟨g3, 0, none⟩ (GConfig.val c) from Ld.rowN (cs := [.int .i64 c.N, .int .i64 c.K, .int .i64 c.Delta]) hp38.get0 (by kernel_rfl)) .nil) (by kernel_rfl) (fun b40 => ?_)
  refine OPS.cons (opStep.call (some 42) [GConfig.val c] (by kernel_rfl) (r_Common c _) ?_)
  rintro _ w43 ⟨rfl, hf44⟩
  refine ⟨_, rfl, ?_⟩
  have hp45 := hp38.step hf44
  refine OPS.batch 5 {} [] [1, 3, 4, 5, 6, 7, 8, 9, 10, 11, 12, 13, 14] [.pointer (some ⟨g3, 0, none⟩), .int .i64 (qSize c), .int .i64 (qChk c), .int .i64 (qDown c), .int .i64 (qChk c), .int .i64 (qCom c), .int .i64 (qChk c), .int .i64 (qSize c), .int .i64 (qChk c), .int .i64 (qDown c), .int .i64 (qChk c), .int .i64 (qCom c), .int .i64 (qChk c)] .nil (by kernel_rfl) (fun b46 => ?_)
  refine OPS.nil ?_
  refine thn_n ?_
  refine WP.cut (fun e149 w150 => ∃ (x147 : Bool), (True) ∧ Bp x147 (((qChk c) = (qChk c)) ∧ ((qSize c) = (qSize c)) ∧ ((qDown c) = (qDown c)) ∧ ((qCom c) = (qCom c)) ∧ ((qChk c) = (qChk c)) ∧ ((qChk c) = (qChk c)) ∧ ((qChk c) = (qChk c))) ∧ List.map e149 [2] = [.bool x147] ∧ Hp w Non [Res.row g3 [.int .i64 c.N, .int .i64 c.K, .int .i64 c.Delta] 60] w150) ?_ ?_
  · have hp50 := hp45.drew
    refine WP.quiet (fun w48 => Hp w Non [Res.row g3 [.int .i64 c.N, .int .i64 c.K, .int .i64 c.Delta] 60] w48) (by kernel_rfl) hp50 ?_
    have hnehp50 : ∃ wz_, (fun w48 => Hp w Non [Res.row g3 [.int .i64 c.N, .int .i64 c.K, .int .i64 c.Delta] 60] w48) wz_ := ⟨_, hp50⟩
    refine QOPS.batch 1 {} [GConfig.val c] [1, 3, 4, 5, 6, 7, 8, 9, 10, 11, 12, 13, 14, 45] [.pointer (some ⟨g3, 0, none⟩), .int .i64 (qSize c), .int .i64 (qChk c), .int .i64 (qDown c), .int .i64 (qChk c), .int .i64 (qCom c), .int .i64 (qChk c), .int .i64 (qSize c), .int .i64 (qChk c), .int .i64 (qDown c), .int .i64 (qChk c), .int .i64 (qCom c), .int .i64 (qChk c), GConfig.val c] hnehp50 (fun w51 hp52 => QB.mk (.cons (show Ld Try.prog w51 60 ⟨g3, 0, none⟩ (GConfig.val c) from Ld.rowN (cs := [.int .i64 c.N, .int .i64 c.K, .int .i64 c.Delta]) hp52.get0 (by kernel_rfl)) .nil) (by kernel_rfl)) (fun b53 => ?_)
    refine QOPS.call (some 46) [GConfig.val c] (by kernel_rfl) (fun w54 hp55 => (q_Check c _).mono fun _ _ h => ⟨h.1, hp55.step h.2⟩) ?_
    refine QOPS.batch 1 {} [GConfig.val c] [3, 4, 5, 6, 7, 8, 9, 10, 11, 12, 13, 14, 46, 47] [.int .i64 (qSize c), .int .i64 (qChk c), .int .i64 (qDown c), .int .i64 (qChk c), .int .i64 (qCom c), .int .i64 (qChk c), .int .i64 (qSize c), .int .i64 (qChk c), .int .i64 (qDown c), .int .i64 (qChk c), .int .i64 (qCom c), .int .i64 (qChk c), .int .i64 (qChk c), GConfig.val c] hnehp50 (fun w56 hp57 => QB.mk (.cons (show Ld Try.prog w56 60 ⟨g3, 0, none⟩ (GConfig.val c) from Ld.rowN (cs := [.int .i64 c.N, .int .i64 c.K, .int .i64 c.Delta]) hp57.get0 (by kernel_rfl)) .nil) (by kernel_rfl)) (fun b58 => ?_)
    refine QOPS.call (some 48) [GConfig.val c] (by kernel_rfl) (fun w59 hp60 => (r_Check c _).mono fun _ _ h => ⟨h.1, hp60.step h.2⟩) ?_
    refine QOPS.batch 2 {} [] [3, 4, 5, 6, 7, 8, 9, 10, 11, 12, 13, 14, 50] [.int .i64 (qSize c), .int .i64 (qChk c), .int .i64 (qDown c), .int .i64 (qChk c), .int .i64 (qCom c), .int .i64 (qChk c), .int .i64 (qSize c), .int .i64 (qChk c), .int .i64 (qDown c), .int .i64 (qChk c), .int .i64 (qCom c), .int .i64 (qChk c), .bool (decide ((qChk c) = (qChk c)))] hnehp50 (fun w61 hp62 => QB.mk .nil (by kernel_rfl)) (fun b63 => ?_)
    by_cases h64 : (qChk c) = (qChk c)
    · refine QOPS.batch 0 {} [] [3, 4, 5, 6, 7, 8, 9, 10, 11, 12, 13, 14, 50] [.int .i64 (qSize c), .int .i64 (qChk c), .int .i64 (qDown c), .int .i64 (qChk c), .int .i64 (qCom c), .int .i64 (qChk c), .int .i64 (qSize c), .int .i64 (qChk c), .int .i64 (qDown c), .int .i64 (qChk c), .int .i64 (qCom c), .int .i64 (qChk c), .bool (decide ((qChk c) = (qChk c)))] hnehp50 (fun _ _ => QB.mk .nil (by kernel_rfl)) (fun b65 => ?_)
      refine QOPS.re [.int .i64 (qSize c), .int .i64 (qChk c), .int .i64 (qDown c), .int .i64 (qChk c), .int .i64 (qCom c), .int .i64 (qChk c), .int .i64 (qSize c), .int .i64 (qChk c), .int .i64 (qDown c), .int .i64 (qChk c), .int .i64 (qCom c), .int .i64 (qChk c), .bool true] (by rw [show (decide ((qChk c) = (qChk c))) = true from Bp.dec.tt h64]) ?_
      refine QOPS.batch 5 { wraps := [54] } [] [4, 5, 6, 7, 8, 10, 11, 12, 13, 14, 55] [.int .i64 (qChk c), .int .i64 (qDown c), .int .i64 (qChk c), .int .i64 (qCom c), .int .i64 (qChk c), .int .i64 (qChk c), .int .i64 (qDown c), .int .i64 (qChk c), .int .i64 (qCom c), .int .i64 (qChk c), .bool (decide ((qSize c) = (qSize c)))] hnehp50 (fun w66 hp67 => QB.mk .nil (by kernel_rfl)) (fun b68 => ?_)
      by_cases h69 : (qSize c) = (qSize c)
      · refine QOPS.batch 0 {} [] [4, 5, 6, 7, 8, 10, 11, 12, 13, 14, 55] [.int .i64 (qChk c), .int .i64 (qDown c), .int .i64 (qChk c), .int .i64 (qCom c), .int .i64 (qChk c), .int .i64 (qChk c), .int .i64 (qDown c), .int .i64 (qChk c), .int .i64 (qCom c), .int .i64 (qChk c), .bool (decide ((qSize c) = (qSize c)))] hnehp50 (fun _ _ => QB.mk .nil (by kernel_rfl)) (fun b70 => ?_)
        refine QOPS.re [.int .i64 (qChk c), .int .i64 (qDown c), .int .i64 (qChk c), .int .i64 (qCom c), .int .i64 (qChk c), .int .i64 (qChk c), .int .i64 (qDown c), .int .i64 (qChk c), .int .i64 (qCom c), .int .i64 (qChk c), .bool true] (by rw [show (decide ((qSize c) = (qSize c))) = true from Bp.dec.tt h69]) ?_
        refine QOPS.batch 5 { wraps := [59] } [] [4, 6, 7, 8, 10, 12, 13, 14, 60] [.int .i64 (qChk c), .int .i64 (qChk c), .int .i64 (qCom c), .int .i64 (qChk c), .int .i64 (qChk c), .int .i64 (qChk c), .int .i64 (qCom c), .int .i64 (qChk c), .bool (decide ((qDown c) = (qDown c)))] hnehp50 (fun w71 hp72 => QB.mk .nil (by kernel_rfl)) (fun b73 => ?_)
        by_cases h74 : (qDown c) = (qDown c)
        · refine QOPS.batch 0 {} [] [4, 6, 7, 8, 10, 12, 13, 14, 60] [.int .i64 (qChk c), .int .i64 (qChk c), .int .i64 (qCom c), .int .i64 (qChk c), .int .i64 (qChk c), .int .i64 (qChk c), .int .i64 (qCom c), .int .i64 (qChk c), .bool (decide ((qDown c) = (qDown c)))] hnehp50 (fun _ _ => QB.mk .nil (by kernel_rfl)) (fun b75 => ?_)
          refine QOPS.re [.int .i64 (qChk c), .int .i64 (qChk c), .int .i64 (qCom c), .int .i64 (qChk c), .int .i64 (qChk c), .int .i64 (qChk c), .int .i64 (qCom c), .int .i64 (qChk c), .bool true] (by rw [show (decide ((qDown c) = (qDown c))) = true from Bp.dec.tt h74]) ?_
          refine QOPS.batch 5 { wraps := [64] } [] [4, 6, 8, 10, 12, 14, 65] [.int .i64 (qChk c), .int .i64 (qChk c), .int .i64 (qChk c), .int .i64 (qChk c), .int .i64 (qChk c), .int .i64 (qChk c), .bool (decide ((qCom c) = (qCom c)))] hnehp50 (fun w76 hp77 => QB.mk .nil (by kernel_rfl)) (fun b78 => ?_)
          by_cases h79 : (qCom c) = (qCom c)
          · refine QOPS.batch 0 {} [] [4, 6, 8, 10, 12, 14, 65] [.int .i64 (qChk c), .int .i64 (qChk c), .int .i64 (qChk c), .int .i64 (qChk c), .int .i64 (qChk c), .int .i64 (qChk c), .bool (decide ((qCom c) = (qCom c)))] hnehp50 (fun _ _ => QB.mk .nil (by kernel_rfl)) (fun b80 => ?_)
            refine QOPS.re [.int .i64 (qChk c), .int .i64 (qChk c), .int .i64 (qChk c), .int .i64 (qChk c), .int .i64 (qChk c), .int .i64 (qChk c), .bool true] (by rw [show (decide ((qCom c) = (qCom c))) = true from Bp.dec.tt h79]) ?_
            refine QOPS.batch 5 { wraps := [69] } [] [6, 8, 12, 14, 70] [.int .i64 (qChk c), .int .i64 (qChk c), .int .i64 (qChk c), .int .i64 (qChk c), .bool (decide ((qChk c) = (qChk c)))] hnehp50 (fun w81 hp82 => QB.mk .nil (by kernel_rfl)) (fun b83 => ?_)
            by_cases h84 : (qChk c) = (qChk c)
            · refine QOPS.batch 0 {} [] [6, 8, 12, 14, 70] [.int .i64 (qChk c), .int .i64 (qChk c), .int .i64 (qChk c), .int .i64 (qChk c), .bool (decide ((qChk c) = (qChk c)))] hnehp50 (fun _ _ => QB.mk .nil (by kernel_rfl)) (fun b85 => ?_)
              refine QOPS.re [.int .i64 (qChk c), .int .i64 (qChk c), .int .i64 (qChk c), .int .i64 (qChk c), .bool true] (by rw [show (decide ((qChk c) = (qChk c))) = true from Bp.dec.tt h84]) ?_
              refine QOPS.batch 5 { wraps := [74] } [] [8, 14, 75] [.int .i64 (qChk c), .int .i64 (qChk c), .bool (decide ((qChk c) = (qChk c)))] hnehp50 (fun w86 hp87 => QB.mk .nil (by kernel_rfl)) (fun b88 => ?_)
              by_cases h89 : (qChk c) = (qChk c)
              · refine QOPS.batch 0 {} [] [8, 14, 75] [.int .i64 (qChk c), .int .i64 (qChk c), .bool (decide ((qChk c) = (qChk c)))] hnehp50 (fun _ _ => QB.mk .nil (by kernel_rfl)) (fun b90 => ?_)
                refine QOPS.re [.int .i64 (qChk c), .int .i64 (qChk c), .bool true] (by rw [show (decide ((qChk c) = (qChk c))) = true from Bp.dec.tt h89]) ?_
                refine QOPS.batch 5 { wraps := [79] } [] [80] [.bool (decide ((qChk c) = (qChk c)))] hnehp50 (fun w91 hp92 => QB.mk .nil (by kernel_rfl)) (fun b93 => ?_)
                by_cases h94 : (qChk c) = (qChk c)
                · refine QOPS.batch 0 {} [] [80] [.bool (decide ((qChk c) = (qChk c)))] hnehp50 (fun _ _ => QB.mk .nil (by kernel_rfl)) (fun b95 => ?_)
                  refine QOPS.re [.bool true] (by rw [show (decide ((qChk c) = (qChk c))) = true from Bp.dec.tt h94]) ?_
                  refine QOPS.call (some 81) [] (by kernel_rfl) (fun w98 hp99 => (q_taken _).mono fun _ _ h => ⟨h.1, hp99.step h.2⟩) ?_
                  refine QOPS.batch 2 { wraps := [82] } [] [2] [.bool true] hnehp50 (fun w100 hp101 => QB.mk .nil (by kernel_rfl)) (fun b102 => ?_)
                  refine QOPS.nil (fun w103 hp104 => ?_)
                  refine thn_n ?_
                  exact ⟨true, trivial, Bp.of Bp.t (by first | (simp only [h64, h69, h74, h79, h84, h89, h94, iff_false, false_iff, iff_true, true_iff, Classical.not_not, and_true, true_and, and_false, false_and, or_true, true_or, or_false, false_or, not_true_eq_false, not_false_eq_true, and_self, or_self, iff_self]; done) | (simp [h64, h69, h74, h79, h84, h89, h94]; done) | simp_all), by kernel_rfl, hp104⟩
                · refine QOPS.batch 0 {} [] [80] [.bool (decide ((qChk c) = (qChk c)))] hnehp50 (fun _ _ => QB.mk .nil (by kernel_rfl)) (fun b105 => ?_)
                  refine QOPS.re [.bool false] (by rw [show (decide ((qChk c) = (qChk c))) = false from Bp.dec.ff h94]) ?_
                  refine QOPS.batch 3 { wraps := [82] } [] [2] [.bool false] hnehp50 (fun w106 hp107 => QB.mk .nil (by kernel_rfl)) (fun b108 => ?_)
                  refine QOPS.nil (fun w109 hp110 => ?_)
                  refine thn_n ?_
                  exact ⟨false, trivial, Bp.of Bp.f (by first | (simp only [h64, h69, h74, h79, h84, h89, h94, iff_false, false_iff, iff_true, true_iff, Classical.not_not, and_true, true_and, and_false, false_and, or_true, true_or, or_false, false_or, not_true_eq_false, not_false_eq_true, and_self, or_self, iff_self]; done) | (simp [h64, h69, h74, h79, h84, h89, h94]; done) | simp_all), by kernel_rfl, hp110⟩
              · refine QOPS.batch 0 {} [] [8, 14, 75] [.int .i64 (qChk c), .int .i64 (qChk c), .bool (decide ((qChk c) = (qChk c)))] hnehp50 (fun _ _ => QB.mk .nil (by kernel_rfl)) (fun b111 => ?_)
                refine QOPS.re [.int .i64 (qChk c), .int .i64 (qChk c), .bool false] (by rw [show (decide ((qChk c) = (qChk c))) = false from Bp.dec.ff h89]) ?_
                refine QOPS.batch 8 { wraps := [79, 82] } [] [2] [.bool false] hnehp50 (fun w112 hp113 => QB.mk .nil (by kernel_rfl)) (fun b114 => ?_)
                refine QOPS.nil (fun w115 hp116 => ?_)
                refine thn_n ?_
                exact ⟨false, trivial, Bp.of Bp.f (by first | (simp only [h64, h69, h74, h79, h84, h89, iff_false, false_iff, iff_true, true_iff, Classical.not_not, and_true, true_and, and_false, false_and, or_true, true_or, or_false, false_or, not_true_eq_false, not_false_eq_true, and_self, or_self, iff_self]; done) | (simp [h64, h69, h74, h79, h84, h89]; done) | simp_all), by kernel_rfl, hp116⟩
            · refine QOPS.batch 0 {} [] [6, 8, 12, 14, 70] [.int .i64 (qChk c), .int .i64 (qChk c), .int .i64 (qChk c), .int .i64 (qChk c), .bool (decide ((qChk c) = (qChk c)))] hnehp50 (fun _ _ => QB.mk .nil (by kernel_rfl)) (fun b117 => ?_)
              refine QOPS.re [.int .i64 (qChk c), .int .i64 (qChk c), .int .i64 (qChk c), .int .i64 (qChk c), .bool false] (by rw [show (decide ((qChk c) = (qChk c))) = false from Bp.dec.ff h84]) ?_
              refine QOPS.batch 13 { wraps := [74, 79, 82] } [] [2] [.bool false] hnehp50 (fun w118 hp119 => QB.mk .nil (by kernel_rfl)) (fun b120 => ?_)
              refine QOPS.nil (fun w121 hp122 => ?_)
              refine thn_n ?_
              exact ⟨false, trivial, Bp.of Bp.f (by first | (simp only [h64, h69, h74, h79, h84, iff_false, false_iff, iff_true, true_iff, Classical.not_not, and_true, true_and, and_false, false_and, or_true, true_or, or_false, false_or, not_true_eq_false, not_false_eq_true, and_self, or_self, iff_self]; done) | (simp [h64, h69, h74, h79, h84]; done) | simp_all), by kernel_rfl, hp122⟩
          · refine QOPS.batch 0 {} [] [4, 6, 8, 10, 12, 14, 65] [.int .i64 (qChk c), .int .i64 (qChk c), .int .i64 (qChk c), .int .i64 (qChk c), .int .i64 (qChk c), .int .i64 (qChk c), .bool (decide ((qCom c) = (qCom c)))] hnehp50 (fun _ _ => QB.mk .nil (by kernel_rfl)) (fun b123 => ?_)
            refine QOPS.re [.int .i64 (qChk c), .int .i64 (qChk c), .int .i64 (qChk c), .int .i64 (qChk c), .int .i64 (qChk c), .int .i64 (qChk c), .bool false] (by rw [show (decide ((qCom c) = (qCom c))) = false from Bp.dec.ff h79]) ?_
            refine QOPS.batch 18 { wraps := [69, 74, 79, 82] } [] [2] [.bool false] hnehp50 (fun w124 hp125 => QB.mk .nil (by kernel_rfl)) (fun b126 => ?_)
            refine QOPS.nil (fun w127 hp128 => ?_)
            refine thn_n ?_
            exact ⟨false, trivial, Bp.of Bp.f (by first | (simp only [h64, h69, h74, h79, iff_false, false_iff, iff_true, true_iff, Classical.not_not, and_true, true_and, and_false, false_and, or_true, true_or, or_false, false_or, not_true_eq_false, not_false_eq_true, and_self, or_self, iff_self]; done) | (simp [h64, h69, h74, h79]; done) | simp_all), by kernel_rfl, hp128⟩
        · refine QOPS.batch 0 {} [] [4, 6, 7, 8, 10, 12, 13, 14, 60] [.int .i64 (qChk c), .int .i64 (qChk c), .int .i64 (qCom c), .int .i64 (qChk c), .int .i64 (qChk c), .int .i64 (qChk c), .int .i64 (qCom c), .int .i64 (qChk c), .bool (decide ((qDown c) = (qDown c)))] hnehp50 (fun _ _ => QB.mk .nil (by kernel_rfl)) (fun b129 => ?_)
          refine QOPS.re [.int .i64 (qChk c), .int .i64 (qChk c), .int .i64 (qCom c), .int .i64 (qChk c), .int .i64 (qChk c), .int .i64 (qChk c), .int .i64 (qCom c), .int .i64 (qChk c), .bool false] (by rw [show (decide ((qDown c) = (qDown c))) = false from Bp.dec.ff h74]) ?_
          refine QOPS.batch 23 { wraps := [64, 69, 74, 79, 82] } [] [2] [.bool false] hnehp50 (fun w130 hp131 => QB.mk .nil (by kernel_rfl)) (fun b132 => ?_)
          refine QOPS.nil (fun w133 hp134 => ?_)
          refine thn_n ?_
          exact ⟨false, trivial, Bp.of Bp.f (by first | (simp only [h64, h69, h74, iff_false, false_iff, iff_true, true_iff, Classical.not_not, and_true, true_and, and_false, false_and, or_true, true_or, or_false, false_or, not_true_eq_false, not_false_eq_true, and_self, or_self, iff_self]; done) | (simp [h64, h69, h74]; done) | simp_all), by kernel_rfl, hp134⟩
      · refine QOPS.batch 0 {} [] [4, 5, 6, 7, 8, 10, 11, 12, 13, 14, 55] [.int .i64 (qChk c), .int .i64 (qDown c), .int .i64 (qChk c), .int .i64 (qCom c), .int .i64 (qChk c), .int .i64 (qChk c), .int .i64 (qDown c), .int .i64 (qChk c), .int .i64 (qCom c), .int .i64 (qChk c), .bool (decide ((qSize c) = (qSize c)))] hnehp50 (fun _ _ => QB.mk .nil (by kernel_rfl)) (fun b135 => ?_)
        refine QOPS.re [.int .i64 (qChk c), .int .i64 (qDown c), .int .i64 (qChk c), .int .i64 (qCom c), .int .i64 (qChk c), .int .i64 (qChk c), .int .i64 (qDown c), .int .i64 (qChk c), .int .i64 (qCom c), .int .i64 (qChk c), .bool false] (by rw [show (decide ((qSize c) = (qSize c))) = false from Bp.dec.ff h69]) ?_
        refine QOPS.batch 28 { wraps := [59, 64, 69, 74, 79, 82] } [] [2] [.bool false] hnehp50 (fun w136 hp137 => QB.mk .nil (by kernel_rfl)) (fun b138 => ?_)
        refine QOPS.nil (fun w139 hp140 => ?_)
        refine thn_n ?_
        exact ⟨false, trivial, Bp.of Bp.f (by first | (simp only [h64, h69, iff_false, false_iff, iff_true, true_iff, Classical.not_not, and_true, true_and, and_false, false_and, or_true, true_or, or_false, false_or, not_true_eq_false, not_false_eq_true, and_self, or_self, iff_self]; done) | (simp [h64, h69]; done) | simp_all), by kernel_rfl, hp140⟩
    · refine QOPS.batch 0 {} [] [3, 4, 5, 6, 7, 8, 9, 10, 11, 12, 13, 14, 50] [.int .i64 (qSize c), .int .i64 (qChk c), .int .i64 (qDown c), .int .i64 (qChk c), .int .i64 (qCom c), .int .i64 (qChk c), .int .i64 (qSize c), .int .i64 (qChk c), .int .i64 (qDown c), .int .i64 (qChk c), .int .i64 (qCom c), .int .i64 (qChk c), .bool (decide ((qChk c) = (qChk c)))] hnehp50 (fun _ _ => QB.mk .nil (by kernel_rfl)) (fun b141 => ?_)
      refine QOPS.re [.int .i64 (qSize c), .int .i64 (qChk c), .int .i64 (qDown c), .int .i64 (qChk c), .int .i64 (qCom c), .int .i64 (qChk c), .int .i64 (qSize c), .int .i64 (qChk c), .int .i64 (qDown c), .int .i64 (qChk c), .int .i64 (qCom c), .int .i64 (qChk c), .bool false] (by rw [show (decide ((qChk c) = (qChk c))) = false from Bp.dec.ff h64]) ?_
      refine QOPS.batch 33 { wraps := [54, 59, 64, 69, 74, 79, 82] } [] [2] [.bool false] hnehp50 (fun w142 hp143 => QB.mk .nil (by kernel_rfl)) (fun b144 => ?_)
      refine QOPS.nil (fun w145 hp146 => ?_)
      refine thn_n ?_
      exact ⟨false, trivial, Bp.of Bp.f (by first | (simp only [h64, iff_false, false_iff, iff_true, true_iff, Classical.not_not, and_true, true_and, and_false, false_and, or_true, true_or, or_false, false_or, not_true_eq_false, not_false_eq_true, and_self, or_self, iff_self]; done) | (simp [h64]; done) | simp_all), by kernel_rfl, hp146⟩
  rintro e149 w150 ⟨x147, hd152, hb148, hE153, hp151⟩
  obtain ⟨b154, rfl⟩ := toMk hE153
  clear hE153
  clear hd152
  refine WP.ret ?_
  refine bodyQ.of _ rfl [.bool x147] ⟨rfl, trivial⟩ ?_
  exact ⟨congrArg (fun b => Ending.returned (.bool b)) (Bp.tt hb148 (by (simp_all))), hp151.fr⟩

end Go.Proofs.Ythdkbbpiaeaojaa.K
