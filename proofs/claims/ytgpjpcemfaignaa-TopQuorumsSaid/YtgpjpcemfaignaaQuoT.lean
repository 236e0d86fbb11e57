/- The walks of QuoT: what each function computes. -/
import Derived.Test.YtgpjpcemfaignaaProg
import Derived.Test.YtgpjpcemfaignaaCoreO
import Derived.Test.YtgpjpcemfaignaaQuoN
namespace Go.Proofs.Ytgpjpcemfaignaa.K
open Go Go.Proofs Go.RowKit
set_option linter.unusedVariables false
set_option linter.unusedSimpArgs false
set_option maxRecDepth 20000
set_option maxHeartbeats 4000000

theorem q_all (c : GConfig) : ((1 ≤ c.K ∧ c.K ≤ c.N ∧ c.N ≤ 255 ∧ 0 ≤ c.Delta ∧ c.Delta ≤ 4611686018427387903) ∧ qChk c = 0 ∧ (2 * qSize c = c.N + c.K ∨ 2 * qSize c = c.N + c.K + 1) ∧ qDown c = c.N - qSize c) ∨ (¬ (1 ≤ c.K ∧ c.K ≤ c.N ∧ c.N ≤ 255 ∧ 0 ≤ c.Delta ∧ c.Delta ≤ 4611686018427387903) ∧ qChk c = 40 ∧ qSize c = 0) := by
  by_cases h : okCfg c
  · exact .inl ⟨h, qChk_ok h, qSize_ok h, if_pos h⟩
  · exact .inr ⟨h, qChk_no h, qSize_no h⟩
theorem cnt_or {m x : Nat} : ∀ n, cntB (m ||| 2 ^ x) n = cntB m n + (if x < n ∧ m.testBit x = false then 1 else 0)
  | 0 => by simp [cntB]
  | n + 1 => by
    have ih := cnt_or (m := m) (x := x) n
    simp only [cntB, ih, Nat.testBit_or, Nat.testBit_two_pow]
    by_cases hx : x = n
    · subst hx
      cases m.testBit x <;> simp
    · have h1 : (x < n + 1) ↔ x < n := by omega
      simp only [hx, decide_false, Bool.or_false, h1]
      omega
theorem cnt_qadd {c : GConfig} (hok : okCfg c) (m : Nat) (x : Int) : ((cntB (qAdd c m x) 256 : Nat) : Int) = ((cntB m 256 : Nat) : Int) + (if inN c x ∧ m.testBit x.toNat = false then 1 else 0) := by
  unfold okCfg at hok
  unfold qAdd
  by_cases h : inN c x
  · rw [if_pos h, cnt_or]
    have h2 : x.toNat < 256 := by unfold inN at h; omega
    simp only [h2, true_and, h]
    split <;> simp
  · simp [h]
theorem addL_bitI {c : GConfig} {l : List Int} {x : Int} (h : inN c x) : (addL c l).testBit x.toNat = true ↔ x ∈ l := by
  rw [addL_bit]
  have : ((x.toNat : Nat) : Int) = x := by unfold inN at h; omega
  rw [this]
  simp [h]
theorem mem_take_succ {l : List Int} {k : Nat} {x : Int} (h : k < l.length) : x ∈ l.take (k + 1) ↔ x ∈ l.take k ∨ x = l[k]! := by
  rw [List.take_add_one, get_bang h]
  simp
theorem cnt_and_bit {a b n : Nat} : cntB (a &&& b) (n + 1) = cntB (a &&& b) n + (if a.testBit n = true ∧ b.testBit n = true then 1 else 0) := by
  simp only [cntB, Nat.testBit_and]
  cases a.testBit n <;> cases b.testBit n <;> simp
theorem fill_no {c : GConfig} {m : Nat} {l : List Int} {x : Int} (hm : m = addL c l) : ¬ ((¬ ((0 ≤ x ∧ x < c.N) ↔ qErr c x = 0)) ∨ (((0 ≤ x ∧ x < c.N) ↔ qErr c x = 0) ∧ (0 ≤ x ∧ x < c.N) ∧ ¬ ((inN c x ∧ m.testBit x.toNat = false) ↔ ¬ x ∈ l)) ∨ (((0 ≤ x ∧ x < c.N) ↔ qErr c x = 0) ∧ (¬ (0 ≤ x ∧ x < c.N)) ∧ ¬ ((inN c x ∧ m.testBit x.toNat = false) ↔ False))) := by
  subst hm
  by_cases h : inN c x
  · have hb := addL_bitI (l := l) h
    have h1 : 0 ≤ x ∧ x < c.N := h
    have h2 : qErr c x = 0 := if_pos h
    have h3 : (addL c l).testBit x.toNat = false ↔ ¬ x ∈ l := by rw [← hb]; simp
    simp [h, h1, h2, h3]
  · have h1 : ¬ (0 ≤ x ∧ x < c.N) := h
    have h2 : qErr c x = 51 := if_neg h
    simp only [h1, h2, h, false_and]
    simp
theorem has_both {c : GConfig} {l1 l2 : List Int} {i : Nat} (hi : (i : Int) < c.N) : (inN c (i : Int) ∧ ((addL c l1) &&& (addL c l2)).testBit ((i : Int)).toNat = true) ↔ (((i : Int) ∈ l1) ∧ ((i : Int) ∈ l2)) := by
  have h : inN c (i : Int) := ⟨by omega, hi⟩
  rw [Int.toNat_natCast, Nat.testBit_and, Bool.and_eq_true, addL_bit, addL_bit]
  simp [h]
theorem both_step {c : GConfig} {l1 l2 : List Int} {i : Nat} (hi : (i : Int) < c.N) : cntB (addL c l1 &&& addL c l2) (i + 1) = cntB (addL c l1 &&& addL c l2) i + (if ((i : Int) ∈ l1) ∧ ((i : Int) ∈ l2) then 1 else 0) := by
  have h : inN c (i : Int) := ⟨by omega, hi⟩
  simp only [cnt_and_bit, addL_bit, h, true_and]
theorem top_end {c : GConfig} {l1 l2 : List Int} {z : Int} {i : Nat} (hok : okCfg c) (hz : z = ((cntB (addL c l1 &&& addL c l2) i : Nat) : Int)) (hi : (i : Int) = c.N) : ((cntB ((addL c l1) &&& (addL c l2)) 256 : Nat) : Int) = z ∧ (qSize c ≤ ((cntB (addL c l1) 256 : Nat) : Int) → qSize c ≤ ((cntB (addL c l2) 256 : Nat) : Int) → c.K ≤ z) := by
  have e : ((cntB ((addL c l1) &&& (addL c l2)) 256 : Nat) : Int) = z := by
    rw [cnt_sn hok (small_and (addL_small c l1)), hz, show c.N.toNat = i from by omega]
  refine ⟨e, fun h1 h2 => ?_⟩
  have := share_low hok (addL_small c l1) (addL_small c l2) h1 h2
  have := qSize_ok hok
  omega

theorem q_New_no (c : GConfig) (w : World) (hok : ¬ okCfg c) :
    Calls Try.prog 12 #[GConfig.val c] w (fun r_ w' => r_ = .returned (.tuple #[.pointer none, .int .i64 40]) ∧ Fram Non w w') := by
  have hz := qChk_no hok
  refine calls_of Try.func12 rfl 10 rfl (by simp) ?_
  have hp0 := Hp.init w
  have he0 : List.map (env0 [GConfig.val c]) [0] = [GConfig.val c] := by kernel_rfl
  obtain ⟨b0, he0⟩ := toMk he0
  rw [he0]
  clear he0
  refine WP.seq ?_
  refine WP.region _ rfl (by kernel_rfl) ?_
  refine OPS.cons (opStep.box hp0 [.int .i64 c.N, .int .i64 c.K, .int .i64 c.Delta] (by kernel_rfl) (fun g3 w1 hp2 => ?_))
  refine OPS.batch 2 {} [] [1] [.pointer (some ⟨g3, 0, none⟩)] .nil (by kernel_rfl) (fun b4 => ?_)
  refine OPS.nil ?_
  refine thn_n ?_
  refine WP.seq ?_
  refine WP.seq ?_
  refine WP.region _ rfl (by kernel_rfl) ?_
  refine OPS.batch 1 {} [GConfig.val c] [1, 4] [.pointer (some ⟨g3, 0, none⟩), GConfig.val c] (.cons (show Ld Try.prog w1 23 ⟨g3, 0, none⟩ (GConfig.val c) from Ld.rowN (cs := [.int .i64 c.N, .int .i64 c.K, .int .i64 c.Delta]) hp2.get0 (by kernel_rfl)) .nil) (by kernel_rfl) (fun b5 => ?_)
  refine OPS.cons (opStep.call (some 5) [GConfig.val c] (by kernel_rfl) (q_Check c _) ?_)
  rintro _ w8 ⟨rfl, hf9⟩
  refine ⟨_, rfl, ?_⟩
  have hp10 := hp2.step hf9
  refine OPS.batch 1 {} [] [1, 6] [.pointer (some ⟨g3, 0, none⟩), .bool (decide (¬ ((qChk c) = 0)))] .nil (by kernel_rfl) (fun b11 => ?_)
  refine OPS.nil ?_
  refine thn_n ?_
  refine WP.test (p := ¬ ((qChk c) = 0)) rfl Bp.dec (fun h12 => ?_) (fun h12 => ?_)
  · refine WP.seq ?_
    refine WP.pure {} [] [2, 3] [.pointer none, .int .i64 40] .nil (by kernel_rfl) (fun b13 => ?_)
    refine thn_n ?_
    refine WP.ret ?_
    refine thn_r ?_
    refine bodyQ.of _ rfl [.pointer none, .int .i64 40] ⟨rfl, rfl, trivial⟩ ?_
    exact ⟨rfl, hp10.fr⟩
  · replace h12 := Classical.not_not.1 h12
    refine WP.skip ?_
    refine thn_n ?_
    refine WP.seq ?_
    refine WP.region _ rfl (by kernel_rfl) ?_
    refine OPS.batch 2 {} [GConfig.val c] [8] [.agg #[.int .i64 c.N, .int .i64 c.K, .int .i64 c.Delta, .int .u64 0, .int .u64 0, .int .u64 0, .int .u64 0]] (.cons (show Ld Try.prog w8 23 ⟨g3, 0, none⟩ (GConfig.val c) from Ld.rowN (cs := [.int .i64 c.N, .int .i64 c.K, .int .i64 c.Delta]) hp10.get0 (by kernel_rfl)) .nil) (by kernel_rfl) (fun b14 => ?_)
    refine OPS.cons (opStep.box hp10 [.int .i64 c.N, .int .i64 c.K, .int .i64 c.Delta, .int .u64 0, .int .u64 0, .int .u64 0, .int .u64 0] (by kernel_rfl) (fun g17 w15 hp16 => ?_))
    refine OPS.batch 2 {} [] [2, 3] [.pointer (some ⟨g17, 0, none⟩), .int .i64 0] .nil (by kernel_rfl) (fun b18 => ?_)
    refine OPS.nil ?_
    refine thn_n ?_
    refine WP.ret ?_
    refine bodyQ.of _ rfl [.pointer (some ⟨g17, 0, none⟩), .int .i64 0] ⟨rfl, rfl, trivial⟩ ?_
    exfalso
    rw [hz] at h12
    omega

theorem t_fits (c : GConfig) (w : World) :
    Calls Try.prog 11 #[GConfig.val c] w (fun r_ w' => ∃ f_, r_ = .returned (.bool f_) ∧ Bp f_ (1 ≤ c.K ∧ c.K ≤ c.N ∧ c.N ≤ 255 ∧ 0 ≤ c.Delta ∧ c.Delta ≤ 4611686018427387903) ∧ Fram Non w w') := by
  refine calls_of Try.func11 rfl 28 rfl (by simp) ?_
  have hp0 := Hp.init w
  have he0 : List.map (env0 [GConfig.val c]) [0] = [GConfig.val c] := by kernel_rfl
  obtain ⟨b0, he0⟩ := toMk he0
  rw [he0]
  clear he0
  refine WP.seq ?_
  refine WP.region _ rfl (by kernel_rfl) ?_
  refine OPS.cons (opStep.box hp0 [.int .i64 c.N, .int .i64 c.K, .int .i64 c.Delta] (by kernel_rfl) (fun g3 w1 hp2 => ?_))
  refine OPS.batch 1 {} [] [1] [.pointer (some ⟨g3, 0, none⟩)] .nil (by kernel_rfl) (fun b4 => ?_)
  refine OPS.nil ?_
  refine thn_n ?_
  refine WP.cut (fun e29 w30 => ∃ (x27 : Bool), (True) ∧ Bp x27 ((1 ≤ c.K) ∧ (c.K ≤ c.N) ∧ (c.N ≤ 255) ∧ (0 ≤ c.Delta) ∧ (c.Delta ≤ 4611686018427387903)) ∧ List.map e29 [2] = [.bool x27] ∧ Hp w Non [Res.row g3 [.int .i64 c.N, .int .i64 c.K, .int .i64 c.Delta] 23] w30) ?_ ?_
  · refine WP.region _ rfl (by kernel_rfl) ?_
    refine OPS.batch 4 {} [.int .i64 c.K] [1, 6] [.pointer (some ⟨g3, 0, none⟩), .bool (decide (1 ≤ c.K))] (.cons (Ld.row1 (P := Try.prog) (t := 3) (o := 1) (v := .int .i64 c.K) hp2.get0 (by kernel_rfl)) .nil) (by kernel_rfl) (fun b6 => ?_)
    by_cases h7 : 1 ≤ c.K
    · refine OPS.batch 0 {} [] [1, 6] [.pointer (some ⟨g3, 0, none⟩), .bool (decide (1 ≤ c.K))] .nil (by kernel_rfl) (fun b8 => ?_)
      refine OPS.re [.pointer (some ⟨g3, 0, none⟩), .bool true] (by rw [show (decide (1 ≤ c.K)) = true from Bp.dec.tt h7]) ?_
      refine OPS.batch 7 { wraps := [12] } [.int .i64 c.K, .int .i64 c.N] [1, 13] [.pointer (some ⟨g3, 0, none⟩), .bool (decide (c.K ≤ c.N))] (.cons (Ld.row1 (P := Try.prog) (t := 3) (o := 1) (v := .int .i64 c.K) hp2.get0 (by kernel_rfl)) (.cons (Ld.row1 (P := Try.prog) (t := 3) (o := 0) (v := .int .i64 c.N) hp2.get0 (by kernel_rfl)) .nil)) (by kernel_rfl) (fun b9 => ?_)
      by_cases h10 : c.K ≤ c.N
      · refine OPS.batch 0 {} [] [1, 13] [.pointer (some ⟨g3, 0, none⟩), .bool (decide (c.K ≤ c.N))] .nil (by kernel_rfl) (fun b11 => ?_)
        refine OPS.re [.pointer (some ⟨g3, 0, none⟩), .bool true] (by rw [show (decide (c.K ≤ c.N)) = true from Bp.dec.tt h10]) ?_
        refine OPS.batch 5 { wraps := [17] } [.int .i64 c.N] [1, 18] [.pointer (some ⟨g3, 0, none⟩), .bool (decide (c.N ≤ 255))] (.cons (Ld.row1 (P := Try.prog) (t := 3) (o := 0) (v := .int .i64 c.N) hp2.get0 (by kernel_rfl)) .nil) (by kernel_rfl) (fun b12 => ?_)
        by_cases h13 : c.N ≤ 255
        · refine OPS.batch 0 {} [] [1, 18] [.pointer (some ⟨g3, 0, none⟩), .bool (decide (c.N ≤ 255))] .nil (by kernel_rfl) (fun b14 => ?_)
          refine OPS.re [.pointer (some ⟨g3, 0, none⟩), .bool true] (by rw [show (decide (c.N ≤ 255)) = true from Bp.dec.tt h13]) ?_
          refine OPS.batch 5 { wraps := [22] } [.int .i64 c.Delta] [1, 23] [.pointer (some ⟨g3, 0, none⟩), .bool (decide (0 ≤ c.Delta))] (.cons (Ld.row1 (P := Try.prog) (t := 3) (o := 2) (v := .int .i64 c.Delta) hp2.get0 (by kernel_rfl)) .nil) (by kernel_rfl) (fun b15 => ?_)
          by_cases h16 : 0 ≤ c.Delta
          · refine OPS.batch 0 {} [] [1, 23] [.pointer (some ⟨g3, 0, none⟩), .bool (decide (0 ≤ c.Delta))] .nil (by kernel_rfl) (fun b17 => ?_)
            refine OPS.re [.pointer (some ⟨g3, 0, none⟩), .bool true] (by rw [show (decide (0 ≤ c.Delta)) = true from Bp.dec.tt h16]) ?_
            refine OPS.batch 5 { wraps := [27] } [.int .i64 c.Delta] [2] [.bool (decide (c.Delta ≤ 4611686018427387903))] (.cons (Ld.row1 (P := Try.prog) (t := 3) (o := 2) (v := .int .i64 c.Delta) hp2.get0 (by kernel_rfl)) .nil) (by kernel_rfl) (fun b18 => ?_)
            refine OPS.nil ?_
            refine thn_n ?_
            exact ⟨decide (c.Delta ≤ 4611686018427387903), trivial, Bp.of Bp.dec (by first | (simp only [h7, h10, h13, h16, iff_false, false_iff, iff_true, true_iff, Classical.not_not, and_true, true_and, and_false, false_and, or_true, true_or, or_false, false_or, not_true_eq_false, not_false_eq_true, and_self, or_self, iff_self]; done) | (simp [h7, h10, h13, h16]; done) | simp_all), by kernel_rfl, hp2⟩
          · refine OPS.batch 0 {} [] [1, 23] [.pointer (some ⟨g3, 0, none⟩), .bool (decide (0 ≤ c.Delta))] .nil (by kernel_rfl) (fun b19 => ?_)
            refine OPS.re [.pointer (some ⟨g3, 0, none⟩), .bool false] (by rw [show (decide (0 ≤ c.Delta)) = false from Bp.dec.ff h16]) ?_
            refine OPS.batch 5 { wraps := [27] } [] [2] [.bool false] .nil (by kernel_rfl) (fun b20 => ?_)
            refine OPS.nil ?_
            refine thn_n ?_
            exact ⟨false, trivial, Bp.of Bp.f (by first | (simp only [h7, h10, h13, h16, iff_false, false_iff, iff_true, true_iff, Classical.not_not, and_true, true_and, and_false, false_and, or_true, true_or, or_false, false_or, not_true_eq_false, not_false_eq_true, and_self, or_self, iff_self]; done) | (simp [h7, h10, h13, h16]; done) | simp_all), by kernel_rfl, hp2⟩
        · refine OPS.batch 0 {} [] [1, 18] [.pointer (some ⟨g3, 0, none⟩), .bool (decide (c.N ≤ 255))] .nil (by kernel_rfl) (fun b21 => ?_)
          refine OPS.re [.pointer (some ⟨g3, 0, none⟩), .bool false] (by rw [show (decide (c.N ≤ 255)) = false from Bp.dec.ff h13]) ?_
          refine OPS.batch 10 { wraps := [22, 27] } [] [2] [.bool false] .nil (by kernel_rfl) (fun b22 => ?_)
          refine OPS.nil ?_
          refine thn_n ?_
          exact ⟨false, trivial, Bp.of Bp.f (by first | (simp only [h7, h10, h13, iff_false, false_iff, iff_true, true_iff, Classical.not_not, and_true, true_and, and_false, false_and, or_true, true_or, or_false, false_or, not_true_eq_false, not_false_eq_true, and_self, or_self, iff_self]; done) | (simp [h7, h10, h13]; done) | simp_all), by kernel_rfl, hp2⟩
      · refine OPS.batch 0 {} [] [1, 13] [.pointer (some ⟨g3, 0, none⟩), .bool (decide (c.K ≤ c.N))] .nil (by kernel_rfl) (fun b23 => ?_)
        refine OPS.re [.pointer (some ⟨g3, 0, none⟩), .bool false] (by rw [show (decide (c.K ≤ c.N)) = false from Bp.dec.ff h10]) ?_
        refine OPS.batch 15 { wraps := [17, 22, 27] } [] [2] [.bool false] .nil (by kernel_rfl) (fun b24 => ?_)
        refine OPS.nil ?_
        refine thn_n ?_
        exact ⟨false, trivial, Bp.of Bp.f (by first | (simp only [h7, h10, iff_false, false_iff, iff_true, true_iff, Classical.not_not, and_true, true_and, and_false, false_and, or_true, true_or, or_false, false_or, not_true_eq_false, not_false_eq_true, and_self, or_self, iff_self]; done) | (simp [h7, h10]; done) | simp_all), by kernel_rfl, hp2⟩
    · refine OPS.batch 0 {} [] [1, 6] [.pointer (some ⟨g3, 0, none⟩), .bool (decide (1 ≤ c.K))] .nil (by kernel_rfl) (fun b25 => ?_)
      refine OPS.re [.pointer (some ⟨g3, 0, none⟩), .bool false] (by rw [show (decide (1 ≤ c.K)) = false from Bp.dec.ff h7]) ?_
      refine OPS.batch 22 { wraps := [12, 17, 22, 27] } [] [2] [.bool false] .nil (by kernel_rfl) (fun b26 => ?_)
      refine OPS.nil ?_
      refine thn_n ?_
      exact ⟨false, trivial, Bp.of Bp.f (by first | (simp only [h7, iff_false, false_iff, iff_true, true_iff, Classical.not_not, and_true, true_and, and_false, false_and, or_true, true_or, or_false, false_or, not_true_eq_false, not_false_eq_true, and_self, or_self, iff_self]; done) | (simp [h7]; done) | simp_all), by kernel_rfl, hp2⟩
  rintro e29 w30 ⟨x27, hd32, hb28, hE33, hp31⟩
  obtain ⟨b34, rfl⟩ := toMk hE33
  clear hE33
  clear hd32
  refine WP.ret ?_
  refine bodyQ.of _ rfl [.bool x27] ⟨rfl, trivial⟩ ?_
  exact ⟨_, rfl, Bp.of hb28 (by omega), hp31.fr⟩

theorem t_quorumOf (c : GConfig) (w : World) (hok : okCfg c) :
    Calls Try.prog 14 #[GConfig.val c] w (fun r_ w' => r_ = .returned (.int .i64 (qSize c)) ∧ Fram Non w w') := by
  have hz := qSize_ok hok
  unfold okCfg at hok
  refine calls_of Try.func14 rfl 15 rfl (by simp) ?_
  have hp0 := Hp.init w
  have he0 : List.map (env0 [GConfig.val c]) [0] = [GConfig.val c] := by kernel_rfl
  obtain ⟨b0, he0⟩ := toMk he0
  rw [he0]
  clear he0
  refine WP.seq ?_
  refine WP.region _ rfl (by kernel_rfl) ?_
  refine OPS.cons (opStep.box hp0 [.int .i64 c.N, .int .i64 c.K, .int .i64 c.Delta] (by kernel_rfl) (fun g3 w1 hp2 => ?_))
  refine OPS.batch 1 {} [] [1] [.pointer (some ⟨g3, 0, none⟩)] .nil (by kernel_rfl) (fun b4 => ?_)
  refine OPS.nil ?_
  refine thn_n ?_
  refine WP.seq ?_
  refine WP.pure {} [] [1, 3] [.pointer (some ⟨g3, 0, none⟩), .int .i64 0] .nil (by kernel_rfl) (fun b5 => ?_)
  refine thn_n ?_
  refine WP.seq ?_
  refine WP.block ?_
  refine WP.loop (fun mz_ e6 w7 => ∃ (k : Nat), mz_ = (c.N + c.K + 2).toNat - 2 * k ∧ (2 * (k : Int) < c.N + c.K + 2) ∧ List.map e6 [1, 3] = [.pointer (some ⟨g3, 0, none⟩), .int .i64 (k : Int)] ∧ Hp w Non [Res.row g3 [.int .i64 c.N, .int .i64 c.K, .int .i64 c.Delta] 23] w7) ((c.N + c.K + 2).toNat - 2 * (0)) ⟨0, rfl, (by omega), by kernel_rfl, hp2⟩ ?_
  rintro _ e6 w7 ⟨k, rfl, hI9, hE10, hp8⟩
  obtain ⟨b11, rfl⟩ := toMk hE10
  clear hE10
  refine WP.seq ?_
  refine WP.seq ?_
  refine WP.pure {} [.int .i64 c.N, .int .i64 c.K] [1, 3, 11] [.pointer (some ⟨g3, 0, none⟩), .int .i64 (k : Int), .bool (decide ((2 * (k : Int)) < (c.N + c.K)))] (.cons (show Rng .i64 (2 * (k : Int)) from Rng.i64 (by omega)) (.cons (Ld.row1 (P := Try.prog) (t := 3) (o := 0) (v := .int .i64 c.N) hp8.get0 (by kernel_rfl)) (.cons (Ld.row1 (P := Try.prog) (t := 3) (o := 1) (v := .int .i64 c.K) hp8.get0 (by kernel_rfl)) (.cons (show Rng .i64 (c.N + c.K) from Rng.i64 (by omega)) .nil)))) (by kernel_rfl) (fun b12 => ?_)
  refine thn_n ?_
  refine WP.test (p := (2 * (k : Int)) < (c.N + c.K)) rfl Bp.dec (fun h13 => ?_) (fun h13 => ?_)
  · refine WP.skip ?_
    refine thn_n ?_
    refine WP.block ?_
    refine WP.pure {} [] [1, 3] [.pointer (some ⟨g3, 0, none⟩), .int .i64 ((k : Int) + 1)] (.cons (show Rng .i64 ((k : Int) + 1) from Rng.i64 (by omega)) .nil) (by kernel_rfl) (fun b14 => ?_)
    refine blk_n ?_
    refine thn_n ?_
    exact ⟨(c.N + c.K + 2).toNat - 2 * (k + 1), (by omega), k + 1, rfl, (by omega), by kernel_rfl, hp8⟩
  · refine WP.exit ?_
    refine thn_x ?_
    refine thn_x ?_
    refine blk_hit ?_
    refine thn_n ?_
    refine WP.seq ?_
    refine WP.pure {} [] [2] [.int .i64 (k : Int)] .nil (by kernel_rfl) (fun b15 => ?_)
    refine thn_n ?_
    refine WP.ret ?_
    refine bodyQ.of _ rfl [.int .i64 (k : Int)] ⟨rfl, trivial⟩ ?_
    exact ⟨by simp only [pack]; rw [show ((k : Int) : Int) = qSize c from by omega], hp8.fr⟩

theorem t_has (l : List Int) (a : Option Addr) (n cp : Nat) (x : Int) (w : World) (m1 : l.length = n) (hb : l.length ≤ 17592186043904) (h1 : SlR w a n (List.flatMap (fun (y : Int) => [Go.Value.int .i64 y]) l)) :
    Calls Try.prog 20 #[.slice a n cp, .int .i64 x] w (fun r_ w' => ∃ f_, r_ = .returned (.bool f_) ∧ Bp f_ (x ∈ l) ∧ Fram Non w w') := by
  refine calls_of Try.func20 rfl 17 rfl (by simp) ?_
  have hp0 := Hp.init w
  have he0 : List.map (env0 [.slice a n cp, .int .i64 x]) [0, 1] = [.slice a n cp, .int .i64 x] := by kernel_rfl
  obtain ⟨b0, he0⟩ := toMk he0
  rw [he0]
  clear he0
  refine WP.seq ?_
  refine WP.pure {} [] [0, 1] [.slice a n cp, .int .i64 x] .nil (by kernel_rfl) (fun b1 => ?_)
  refine thn_n ?_
  refine WP.seq ?_
  refine WP.seq ?_
  refine WP.pure {} [] [1, 7, 8, 9] [.int .i64 x, .slice a n cp, .int .i64 ((n : Nat) : Int), .int .i64 0] .nil (by kernel_rfl) (fun b2 => ?_)
  refine thn_n ?_
  refine WP.block ?_
  refine WP.loop (fun mz_ e3 w4 => ∃ (k : Nat), mz_ = l.length - k ∧ (k ≤ l.length ∧ ¬ x ∈ l.take k) ∧ List.map e3 [1, 7, 8, 9] = [.int .i64 x, .slice a n cp, .int .i64 ((n : Nat) : Int), .int .i64 (k : Int)] ∧ Hp w Non [] w4) (l.length - (0)) ⟨0, rfl, ⟨by omega, by simp⟩, by kernel_rfl, hp0⟩ ?_
  rintro _ e3 w4 ⟨k, rfl, hI6, hE7, hp5⟩
  obtain ⟨b8, rfl⟩ := toMk hE7
  clear hE7
  obtain ⟨q1, q2⟩ := hI6
  refine WP.seq ?_
  refine WP.pure {} [] [1, 7, 8, 9, 10] [.int .i64 x, .slice a n cp, .int .i64 ((n : Nat) : Int), .int .i64 (k : Int), .bool (decide ((k : Int) < ((n : Nat) : Int)))] .nil (by kernel_rfl) (fun b9 => ?_)
  refine thn_n ?_
  refine WP.seq ?_
  refine WP.test (p := (k : Int) < ((n : Nat) : Int)) rfl Bp.dec (fun h10 => ?_) (fun h10 => ?_)
  · refine WP.skip ?_
    refine thn_n ?_
    refine WP.seq ?_
    refine WP.block ?_
    refine WP.seq ?_
    have hy12 : (l)[k]? = some l[k]! := get_bang (by first | (omega) | (simp only [List.length_append, List.length_cons, List.length_nil]; omega))
    refine WP.pure {} [.int .i64 (l[k]!)] [1, 6, 7, 8, 9] [.int .i64 x, .int .i64 (l[k]!), .slice a n cp, .int .i64 ((n : Nat) : Int), .int .i64 (k : Int)] (.cons (show InB ((k : Int)) (n) from ⟨by omega, by omega⟩) (.cons ((h1.at hp5).some (by omega)) (.cons (Ld.add0 (Ld.el1 (P := Try.prog) (t := 3) (h1.at hp5).rd 1 (fun _ => rfl) hy12 (o := 0) (v := .int .i64 (l[k]!)) (by kernel_rfl))) .nil))) (by kernel_rfl) (fun b13 => ?_)
    refine thn_n ?_
    refine WP.seq ?_
    refine WP.pure {} [] [1, 7, 8, 9, 15] [.int .i64 x, .slice a n cp, .int .i64 ((n : Nat) : Int), .int .i64 (k : Int), .bool (decide ((l[k]!) = x))] .nil (by kernel_rfl) (fun b14 => ?_)
    refine thn_n ?_
    refine WP.test (p := (l[k]!) = x) rfl Bp.dec (fun h15 => ?_) (fun h15 => ?_)
    · refine WP.seq ?_
      refine WP.pure {} [] [4] [.bool true] .nil (by kernel_rfl) (fun b16 => ?_)
      refine thn_n ?_
      refine WP.ret ?_
      refine blk_r ?_
      refine thn_r ?_
      refine thn_r ?_
      refine blk_r ?_
      refine thn_r ?_
      refine bodyQ.of _ rfl [.bool true] ⟨rfl, trivial⟩ ?_
      exact ⟨_, rfl, Bp.of Bp.t (by exact ⟨fun _ => by rw [← h15]; exact List.mem_of_getElem? (get_bang (by omega)), fun _ => trivial⟩), hp5.fr⟩
    · refine WP.skip ?_
      refine blk_n ?_
      refine thn_n ?_
      refine WP.pure {} [] [1, 7, 8, 9] [.int .i64 x, .slice a n cp, .int .i64 ((n : Nat) : Int), .int .i64 ((k : Int) + 1)] (.cons (show Rng .i64 ((k : Int) + 1) from Rng.i64 (by omega)) .nil) (by kernel_rfl) (fun b17 => ?_)
      refine thn_n ?_
      exact ⟨l.length - (k + 1), (by omega), k + 1, rfl, ⟨by omega, fun h => by rcases (mem_take_succ (by omega)).1 h with h | h; exact q2 h; exact h15 h.symm⟩, by kernel_rfl, hp5⟩
  · refine WP.exit ?_
    refine thn_x ?_
    refine thn_x ?_
    refine blk_hit ?_
    refine thn_n ?_
    refine WP.seq ?_
    refine WP.pure {} [] [4] [.bool false] .nil (by kernel_rfl) (fun b18 => ?_)
    refine thn_n ?_
    refine WP.ret ?_
    refine bodyQ.of _ rfl [.bool false] ⟨rfl, trivial⟩ ?_
    exact ⟨_, rfl, Bp.of Bp.f (by exact ⟨fun h => h.elim, fun h => by rw [List.take_of_length_le (by omega)] at q2; exact q2 h⟩), hp5.fr⟩

theorem t_fill (w0 : World) (L : List Res) (b : Nat) (c : GConfig) (w : World) (hok : okCfg c) (s1 : SlH) (l1 : List Int) (o1 : SlR w0 s1.a s1.n (List.flatMap (fun (y : Int) => [Go.Value.int .i64 y]) l1)) (hn1 : s1.n = l1.length) (hc1 : s1.n ≤ 17592186043904) (hc2 : s1.n ≤ s1.c) (hp0 : Hp w0 Non (Res.row b [.int .i64 c.N, .int .i64 c.K, .int .i64 c.Delta, .int .u64 ((wd 0 0 : Nat) : Int), .int .u64 ((wd 0 1 : Nat) : Int), .int .u64 ((wd 0 2 : Nat) : Int), .int .u64 ((wd 0 3 : Nat) : Int)] 89 :: L) w) :
    Calls Try.prog 15 #[.pointer (some ⟨b, 0, none⟩), GConfig.val c, .slice s1.a s1.n s1.c] w (fun r_ w' => r_ = .returned (.int .i64 ((cntB (addL c l1) 256 : Nat) : Int)) ∧ Hp w0 Non (Res.row b [.int .i64 c.N, .int .i64 c.K, .int .i64 c.Delta, .int .u64 ((wd (addL c l1) 0 : Nat) : Int), .int .u64 ((wd (addL c l1) 1 : Nat) : Int), .int .u64 ((wd (addL c l1) 2 : Nat) : Int), .int .u64 ((wd (addL c l1) 3 : Nat) : Int)] 89 :: L) w') := by
  have hok1 := hok
  unfold okCfg at hok1
  refine calls_of Try.func15 rfl 56 rfl (by simp) ?_
  have he0 : List.map (env0 [.pointer (some ⟨b, 0, none⟩), GConfig.val c, .slice s1.a s1.n s1.c]) [0, 1, 2] = [.pointer (some ⟨b, 0, none⟩), GConfig.val c, .slice s1.a s1.n s1.c] := by kernel_rfl
  obtain ⟨b0, he0⟩ := toMk he0
  rw [he0]
  clear he0
  refine WP.seq ?_
  refine WP.region _ rfl (by kernel_rfl) ?_
  refine OPS.cons (opStep.box hp0 [.int .i64 c.N, .int .i64 c.K, .int .i64 c.Delta] (by kernel_rfl) (fun g3 w1 hp2 => ?_))
  refine OPS.batch 1 {} [] [0, 2, 4] [.pointer (some ⟨b, 0, none⟩), .slice s1.a s1.n s1.c, .pointer (some ⟨g3, 0, none⟩)] .nil (by kernel_rfl) (fun b4 => ?_)
  refine OPS.nil ?_
  refine thn_n ?_
  refine WP.seq ?_
  refine WP.pure {} [] [0, 2, 4, 7] [.pointer (some ⟨b, 0, none⟩), .slice s1.a s1.n s1.c, .pointer (some ⟨g3, 0, none⟩), .int .i64 0] .nil (by kernel_rfl) (fun b5 => ?_)
  refine thn_n ?_
  refine WP.seq ?_
  refine WP.seq ?_
  refine WP.pure {} [] [0, 2, 4, 7, 13, 14, 15] [.pointer (some ⟨b, 0, none⟩), .slice s1.a s1.n s1.c, .pointer (some ⟨g3, 0, none⟩), .int .i64 0, .slice s1.a s1.n s1.c, .int .i64 ((s1.n : Nat) : Int), .int .i64 0] .nil (by kernel_rfl) (fun b6 => ?_)
  refine thn_n ?_
  refine WP.block ?_
  refine WP.loop (fun mz_ e7 w8 => ∃ (k : Nat) (ma : Nat) (z : Int), mz_ = l1.length - k ∧ (k ≤ l1.length ∧ ma = addL c (l1.take k) ∧ z = ((cntB ma 256 : Nat) : Int)) ∧ List.map e7 [0, 2, 4, 7, 13, 14, 15] = [.pointer (some ⟨b, 0, none⟩), .slice s1.a s1.n s1.c, .pointer (some ⟨g3, 0, none⟩), .int .i64 z, .slice s1.a s1.n s1.c, .int .i64 ((s1.n : Nat) : Int), .int .i64 (k : Int)] ∧ Hp w0 Non (Res.row g3 [.int .i64 c.N, .int .i64 c.K, .int .i64 c.Delta] 23 :: Res.row b [.int .i64 c.N, .int .i64 c.K, .int .i64 c.Delta, .int .u64 ((wd ma 0 : Nat) : Int), .int .u64 ((wd ma 1 : Nat) : Int), .int .u64 ((wd ma 2 : Nat) : Int), .int .u64 ((wd ma 3 : Nat) : Int)] 89 :: L) w8) (l1.length - (0)) ⟨0, 0, 0, rfl, ⟨by omega, rfl, by decide⟩, by kernel_rfl, hp2⟩ ?_
  rintro _ e7 w8 ⟨k, ma, z, rfl, hI10, hE11, hp9⟩
  obtain ⟨b12, rfl⟩ := toMk hE11
  clear hE11
  obtain ⟨pa, pb, pc⟩ := hI10
  have pd := cntB_le ma 256
  refine WP.seq ?_
  refine WP.pure {} [] [0, 2, 4, 7, 13, 14, 15, 16] [.pointer (some ⟨b, 0, none⟩), .slice s1.a s1.n s1.c, .pointer (some ⟨g3, 0, none⟩), .int .i64 z, .slice s1.a s1.n s1.c, .int .i64 ((s1.n : Nat) : Int), .int .i64 (k : Int), .bool (decide ((k : Int) < ((s1.n : Nat) : Int)))] .nil (by kernel_rfl) (fun b13 => ?_)
  refine thn_n ?_
  refine WP.seq ?_
  refine WP.test (p := (k : Int) < ((s1.n : Nat) : Int)) rfl Bp.dec (fun h14 => ?_) (fun h14 => ?_)
  · refine WP.skip ?_
    refine thn_n ?_
    refine WP.seq ?_
    refine WP.block ?_
    refine WP.seq ?_
    have hy16 : (l1)[k]? = some l1[k]! := get_bang (by first | (omega) | (simp only [List.length_append, List.length_cons, List.length_nil]; omega))
    refine WP.pure {} [.int .i64 (l1[k]!)] [0, 2, 4, 7, 8, 9, 13, 14, 15] [.pointer (some ⟨b, 0, none⟩), .slice s1.a s1.n s1.c, .pointer (some ⟨g3, 0, none⟩), .int .i64 z, .int .i64 (k : Int), .int .i64 (l1[k]!), .slice s1.a s1.n s1.c, .int .i64 ((s1.n : Nat) : Int), .int .i64 (k : Int)] (.cons (show InB ((k : Int)) (s1.n) from ⟨by omega, by omega⟩) (.cons ((o1.at hp9).some (by omega)) (.cons (Ld.add0 (Ld.el1 (P := Try.prog) (t := 3) (o1.at hp9).rd 1 (fun _ => rfl) hy16 (o := 0) (v := .int .i64 (l1[k]!)) (by kernel_rfl))) .nil))) (by kernel_rfl) (fun b17 => ?_)
    refine thn_n ?_
    refine WP.seq ?_
    refine WP.region _ rfl (by kernel_rfl) ?_
    refine OPS.batch 2 {} [] [0, 2, 4, 7, 8, 9, 13, 14, 15, 21, 22] [.pointer (some ⟨b, 0, none⟩), .slice s1.a s1.n s1.c, .pointer (some ⟨g3, 0, none⟩), .int .i64 z, .int .i64 (k : Int), .int .i64 (l1[k]!), .slice s1.a s1.n s1.c, .int .i64 ((s1.n : Nat) : Int), .int .i64 (k : Int), .pointer (some ⟨b, 0, none⟩), .int .i64 (l1[k]!)] .nil (by kernel_rfl) (fun b18 => ?_)
    have hp21 := hp9.pull1
    refine OPS.cons (opStep.call (some 23) [.pointer (some ⟨b, 0, none⟩), .int .i64 (l1[k]!)] (by kernel_rfl) (q_Add _ _ _ c ma _ hok (l1[k]!) hp21) ?_)
    rintro _ w22 ⟨b25, rfl, hq24, hp23⟩
    refine ⟨_, rfl, ?_⟩
    refine OPS.batch 5 {} [] [0, 2, 4, 7, 8, 9, 10, 11, 13, 14, 15] [.pointer (some ⟨b, 0, none⟩), .slice s1.a s1.n s1.c, .pointer (some ⟨g3, 0, none⟩), .int .i64 z, .int .i64 (k : Int), .int .i64 (l1[k]!), .bool b25, .int .i64 (qErr c (l1[k]!)), .slice s1.a s1.n s1.c, .int .i64 ((s1.n : Nat) : Int), .int .i64 (k : Int)] .nil (by kernel_rfl) (fun b26 => ?_)
    refine OPS.nil ?_
    refine thn_n ?_
    refine WP.cut (fun e36 w37 => ∃ (x34 : Bool), (True) ∧ Bp x34 ((0 ≤ (l1[k]!)) ∧ ((l1[k]!) < c.N)) ∧ List.map e36 [0, 2, 4, 7, 8, 9, 10, 11, 12, 13, 14, 15] = [.pointer (some ⟨b, 0, none⟩), .slice s1.a s1.n s1.c, .pointer (some ⟨g3, 0, none⟩), .int .i64 z, .int .i64 (k : Int), .int .i64 (l1[k]!), .bool b25, .int .i64 (qErr c (l1[k]!)), .bool x34, .slice s1.a s1.n s1.c, .int .i64 ((s1.n : Nat) : Int), .int .i64 (k : Int)] ∧ Hp w0 Non (Res.row b [.int .i64 c.N, .int .i64 c.K, .int .i64 c.Delta, .int .u64 ((wd (qAdd c ma (l1[k]!)) 0 : Nat) : Int), .int .u64 ((wd (qAdd c ma (l1[k]!)) 1 : Nat) : Int), .int .u64 ((wd (qAdd c ma (l1[k]!)) 2 : Nat) : Int), .int .u64 ((wd (qAdd c ma (l1[k]!)) 3 : Nat) : Int)] 89 :: Res.row g3 [.int .i64 c.N, .int .i64 c.K, .int .i64 c.Delta] 23 :: L) w37) ?_ ?_
    · refine WP.region _ rfl (by kernel_rfl) ?_
      refine OPS.batch 3 {} [] [0, 2, 4, 7, 8, 9, 10, 11, 13, 14, 15, 28] [.pointer (some ⟨b, 0, none⟩), .slice s1.a s1.n s1.c, .pointer (some ⟨g3, 0, none⟩), .int .i64 z, .int .i64 (k : Int), .int .i64 (l1[k]!), .bool b25, .int .i64 (qErr c (l1[k]!)), .slice s1.a s1.n s1.c, .int .i64 ((s1.n : Nat) : Int), .int .i64 (k : Int), .bool (decide (0 ≤ (l1[k]!)))] .nil (by kernel_rfl) (fun b28 => ?_)
      by_cases h29 : 0 ≤ (l1[k]!)
      · refine OPS.batch 0 {} [] [0, 2, 4, 7, 8, 9, 10, 11, 13, 14, 15, 28] [.pointer (some ⟨b, 0, none⟩), .slice s1.a s1.n s1.c, .pointer (some ⟨g3, 0, none⟩), .int .i64 z, .int .i64 (k : Int), .int .i64 (l1[k]!), .bool b25, .int .i64 (qErr c (l1[k]!)), .slice s1.a s1.n s1.c, .int .i64 ((s1.n : Nat) : Int), .int .i64 (k : Int), .bool (decide (0 ≤ (l1[k]!)))] .nil (by kernel_rfl) (fun b30 => ?_)
        refine OPS.re [.pointer (some ⟨b, 0, none⟩), .slice s1.a s1.n s1.c, .pointer (some ⟨g3, 0, none⟩), .int .i64 z, .int .i64 (k : Int), .int .i64 (l1[k]!), .bool b25, .int .i64 (qErr c (l1[k]!)), .slice s1.a s1.n s1.c, .int .i64 ((s1.n : Nat) : Int), .int .i64 (k : Int), .bool true] (by rw [show (decide (0 ≤ (l1[k]!))) = true from Bp.dec.tt h29]) ?_
        refine OPS.batch 6 { wraps := [33] } [.int .i64 c.N] [0, 2, 4, 7, 8, 9, 10, 11, 12, 13, 14, 15] [.pointer (some ⟨b, 0, none⟩), .slice s1.a s1.n s1.c, .pointer (some ⟨g3, 0, none⟩), .int .i64 z, .int .i64 (k : Int), .int .i64 (l1[k]!), .bool b25, .int .i64 (qErr c (l1[k]!)), .bool (decide ((l1[k]!) < c.N)), .slice s1.a s1.n s1.c, .int .i64 ((s1.n : Nat) : Int), .int .i64 (k : Int)] (.cons (Ld.row1 (P := Try.prog) (t := 3) (o := 0) (v := .int .i64 c.N) hp23.get1 (by kernel_rfl)) .nil) (by kernel_rfl) (fun b31 => ?_)
        refine OPS.nil ?_
        refine thn_n ?_
        exact ⟨decide ((l1[k]!) < c.N), trivial, Bp.of Bp.dec (by first | (simp only [h29, iff_false, false_iff, iff_true, true_iff, Classical.not_not, and_true, true_and, and_false, false_and, or_true, true_or, or_false, false_or, not_true_eq_false, not_false_eq_true, and_self, or_self, iff_self]; done) | (simp [h29]; done) | simp_all), by kernel_rfl, hp23⟩
      · refine OPS.batch 0 {} [] [0, 2, 4, 7, 8, 9, 10, 11, 13, 14, 15, 28] [.pointer (some ⟨b, 0, none⟩), .slice s1.a s1.n s1.c, .pointer (some ⟨g3, 0, none⟩), .int .i64 z, .int .i64 (k : Int), .int .i64 (l1[k]!), .bool b25, .int .i64 (qErr c (l1[k]!)), .slice s1.a s1.n s1.c, .int .i64 ((s1.n : Nat) : Int), .int .i64 (k : Int), .bool (decide (0 ≤ (l1[k]!)))] .nil (by kernel_rfl) (fun b32 => ?_)
        refine OPS.re [.pointer (some ⟨b, 0, none⟩), .slice s1.a s1.n s1.c, .pointer (some ⟨g3, 0, none⟩), .int .i64 z, .int .i64 (k : Int), .int .i64 (l1[k]!), .bool b25, .int .i64 (qErr c (l1[k]!)), .slice s1.a s1.n s1.c, .int .i64 ((s1.n : Nat) : Int), .int .i64 (k : Int), .bool false] (by rw [show (decide (0 ≤ (l1[k]!))) = false from Bp.dec.ff h29]) ?_
        refine OPS.batch 6 { wraps := [33] } [] [0, 2, 4, 7, 8, 9, 10, 11, 12, 13, 14, 15] [.pointer (some ⟨b, 0, none⟩), .slice s1.a s1.n s1.c, .pointer (some ⟨g3, 0, none⟩), .int .i64 z, .int .i64 (k : Int), .int .i64 (l1[k]!), .bool b25, .int .i64 (qErr c (l1[k]!)), .bool false, .slice s1.a s1.n s1.c, .int .i64 ((s1.n : Nat) : Int), .int .i64 (k : Int)] .nil (by kernel_rfl) (fun b33 => ?_)
        refine OPS.nil ?_
        refine thn_n ?_
        exact ⟨false, trivial, Bp.of Bp.f (by first | (simp only [h29, iff_false, false_iff, iff_true, true_iff, Classical.not_not, and_true, true_and, and_false, false_and, or_true, true_or, or_false, false_or, not_true_eq_false, not_false_eq_true, and_self, or_self, iff_self]; done) | (simp [h29]; done) | simp_all), by kernel_rfl, hp23⟩
    rintro e36 w37 ⟨x34, hd39, hb35, hE40, hp38⟩
    obtain ⟨b41, rfl⟩ := toMk hE40
    clear hE40
    clear hd39
    refine WP.seq ?_
    refine WP.cut (fun e62 w63 => ∃ (x60 : Bool), (True) ∧ Bp x60 (((¬ ((((0 ≤ (l1[k]!)) ∧ ((l1[k]!) < c.N)) ↔ ((qErr c (l1[k]!)) = 0))))) ∨ ((((0 ≤ (l1[k]!)) ∧ ((l1[k]!) < c.N)) ↔ ((qErr c (l1[k]!)) = 0)) ∧ ((0 ≤ (l1[k]!)) ∧ ((l1[k]!) < c.N)) ∧ (¬ (((inN c (l1[k]!) ∧ ma.testBit (l1[k]!).toNat = false) ↔ (¬ ((l1[k]!) ∈ (List.take k l1))))))) ∨ ((((0 ≤ (l1[k]!)) ∧ ((l1[k]!) < c.N)) ↔ ((qErr c (l1[k]!)) = 0)) ∧ (¬ ((0 ≤ (l1[k]!)) ∧ ((l1[k]!) < c.N))) ∧ (¬ (((inN c (l1[k]!) ∧ ma.testBit (l1[k]!).toNat = false) ↔ (False)))))) ∧ List.map e62 [0, 2, 4, 7, 10, 13, 14, 15, 50] = [.pointer (some ⟨b, 0, none⟩), .slice s1.a s1.n s1.c, .pointer (some ⟨g3, 0, none⟩), .int .i64 z, .bool b25, .slice s1.a s1.n s1.c, .int .i64 ((s1.n : Nat) : Int), .int .i64 (k : Int), .bool x60] ∧ Hp w0 Non (Res.row b [.int .i64 c.N, .int .i64 c.K, .int .i64 c.Delta, .int .u64 ((wd (qAdd c ma (l1[k]!)) 0 : Nat) : Int), .int .u64 ((wd (qAdd c ma (l1[k]!)) 1 : Nat) : Int), .int .u64 ((wd (qAdd c ma (l1[k]!)) 2 : Nat) : Int), .int .u64 ((wd (qAdd c ma (l1[k]!)) 3 : Nat) : Int)] 89 :: Res.row g3 [.int .i64 c.N, .int .i64 c.K, .int .i64 c.Delta] 23 :: L) w63) ?_ ?_
    · refine WP.region _ rfl (by kernel_rfl) ?_
      refine OPS.batch 5 {} [] [0, 2, 4, 7, 8, 9, 10, 12, 13, 14, 15, 38] [.pointer (some ⟨b, 0, none⟩), .slice s1.a s1.n s1.c, .pointer (some ⟨g3, 0, none⟩), .int .i64 z, .int .i64 (k : Int), .int .i64 (l1[k]!), .bool b25, .bool x34, .slice s1.a s1.n s1.c, .int .i64 ((s1.n : Nat) : Int), .int .i64 (k : Int), .bool (!(x34 == (decide ((qErr c (l1[k]!)) = 0))))] .nil (by kernel_rfl) (fun b43 => ?_)
      by_cases h44 : (((0 ≤ (l1[k]!)) ∧ ((l1[k]!) < c.N)) ↔ ((qErr c (l1[k]!)) = 0))
      · refine OPS.batch 0 {} [] [0, 2, 4, 7, 8, 9, 10, 12, 13, 14, 15, 38] [.pointer (some ⟨b, 0, none⟩), .slice s1.a s1.n s1.c, .pointer (some ⟨g3, 0, none⟩), .int .i64 z, .int .i64 (k : Int), .int .i64 (l1[k]!), .bool b25, .bool x34, .slice s1.a s1.n s1.c, .int .i64 ((s1.n : Nat) : Int), .int .i64 (k : Int), .bool (!(x34 == (decide ((qErr c (l1[k]!)) = 0))))] .nil (by kernel_rfl) (fun b47 => ?_)
        refine OPS.re [.pointer (some ⟨b, 0, none⟩), .slice s1.a s1.n s1.c, .pointer (some ⟨g3, 0, none⟩), .int .i64 z, .int .i64 (k : Int), .int .i64 (l1[k]!), .bool b25, .bool x34, .slice s1.a s1.n s1.c, .int .i64 ((s1.n : Nat) : Int), .int .i64 (k : Int), .bool false] (by rw [show (!(x34 == (decide ((qErr c (l1[k]!)) = 0)))) = false from (Bp.not (Bp.beq hb35 Bp.dec)).ff (fun k => k h44)]) ?_
        refine OPS.batch 3 {} [] [0, 2, 4, 7, 8, 9, 10, 13, 14, 15, 38, 39, 41] [.pointer (some ⟨b, 0, none⟩), .slice s1.a s1.n s1.c, .pointer (some ⟨g3, 0, none⟩), .int .i64 z, .int .i64 (k : Int), .int .i64 (l1[k]!), .bool b25, .slice s1.a s1.n s1.c, .int .i64 ((s1.n : Nat) : Int), .int .i64 (k : Int), .bool false, .bool b25, .bool x34] .nil (by kernel_rfl) (fun b48 => ?_)
        by_cases h49 : (0 ≤ (l1[k]!)) ∧ ((l1[k]!) < c.N)
        · rw [show x34 = true from hb35.tt h49]
          refine OPS.batch 4 {} [] [0, 2, 4, 7, 10, 13, 14, 15, 38, 39, 41, 44, 45] [.pointer (some ⟨b, 0, none⟩), .slice s1.a s1.n s1.c, .pointer (some ⟨g3, 0, none⟩), .int .i64 z, .bool b25, .slice s1.a s1.n s1.c, .int .i64 ((s1.n : Nat) : Int), .int .i64 (k : Int), .bool false, .bool b25, .bool true, .slice s1.a k s1.c, .int .i64 (l1[k]!)] (.cons (show 0 ≤ (k : Int) ∧ (k : Int) ≤ ((s1.c : Nat) : Int) from ⟨by omega, by omega⟩) .nil) (by kernel_rfl) (fun b50 => ?_)
          refine OPS.want (by kernel_rfl) ?_
          refine OPS.cons (opStep.call (some 46) [.slice s1.a k s1.c, .int .i64 (l1[k]!)] (by kernel_rfl) (t_has (List.take k l1) s1.a k s1.c (l1[k]!) _ (by first | omega | (rw [List.length_take]; omega)) (by first | omega | (rw [List.length_take]; omega)) (slr_take (k := k) (sz := 1) (fun _ => rfl) (o1.at hp38) (by omega))) ?_)
          rintro _ w53 ⟨b56, rfl, hb57, hf54⟩
          refine ⟨_, rfl, ?_⟩
          have hp55 := hp38.step hf54
          refine OPS.batch 4 { wraps := [48, 50] } [] [0, 2, 4, 7, 10, 13, 14, 15, 50] [.pointer (some ⟨b, 0, none⟩), .slice s1.a s1.n s1.c, .pointer (some ⟨g3, 0, none⟩), .int .i64 z, .bool b25, .slice s1.a s1.n s1.c, .int .i64 ((s1.n : Nat) : Int), .int .i64 (k : Int), .bool (!(b25 == (!b56)))] .nil (by kernel_rfl) (fun b58 => ?_)
          refine OPS.nil ?_
          refine thn_n ?_
          exact ⟨!(b25 == (!b56)), trivial, Bp.of (Bp.not (Bp.beq hq24 (Bp.not hb57))) (by first | (simp only [h44, h49, iff_false, false_iff, iff_true, true_iff, Classical.not_not, and_true, true_and, and_false, false_and, or_true, true_or, or_false, false_or, not_true_eq_false, not_false_eq_true, and_self, or_self, iff_self]; done) | (simp [h44, h49]; done) | simp_all), by kernel_rfl, hp55⟩
        · rw [show x34 = false from hb35.ff h49]
          refine OPS.batch 9 { wraps := [48, 50] } [] [0, 2, 4, 7, 10, 13, 14, 15, 50] [.pointer (some ⟨b, 0, none⟩), .slice s1.a s1.n s1.c, .pointer (some ⟨g3, 0, none⟩), .int .i64 z, .bool b25, .slice s1.a s1.n s1.c, .int .i64 ((s1.n : Nat) : Int), .int .i64 (k : Int), .bool (!(b25 == false))] .nil (by kernel_rfl) (fun b59 => ?_)
          refine OPS.nil ?_
          refine thn_n ?_
          exact ⟨!(b25 == false), trivial, Bp.of (Bp.not (Bp.beq hq24 Bp.f)) (by first | (simp only [h44, h49, iff_false, false_iff, iff_true, true_iff, Classical.not_not, and_true, true_and, and_false, false_and, or_true, true_or, or_false, false_or, not_true_eq_false, not_false_eq_true, and_self, or_self, iff_self]; done) | (simp [h44, h49]; done) | simp_all), by kernel_rfl, hp38⟩
      · refine OPS.batch 0 {} [] [0, 2, 4, 7, 8, 9, 10, 12, 13, 14, 15, 38] [.pointer (some ⟨b, 0, none⟩), .slice s1.a s1.n s1.c, .pointer (some ⟨g3, 0, none⟩), .int .i64 z, .int .i64 (k : Int), .int .i64 (l1[k]!), .bool b25, .bool x34, .slice s1.a s1.n s1.c, .int .i64 ((s1.n : Nat) : Int), .int .i64 (k : Int), .bool (!(x34 == (decide ((qErr c (l1[k]!)) = 0))))] .nil (by kernel_rfl) (fun b45 => ?_)
        refine OPS.re [.pointer (some ⟨b, 0, none⟩), .slice s1.a s1.n s1.c, .pointer (some ⟨g3, 0, none⟩), .int .i64 z, .int .i64 (k : Int), .int .i64 (l1[k]!), .bool b25, .bool x34, .slice s1.a s1.n s1.c, .int .i64 ((s1.n : Nat) : Int), .int .i64 (k : Int), .bool true] (by rw [show (!(x34 == (decide ((qErr c (l1[k]!)) = 0)))) = true from (Bp.not (Bp.beq hb35 Bp.dec)).tt h44]) ?_
        refine OPS.batch 12 { wraps := [50] } [] [0, 2, 4, 7, 10, 13, 14, 15, 50] [.pointer (some ⟨b, 0, none⟩), .slice s1.a s1.n s1.c, .pointer (some ⟨g3, 0, none⟩), .int .i64 z, .bool b25, .slice s1.a s1.n s1.c, .int .i64 ((s1.n : Nat) : Int), .int .i64 (k : Int), .bool true] .nil (by kernel_rfl) (fun b46 => ?_)
        refine OPS.nil ?_
        refine thn_n ?_
        exact ⟨true, trivial, Bp.of Bp.t (by first | (simp only [h44, iff_false, false_iff, iff_true, true_iff, Classical.not_not, and_true, true_and, and_false, false_and, or_true, true_or, or_false, false_or, not_true_eq_false, not_false_eq_true, and_self, or_self, iff_self]; done) | (simp [h44]; done) | simp_all), by kernel_rfl, hp38⟩
    rintro e62 w63 ⟨x60, hd65, hb61, hE66, hp64⟩
    obtain ⟨b67, rfl⟩ := toMk hE66
    clear hE66
    clear hd65
    refine WP.test (p := ((¬ ((((0 ≤ (l1[k]!)) ∧ ((l1[k]!) < c.N)) ↔ ((qErr c (l1[k]!)) = 0))))) ∨ ((((0 ≤ (l1[k]!)) ∧ ((l1[k]!) < c.N)) ↔ ((qErr c (l1[k]!)) = 0)) ∧ ((0 ≤ (l1[k]!)) ∧ ((l1[k]!) < c.N)) ∧ (¬ (((inN c (l1[k]!) ∧ ma.testBit (l1[k]!).toNat = false) ↔ (¬ ((l1[k]!) ∈ (List.take k l1))))))) ∨ ((((0 ≤ (l1[k]!)) ∧ ((l1[k]!) < c.N)) ↔ ((qErr c (l1[k]!)) = 0)) ∧ (¬ ((0 ≤ (l1[k]!)) ∧ ((l1[k]!) < c.N))) ∧ (¬ (((inN c (l1[k]!) ∧ ma.testBit (l1[k]!).toNat = false) ↔ (False)))))) rfl hb61 (fun h68 => ?_) (fun h68 => ?_)
    · refine WP.seq ?_
      refine WP.pure {} [] [6] [.int .i64 (-1)] .nil (by kernel_rfl) (fun b69 => ?_)
      refine thn_n ?_
      refine WP.ret ?_
      refine thn_r ?_
      refine blk_r ?_
      refine thn_r ?_
      refine thn_r ?_
      refine blk_r ?_
      refine thn_r ?_
      refine bodyQ.of _ rfl [.int .i64 (-1)] ⟨rfl, trivial⟩ ?_
      exfalso
      exact fill_no pb h68
    · refine WP.skip ?_
      refine thn_n ?_
      refine WP.seq ?_
      refine WP.pure {} [] [0, 2, 4, 7, 13, 14, 15, 51] [.pointer (some ⟨b, 0, none⟩), .slice s1.a s1.n s1.c, .pointer (some ⟨g3, 0, none⟩), .int .i64 z, .slice s1.a s1.n s1.c, .int .i64 ((s1.n : Nat) : Int), .int .i64 (k : Int), .bool b25] .nil (by kernel_rfl) (fun b70 => ?_)
      refine thn_n ?_
      refine WP.test (p := inN c (l1[k]!) ∧ ma.testBit (l1[k]!).toNat = false) rfl hq24 (fun h71 => ?_) (fun h71 => ?_)
      · refine WP.pure {} [] [0, 2, 4, 7, 13, 14, 15] [.pointer (some ⟨b, 0, none⟩), .slice s1.a s1.n s1.c, .pointer (some ⟨g3, 0, none⟩), .int .i64 (z + 1), .slice s1.a s1.n s1.c, .int .i64 ((s1.n : Nat) : Int), .int .i64 (k : Int)] (.cons (show Rng .i64 (z + 1) from Rng.i64 (by omega)) .nil) (by kernel_rfl) (fun b72 => ?_)
        refine blk_n ?_
        refine thn_n ?_
        refine WP.pure {} [] [0, 2, 4, 7, 13, 14, 15] [.pointer (some ⟨b, 0, none⟩), .slice s1.a s1.n s1.c, .pointer (some ⟨g3, 0, none⟩), .int .i64 (z + 1), .slice s1.a s1.n s1.c, .int .i64 ((s1.n : Nat) : Int), .int .i64 ((k : Int) + 1)] (.cons (show Rng .i64 ((k : Int) + 1) from Rng.i64 (by omega)) .nil) (by kernel_rfl) (fun b73 => ?_)
        refine thn_n ?_
        exact ⟨l1.length - (k + 1), (by omega), k + 1, (qAdd c ma (l1[k]!)), z + 1, rfl, ⟨by omega, addL_step pb (get_bang (by omega)), by rw [cnt_qadd hok]; first | (rw [if_pos h71]; omega) | (rw [if_neg h71]; omega)⟩, by kernel_rfl, (((hp64.pull0).pull1).sub (.cons_cons _ (.cons_cons _ (.refl _))))⟩
      · refine WP.skip ?_
        refine blk_n ?_
        refine thn_n ?_
        refine WP.pure {} [] [0, 2, 4, 7, 13, 14, 15] [.pointer (some ⟨b, 0, none⟩), .slice s1.a s1.n s1.c, .pointer (some ⟨g3, 0, none⟩), .int .i64 z, .slice s1.a s1.n s1.c, .int .i64 ((s1.n : Nat) : Int), .int .i64 ((k : Int) + 1)] (.cons (show Rng .i64 ((k : Int) + 1) from Rng.i64 (by omega)) .nil) (by kernel_rfl) (fun b74 => ?_)
        refine thn_n ?_
        exact ⟨l1.length - (k + 1), (by omega), k + 1, (qAdd c ma (l1[k]!)), z, rfl, ⟨by omega, addL_step pb (get_bang (by omega)), by rw [cnt_qadd hok]; first | (rw [if_pos h71]; omega) | (rw [if_neg h71]; omega)⟩, by kernel_rfl, (((hp64.pull0).pull1).sub (.cons_cons _ (.cons_cons _ (.refl _))))⟩
  · refine WP.exit ?_
    refine thn_x ?_
    refine thn_x ?_
    refine blk_hit ?_
    refine thn_n ?_
    refine WP.seq ?_
    refine WP.pure {} [] [6] [.int .i64 z] .nil (by kernel_rfl) (fun b75 => ?_)
    refine thn_n ?_
    refine WP.ret ?_
    refine bodyQ.of _ rfl [.int .i64 z] ⟨rfl, trivial⟩ ?_
    have e : l1.take k = l1 := List.take_of_length_le (by omega)
    rw [e] at pb
    rw [← pb]
    exact ⟨by simp only [pack]; rw [← pc], (hp9.sub (.cons _ (.cons_cons _ (.refl _))))⟩

end Go.Proofs.Ytgpjpcemfaignaa.K
