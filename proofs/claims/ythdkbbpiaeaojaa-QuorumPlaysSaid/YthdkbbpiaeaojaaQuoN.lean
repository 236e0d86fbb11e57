/- The walks of QuoN: what each function computes. -/
import Derived.Test.YthdkbbpiaeaojaaProg
import Derived.Test.YthdkbbpiaeaojaaCoreO
import Derived.Test.YthdkbbpiaeaojaaQuoM
namespace Go.Proofs.Ythdkbbpiaeaojaa.K
open Go Go.Proofs Go.RowKit
set_option linter.unusedVariables false
set_option linter.unusedSimpArgs false
set_option maxRecDepth 20000
set_option maxHeartbeats 4000000

theorem cnt_and (a b : Nat) : ∀ n, cntB a n + cntB b n ≤ cntB (a &&& b) n + n
  | 0 => Nat.le_refl _
  | n + 1 => by
    have := cnt_and a b n
    simp only [cntB, Nat.testBit_and]
    cases a.testBit n <;> cases b.testBit n <;> simp <;> omega
theorem cnt_iv {m lo hi : Nat} (h : ∀ j, m.testBit j = true ↔ lo ≤ j ∧ j < hi) (hl : lo ≤ hi) : ∀ n, cntB m n = min n hi - min n lo
  | 0 => by simp [cntB]
  | n + 1 => by
    have ih := cnt_iv h hl n
    have hn := h n
    simp only [cntB]
    cases hb : m.testBit n with
    | true => rw [hb] at hn; simp at hn ⊢; omega
    | false => rw [hb] at hn; simp at hn ⊢; omega
theorem cnt_all {m N : Nat} (h : ∀ j, j < N → m.testBit j = true) : ∀ n, n ≤ N → cntB m n = n
  | 0, _ => rfl
  | n + 1, hn => by rw [cntB, cnt_all h n (by omega), h n (by omega)]; rfl
theorem small_add {c : GConfig} {m : Nat} (h : small c m) (x : Int) : small c (qAdd c m x) := fun i hi => by
  cases hb : (qAdd c m x).testBit i with
  | false => rfl
  | true =>
    rw [qAdd_bit, h i hi] at hb
    simp at hb
    unfold inN at hb; omega
theorem small_zero (c : GConfig) : small c 0 := fun i _ => by simp
theorem small_and {c : GConfig} {a b : Nat} (h : small c a) : small c (a &&& b) := fun i hi => by rw [Nat.testBit_and, h i hi]; rfl
theorem cnt_sn {c : GConfig} {m : Nat} (hok : okCfg c) (h : small c m) : ((cntB m 256 : Nat) : Int) = cntB m c.N.toNat := by rw [cnt_small hok h]
theorem share_low {c : GConfig} {a b : Nat} (hok : okCfg c) (ha : small c a) (hb : small c b) (h1 : qSize c ≤ ((cntB a 256 : Nat) : Int)) (h2 : qSize c ≤ ((cntB b 256 : Nat) : Int)) : 2 * qSize c - c.N ≤ ((cntB (a &&& b) 256 : Nat) : Int) := by
  have := cnt_and a b c.N.toNat
  rw [cnt_sn hok (small_and ha)]
  rw [cnt_sn hok ha] at h1
  rw [cnt_sn hok hb] at h2
  unfold okCfg at hok
  omega
theorem filled_met {c : GConfig} {m i : Nat} (hok : okCfg c) (h : small c m) (ha : ∀ j, j < i → m.testBit (c.N - 1 - (j : Int)).toNat = true) (hi : c.N ≤ (i : Int)) : qSize c ≤ ((cntB m 256 : Nat) : Int) := by
  have hq := qSize_ok hok
  rw [cnt_sn hok h]
  unfold okCfg at hok
  rw [cnt_all (N := c.N.toNat) (fun j hj => by have := ha (c.N - 1 - (j : Int)).toNat (by omega); rwa [show (c.N - 1 - (((c.N - 1 - (j : Int)).toNat : Nat) : Int)).toNat = j from by omega] at this) _ (Nat.le_refl _)]
  omega
theorem add_top {c : GConfig} {m i : Nat} (hi : (i : Int) < c.N) (ha : ∀ j, j < i → m.testBit (c.N - 1 - (j : Int)).toNat = true) : ∀ j, j < i + 1 → (qAdd c m (c.N - 1 - (i : Int))).testBit (c.N - 1 - (j : Int)).toNat = true := by
  intro j hj
  rw [qAdd_bit]
  rcases Nat.lt_or_ge j i with q | q
  · exact .inl (ha j q)
  · exact .inr ⟨by unfold inN; omega, by omega⟩
theorem low_step {c : GConfig} {m k : Nat} (hk : (k : Int) < c.N) (h : ∀ j, m.testBit j = true ↔ 0 ≤ j ∧ j < k) : ∀ j, (qAdd c m (k : Int)).testBit j = true ↔ 0 ≤ j ∧ j < k + 1 := by
  intro j
  rw [qAdd_bit, h j]
  unfold inN
  omega
theorem high_step {c : GConfig} {m k : Nat} (hk : (k : Int) < c.N) (h : ∀ j, m.testBit j = true ↔ c.N.toNat - k ≤ j ∧ j < c.N.toNat) : ∀ j, (qAdd c m (c.N - 1 - (k : Int))).testBit j = true ↔ c.N.toNat - (k + 1) ≤ j ∧ j < c.N.toNat := by
  intro j
  rw [qAdd_bit, h j]
  unfold inN
  omega
theorem low_high {c : GConfig} {a b k : Nat} (hok : okCfg c) (hk : (k : Int) = qSize c) (h1 : ∀ j, a.testBit j = true ↔ 0 ≤ j ∧ j < k) (h2 : ∀ j, b.testBit j = true ↔ c.N.toNat - k ≤ j ∧ j < c.N.toNat) :
    ((cntB a 256 : Nat) : Int) = qSize c ∧ ((cntB b 256 : Nat) : Int) = qSize c ∧ ((cntB (a &&& b) 256 : Nat) : Int) = 2 * qSize c - c.N := by
  have hq := qSize_ok hok
  unfold okCfg at hok
  have e1 := cnt_iv h1 (by omega) 256
  have e2 := cnt_iv h2 (by omega) 256
  have h3 : ∀ j, (a &&& b).testBit j = true ↔ c.N.toNat - k ≤ j ∧ j < k := by
    intro j
    rw [Nat.testBit_and, Bool.and_eq_true, h1 j, h2 j]
    clear e1 e2
    omega
  have e3 := cnt_iv h3 (by omega) 256
  omega

theorem q_And (w0 : World) (L : List Res) (b bo : Nat) (c : GConfig) (m o : Nat) (w : World) (hok : okCfg c) (hp0 : Hp w0 Non (Res.row b [.int .i64 c.N, .int .i64 c.K, .int .i64 c.Delta, .int .u64 ((wd m 0 : Nat) : Int), .int .u64 ((wd m 1 : Nat) : Int), .int .u64 ((wd m 2 : Nat) : Int), .int .u64 ((wd m 3 : Nat) : Int)] 133 :: Res.row bo [.int .i64 c.N, .int .i64 c.K, .int .i64 c.Delta, .int .u64 ((wd o 0 : Nat) : Int), .int .u64 ((wd o 1 : Nat) : Int), .int .u64 ((wd o 2 : Nat) : Int), .int .u64 ((wd o 3 : Nat) : Int)] 133 :: L) w) :
    Calls Try.prog 57 #[.pointer (some ⟨b, 0, none⟩), .pointer (some ⟨bo, 0, none⟩)] w (fun r_ w' => ∃ b', r_ = .returned (.tuple #[.pointer (some ⟨b', 0, none⟩), .int .i64 0]) ∧ Hp w0 Non (Res.row b' [.int .i64 c.N, .int .i64 c.K, .int .i64 c.Delta, .int .u64 ((wd (m &&& o) 0 : Nat) : Int), .int .u64 ((wd (m &&& o) 1 : Nat) : Int), .int .u64 ((wd (m &&& o) 2 : Nat) : Int), .int .u64 ((wd (m &&& o) 3 : Nat) : Int)] 133 :: Res.row b [.int .i64 c.N, .int .i64 c.K, .int .i64 c.Delta, .int .u64 ((wd m 0 : Nat) : Int), .int .u64 ((wd m 1 : Nat) : Int), .int .u64 ((wd m 2 : Nat) : Int), .int .u64 ((wd m 3 : Nat) : Int)] 133 :: Res.row bo [.int .i64 c.N, .int .i64 c.K, .int .i64 c.Delta, .int .u64 ((wd o 0 : Nat) : Int), .int .u64 ((wd o 1 : Nat) : Int), .int .u64 ((wd o 2 : Nat) : Int), .int .u64 ((wd o 3 : Nat) : Int)] 133 :: L) w') := by
  refine calls_of Try.func57 rfl 54 rfl (by simp) ?_
  have he0 : List.map (env0 [.pointer (some ⟨b, 0, none⟩), .pointer (some ⟨bo, 0, none⟩)]) [0, 1] = [.pointer (some ⟨b, 0, none⟩), .pointer (some ⟨bo, 0, none⟩)] := by kernel_rfl
  obtain ⟨b0, he0⟩ := toMk he0
  rw [he0]
  clear he0
  refine WP.seq ?_
  refine WP.pure {} [] [0, 1] [.pointer (some ⟨b, 0, none⟩), .pointer (some ⟨bo, 0, none⟩)] .nil (by kernel_rfl) (fun b1 => ?_)
  refine thn_n ?_
  refine WP.seq ?_
  refine WP.seq ?_
  refine WP.pure {} [] [0, 1, 9] [.pointer (some ⟨b, 0, none⟩), .pointer (some ⟨bo, 0, none⟩), .bool false] .nil (by kernel_rfl) (fun b2 => ?_)
  refine thn_n ?_
  refine WP.condF rfl ?_
  refine WP.skip ?_
  refine thn_n ?_
  refine WP.seq ?_
  refine WP.seq ?_
  have hp5 := hp0.drew
  refine WP.quiet (fun w3 => Hp w0 Non (Res.row b [.int .i64 c.N, .int .i64 c.K, .int .i64 c.Delta, .int .u64 ((wd m 0 : Nat) : Int), .int .u64 ((wd m 1 : Nat) : Int), .int .u64 ((wd m 2 : Nat) : Int), .int .u64 ((wd m 3 : Nat) : Int)] 133 :: Res.row bo [.int .i64 c.N, .int .i64 c.K, .int .i64 c.Delta, .int .u64 ((wd o 0 : Nat) : Int), .int .u64 ((wd o 1 : Nat) : Int), .int .u64 ((wd o 2 : Nat) : Int), .int .u64 ((wd o 3 : Nat) : Int)] 133 :: L) w3) (by kernel_rfl) hp5 ?_
  have hnehp5 : ∃ wz_, (fun w3 => Hp w0 Non (Res.row b [.int .i64 c.N, .int .i64 c.K, .int .i64 c.Delta, .int .u64 ((wd m 0 : Nat) : Int), .int .u64 ((wd m 1 : Nat) : Int), .int .u64 ((wd m 2 : Nat) : Int), .int .u64 ((wd m 3 : Nat) : Int)] 133 :: Res.row bo [.int .i64 c.N, .int .i64 c.K, .int .i64 c.Delta, .int .u64 ((wd o 0 : Nat) : Int), .int .u64 ((wd o 1 : Nat) : Int), .int .u64 ((wd o 2 : Nat) : Int), .int .u64 ((wd o 3 : Nat) : Int)] 133 :: L) w3) wz_ := ⟨_, hp5⟩
  refine QOPS.batch 13 { wraps := [22] } [.agg #[.int .i64 c.N, .int .i64 c.K, .int .i64 c.Delta], .agg #[.int .i64 c.N, .int .i64 c.K, .int .i64 c.Delta]] [0, 1, 22] [.pointer (some ⟨b, 0, none⟩), .pointer (some ⟨bo, 0, none⟩), .bool (!((decide (c.N = c.N)) && ((decide (c.K = c.K)) && ((decide (c.Delta = c.Delta)) && true))))] hnehp5 (fun w6 hp7 => QB.mk (.cons (show Ld Try.prog w6 60 ⟨bo, 0, none⟩ (.agg #[.int .i64 c.N, .int .i64 c.K, .int .i64 c.Delta]) from Ld.rowN (cs := [.int .i64 c.N, .int .i64 c.K, .int .i64 c.Delta]) hp7.get1 (by kernel_rfl)) (.cons (show Ld Try.prog w6 60 ⟨b, 0, none⟩ (.agg #[.int .i64 c.N, .int .i64 c.K, .int .i64 c.Delta]) from Ld.rowN (cs := [.int .i64 c.N, .int .i64 c.K, .int .i64 c.Delta]) hp7.get0 (by kernel_rfl)) .nil)) (by kernel_rfl)) (fun b8 => ?_)
  refine QOPS.nil (fun w9 hp10 => ?_)
  refine thn_n ?_
  refine WP.test (p := ¬ ((c.N = c.N) ∧ ((c.K = c.K) ∧ (c.Delta = c.Delta)))) rfl (Bp.not (Bp.band Bp.dec (Bp.band Bp.dec (Bp.band1 Bp.dec)))) (fun h11 => ?_) (fun h11 => ?_)
  · refine WP.seq ?_
    refine WP.pure {} [] [4, 5] [.pointer none, .int .i64 1] .nil (by kernel_rfl) (fun b12 => ?_)
    refine thn_n ?_
    refine WP.ret ?_
    refine thn_r ?_
    refine bodyQ.of _ rfl [.pointer none, .int .i64 1] ⟨rfl, rfl, trivial⟩ ?_
    exfalso
    first | exact (h11) ⟨rfl, rfl, rfl⟩ | simp_all
  · replace h11 := Classical.not_not.1 h11
    refine WP.skip ?_
    refine thn_n ?_
    refine WP.seq ?_
    have hp13 := hp10.drew
    refine WP.held (fun w14 => Ld Try.prog w14 60 ⟨b, 0, none⟩ (.agg #[.int .i64 c.N, .int .i64 c.K, .int .i64 c.Delta]) ∧ Ld Try.prog w14 131 ⟨b, 3, none⟩ (.agg #[.int .u64 ((wd m 0 : Nat) : Int), .int .u64 ((wd m 1 : Nat) : Int), .int .u64 ((wd m 2 : Nat) : Int), .int .u64 ((wd m 3 : Nat) : Int)]) ∧ True) [] [(0, true), (1, true), (2, true), (3, true), (4, true), (5, true), (6, true), (7, true), (8, true), (9, false), (10, true)] (np_thn np_body) (by kernel_rfl) ?_
    refine HOPS.take 9 {} [.agg #[.int .i64 c.N, .int .i64 c.K, .int .i64 c.Delta], .agg #[.int .u64 ((wd m 0 : Nat) : Int), .int .u64 ((wd m 1 : Nat) : Int), .int .u64 ((wd m 2 : Nat) : Int), .int .u64 ((wd m 3 : Nat) : Int)]] [1, 31] [.pointer (some ⟨bo, 0, none⟩), .agg #[.int .i64 c.N, .int .i64 c.K, .int .i64 c.Delta, .int .u64 ((wd m 0 : Nat) : Int), .int .u64 ((wd m 1 : Nat) : Int), .int .u64 ((wd m 2 : Nat) : Int), .int .u64 ((wd m 3 : Nat) : Int)]] (by kernel_rfl) ⟨(show Ld Try.prog w9.drew 60 ⟨b, 0, none⟩ (.agg #[.int .i64 c.N, .int .i64 c.K, .int .i64 c.Delta]) from (show Ld Try.prog w9.drew 60 ⟨b, 0, none⟩ (.agg #[.int .i64 c.N, .int .i64 c.K, .int .i64 c.Delta]) from Ld.rowN (cs := [.int .i64 c.N, .int .i64 c.K, .int .i64 c.Delta]) hp13.get0 (by kernel_rfl))), (show Ld Try.prog w9.drew 131 ⟨b, 3, none⟩ (.agg #[.int .u64 ((wd m 0 : Nat) : Int), .int .u64 ((wd m 1 : Nat) : Int), .int .u64 ((wd m 2 : Nat) : Int), .int .u64 ((wd m 3 : Nat) : Int)]) from (show Ld Try.prog w9.drew 131 ⟨b, 3, none⟩ (.agg #[.int .u64 ((wd m 0 : Nat) : Int), .int .u64 ((wd m 1 : Nat) : Int), .int .u64 ((wd m 2 : Nat) : Int), .int .u64 ((wd m 3 : Nat) : Int)]) from Ld.rowN (cs := [.int .u64 ((wd m 0 : Nat) : Int), .int .u64 ((wd m 1 : Nat) : Int), .int .u64 ((wd m 2 : Nat) : Int), .int .u64 ((wd m 3 : Nat) : Int)]) hp13.get0 (by kernel_rfl))), trivial⟩ (fun w15 hS16 => QB.mk (.cons (hS16.1) (.cons (hS16.2.1) .nil)) (by kernel_rfl)) (fun b17 => ?_)
    refine HOPS.eff _ rfl (opStep.box hp13 [.int .i64 c.N, .int .i64 c.K, .int .i64 c.Delta, .int .u64 ((wd m 0 : Nat) : Int), .int .u64 ((wd m 1 : Nat) : Int), .int .u64 ((wd m 2 : Nat) : Int), .int .u64 ((wd m 3 : Nat) : Int)] (by kernel_rfl) (fun g20 w18 hp19 => ?_))
    refine ⟨.inr ⟨(show Ld Try.prog w18 60 ⟨b, 0, none⟩ (.agg #[.int .i64 c.N, .int .i64 c.K, .int .i64 c.Delta]) from (show Ld Try.prog w18 60 ⟨b, 0, none⟩ (.agg #[.int .i64 c.N, .int .i64 c.K, .int .i64 c.Delta]) from Ld.rowN (cs := [.int .i64 c.N, .int .i64 c.K, .int .i64 c.Delta]) hp19.get1 (by kernel_rfl))), (show Ld Try.prog w18 131 ⟨b, 3, none⟩ (.agg #[.int .u64 ((wd m 0 : Nat) : Int), .int .u64 ((wd m 1 : Nat) : Int), .int .u64 ((wd m 2 : Nat) : Int), .int .u64 ((wd m 3 : Nat) : Int)]) from (show Ld Try.prog w18 131 ⟨b, 3, none⟩ (.agg #[.int .u64 ((wd m 0 : Nat) : Int), .int .u64 ((wd m 1 : Nat) : Int), .int .u64 ((wd m 2 : Nat) : Int), .int .u64 ((wd m 3 : Nat) : Int)]) from Ld.rowN (cs := [.int .u64 ((wd m 0 : Nat) : Int), .int .u64 ((wd m 1 : Nat) : Int), .int .u64 ((wd m 2 : Nat) : Int), .int .u64 ((wd m 3 : Nat) : Int)]) hp19.get1 (by kernel_rfl))), trivial⟩, ?_⟩
    refine HOPS.take 1 {} [] [1, 6] [.pointer (some ⟨bo, 0, none⟩), .pointer (some ⟨g20, 0, none⟩)] (by kernel_rfl) ⟨(show Ld Try.prog w18 60 ⟨b, 0, none⟩ (.agg #[.int .i64 c.N, .int .i64 c.K, .int .i64 c.Delta]) from (show Ld Try.prog w18 60 ⟨b, 0, none⟩ (.agg #[.int .i64 c.N, .int .i64 c.K, .int .i64 c.Delta]) from Ld.rowN (cs := [.int .i64 c.N, .int .i64 c.K, .int .i64 c.Delta]) hp19.get1 (by kernel_rfl))), (show Ld Try.prog w18 131 ⟨b, 3, none⟩ (.agg #[.int .u64 ((wd m 0 : Nat) : Int), .int .u64 ((wd m 1 : Nat) : Int), .int .u64 ((wd m 2 : Nat) : Int), .int .u64 ((wd m 3 : Nat) : Int)]) from (show Ld Try.prog w18 131 ⟨b, 3, none⟩ (.agg #[.int .u64 ((wd m 0 : Nat) : Int), .int .u64 ((wd m 1 : Nat) : Int), .int .u64 ((wd m 2 : Nat) : Int), .int .u64 ((wd m 3 : Nat) : Int)]) from Ld.rowN (cs := [.int .u64 ((wd m 0 : Nat) : Int), .int .u64 ((wd m 1 : Nat) : Int), .int .u64 ((wd m 2 : Nat) : Int), .int .u64 ((wd m 3 : Nat) : Int)]) hp19.get1 (by kernel_rfl))), trivial⟩ (fun w21 hS22 => QB.mk .nil (by kernel_rfl)) (fun b23 => ?_)
    refine HOPS.nil ?_
    refine thn_n ?_
    refine WP.seq ?_
    refine WP.seq ?_
    refine WP.pure {} [] [1, 6, 33] [.pointer (some ⟨bo, 0, none⟩), .pointer (some ⟨g20, 0, none⟩), .int .i64 0] .nil (by kernel_rfl) (fun b24 => ?_)
    refine thn_n ?_
    refine WP.block ?_
    refine WP.rounds 5 ?_
    refine RND.step ?_
    refine WP.seq ?_
    refine WP.pure {} [] [1, 6, 33, 34] [.pointer (some ⟨bo, 0, none⟩), .pointer (some ⟨g20, 0, none⟩), .int .i64 0, .bool true] .nil (by kernel_rfl) (fun b25 => ?_)
    refine thn_n ?_
    refine WP.seq ?_
    refine WP.condT rfl ?_
    refine WP.skip ?_
    refine thn_n ?_
    refine WP.seq ?_
    refine WP.block ?_
    refine WP.seq ?_
    refine WP.pure {} [] [1, 6, 7, 33] [.pointer (some ⟨bo, 0, none⟩), .pointer (some ⟨g20, 0, none⟩), .int .i64 0, .int .i64 0] .nil (by kernel_rfl) (fun b26 => ?_)
    refine thn_n ?_
    have hp27 := hp19.drew
    refine WP.held (fun w28 => Ld Try.prog w28 129 ⟨g20, 3, none⟩ (.int .u64 ((wd m 0 : Nat) : Int)) ∧ Ld Try.prog w28 129 ⟨bo, 3, none⟩ (.int .u64 ((wd o 0 : Nat) : Int)) ∧ True) [16] [(0, true), (1, true), (2, true), (3, true), (4, true), (5, true), (6, true), (7, true), (8, true), (9, true), (10, true), (11, true), (12, true), (13, false), (14, false), (15, true), (16, false)] (np_blk (np_thn (np_thn (np_blk (np_thn np_body))))) (by kernel_rfl) ?_
    refine HOPS.take 13 { subs := [48] } [.int .u64 ((wd m 0 : Nat) : Int), .int .u64 ((wd o 0 : Nat) : Int), .int .u64 (((wd m 0) &&& (wd o 0) : Nat) : Int)] [1, 6, 33, 36, 37, 48] [.pointer (some ⟨bo, 0, none⟩), .pointer (some ⟨g20, 0, none⟩), .int .i64 0, .pointer (some ⟨g20, 0, none⟩), .int .i64 0, .int .u64 (((wd m 0) &&& (wd o 0) : Nat) : Int)] (by kernel_rfl) ⟨(show Ld Try.prog w18.drew 129 ⟨g20, 3, none⟩ (.int .u64 ((wd m 0 : Nat) : Int)) from (Ld.row1 (P := Try.prog) (t := 129) (o := 3) (v := .int .u64 ((wd m 0 : Nat) : Int)) hp27.get0 (by kernel_rfl))), (show Ld Try.prog w18.drew 129 ⟨bo, 3, none⟩ (.int .u64 ((wd o 0 : Nat) : Int)) from (Ld.row1 (P := Try.prog) (t := 129) (o := 3) (v := .int .u64 ((wd o 0 : Nat) : Int)) hp27.get2 (by kernel_rfl))), trivial⟩ (fun w29 hS30 => QB.mk (.cons (show InB (0) (4) from ⟨by omega, by omega⟩) (.cons (hS30.1) (.cons (show InB (0) (4) from ⟨by omega, by omega⟩) (.cons (hS30.2.1) (.cons (show (.int .u64 (IntKind.u64.wrap (BitVec.ofInt IntKind.u64.bits ((wd m 0 : Nat) : Int) &&& BitVec.ofInt IntKind.u64.bits ((wd o 0 : Nat) : Int)).toNat) : Go.Value) = .int .u64 (((wd m 0) &&& (wd o 0) : Nat) : Int) from congrArg (Value.int .u64) (u64_and (a := wd m 0) (b := wd o 0) (wd_lt _ _) (wd_lt _ _))) .nil))))) (by kernel_rfl)) (fun b31 => ?_)
    refine HOPS.one _ rfl {} [] [1, 6, 33, 37, 48, 49] [.pointer (some ⟨bo, 0, none⟩), .pointer (some ⟨g20, 0, none⟩), .int .i64 0, .int .i64 0, .int .u64 (((wd m 0) &&& (wd o 0) : Nat) : Int), .pointer (some ⟨g20, 0, none⟩)] .nil (by kernel_rfl) ⟨(show Ld Try.prog w18.drew 129 ⟨g20, 3, none⟩ (.int .u64 ((wd m 0 : Nat) : Int)) from (Ld.row1 (P := Try.prog) (t := 129) (o := 3) (v := .int .u64 ((wd m 0 : Nat) : Int)) hp27.get0 (by kernel_rfl))), (show Ld Try.prog w18.drew 129 ⟨bo, 3, none⟩ (.int .u64 ((wd o 0 : Nat) : Int)) from (Ld.row1 (P := Try.prog) (t := 129) (o := 3) (v := .int .u64 ((wd o 0 : Nat) : Int)) hp27.get2 (by kernel_rfl))), trivial⟩ (fun b34 => ?_)
    refine HOPS.one _ rfl {} [] [1, 6, 33, 37, 48, 50] [.pointer (some ⟨bo, 0, none⟩), .pointer (some ⟨g20, 0, none⟩), .int .i64 0, .int .i64 0, .int .u64 (((wd m 0) &&& (wd o 0) : Nat) : Int), .pointer (some ⟨g20, 3, none⟩)] .nil (by kernel_rfl) ⟨(show Ld Try.prog w18.drew 129 ⟨g20, 3, none⟩ (.int .u64 ((wd m 0 : Nat) : Int)) from (Ld.row1 (P := Try.prog) (t := 129) (o := 3) (v := .int .u64 ((wd m 0 : Nat) : Int)) hp27.get0 (by kernel_rfl))), (show Ld Try.prog w18.drew 129 ⟨bo, 3, none⟩ (.int .u64 ((wd o 0 : Nat) : Int)) from (Ld.row1 (P := Try.prog) (t := 129) (o := 3) (v := .int .u64 ((wd o 0 : Nat) : Int)) hp27.get2 (by kernel_rfl))), trivial⟩ (fun b37 => ?_)
    refine HOPS.take 1 {} [] [1, 6, 33, 48, 51] [.pointer (some ⟨bo, 0, none⟩), .pointer (some ⟨g20, 0, none⟩), .int .i64 0, .int .u64 (((wd m 0) &&& (wd o 0) : Nat) : Int), .pointer (some ⟨g20, 3, none⟩)] (by kernel_rfl) ⟨(show Ld Try.prog w18.drew 129 ⟨g20, 3, none⟩ (.int .u64 ((wd m 0 : Nat) : Int)) from (Ld.row1 (P := Try.prog) (t := 129) (o := 3) (v := .int .u64 ((wd m 0 : Nat) : Int)) hp27.get0 (by kernel_rfl))), (show Ld Try.prog w18.drew 129 ⟨bo, 3, none⟩ (.int .u64 ((wd o 0 : Nat) : Int)) from (Ld.row1 (P := Try.prog) (t := 129) (o := 3) (v := .int .u64 ((wd o 0 : Nat) : Int)) hp27.get2 (by kernel_rfl))), trivial⟩ (fun w38 hS39 => QB.mk (.cons (show InB (0) (4) from ⟨by omega, by omega⟩) .nil) (by kernel_rfl)) (fun b40 => ?_)
    refine HOPS.eff _ rfl (opStep.store0 hp27 rfl [.int .u64 (((wd m 0) &&& (wd o 0) : Nat) : Int)] [.int .i64 c.N, .int .i64 c.K, .int .i64 c.Delta, .int .u64 (((wd m 0) &&& (wd o 0) : Nat) : Int), .int .u64 ((wd m 1 : Nat) : Int), .int .u64 ((wd m 2 : Nat) : Int), .int .u64 ((wd m 3 : Nat) : Int)] (by kernel_rfl) (fun w41 hp42 => ?_))
    refine ⟨.inl rfl, ?_⟩
    refine HOPS.nil ?_
    refine blk_n ?_
    refine thn_n ?_
    refine WP.pure {} [] [1, 6, 33] [.pointer (some ⟨bo, 0, none⟩), .pointer (some ⟨g20, 0, none⟩), .int .i64 1] (.cons (show Rng .i64 (1) from Rng.i64 (by omega)) .nil) (by kernel_rfl) (fun b43 => ?_)
    refine thn_n ?_
    refine RND.step ?_
    refine WP.seq ?_
    refine WP.pure {} [] [1, 6, 33, 34] [.pointer (some ⟨bo, 0, none⟩), .pointer (some ⟨g20, 0, none⟩), .int .i64 1, .bool true] .nil (by kernel_rfl) (fun b44 => ?_)
    refine thn_n ?_
    refine WP.seq ?_
    refine WP.condT rfl ?_
    refine WP.skip ?_
    refine thn_n ?_
    refine WP.seq ?_
    refine WP.block ?_
    refine WP.seq ?_
    refine WP.pure {} [] [1, 6, 7, 33] [.pointer (some ⟨bo, 0, none⟩), .pointer (some ⟨g20, 0, none⟩), .int .i64 1, .int .i64 1] .nil (by kernel_rfl) (fun b45 => ?_)
    refine thn_n ?_
    have hp46 := hp42.drew
    refine WP.held (fun w47 => Ld Try.prog w47 129 ⟨g20, 4, none⟩ (.int .u64 ((wd m 1 : Nat) : Int)) ∧ Ld Try.prog w47 129 ⟨bo, 4, none⟩ (.int .u64 ((wd o 1 : Nat) : Int)) ∧ True) [16] [(0, true), (1, true), (2, true), (3, true), (4, true), (5, true), (6, true), (7, true), (8, true), (9, true), (10, true), (11, true), (12, true), (13, false), (14, false), (15, true), (16, false)] (np_blk (np_thn (np_thn (np_blk (np_thn np_body))))) (by kernel_rfl) ?_
    refine HOPS.take 13 { subs := [48] } [.int .u64 ((wd m 1 : Nat) : Int), .int .u64 ((wd o 1 : Nat) : Int), .int .u64 (((wd m 1) &&& (wd o 1) : Nat) : Int)] [1, 6, 33, 36, 37, 48] [.pointer (some ⟨bo, 0, none⟩), .pointer (some ⟨g20, 0, none⟩), .int .i64 1, .pointer (some ⟨g20, 0, none⟩), .int .i64 1, .int .u64 (((wd m 1) &&& (wd o 1) : Nat) : Int)] (by kernel_rfl) ⟨(show Ld Try.prog w41.drew 129 ⟨g20, 4, none⟩ (.int .u64 ((wd m 1 : Nat) : Int)) from (Ld.row1 (P := Try.prog) (t := 129) (o := 4) (v := .int .u64 ((wd m 1 : Nat) : Int)) hp46.get0 (by kernel_rfl))), (show Ld Try.prog w41.drew 129 ⟨bo, 4, none⟩ (.int .u64 ((wd o 1 : Nat) : Int)) from (Ld.row1 (P := Try.prog) (t := 129) (o := 4) (v := .int .u64 ((wd o 1 : Nat) : Int)) hp46.get2 (by kernel_rfl))), trivial⟩ (fun w48 hS49 => QB.mk (.cons (show InB (1) (4) from ⟨by omega, by omega⟩) (.cons (hS49.1) (.cons (show InB (1) (4) from ⟨by omega, by omega⟩) (.cons (hS49.2.1) (.cons (show (.int .u64 (IntKind.u64.wrap (BitVec.ofInt IntKind.u64.bits ((wd m 1 : Nat) : Int) &&& BitVec.ofInt IntKind.u64.bits ((wd o 1 : Nat) : Int)).toNat) : Go.Value) = .int .u64 (((wd m 1) &&& (wd o 1) : Nat) : Int) from congrArg (Value.int .u64) (u64_and (a := wd m 1) (b := wd o 1) (wd_lt _ _) (wd_lt _ _))) .nil))))) (by kernel_rfl)) (fun b50 => ?_)
    refine HOPS.one _ rfl {} [] [1, 6, 33, 37, 48, 49] [.pointer (some ⟨bo, 0, none⟩), .pointer (some ⟨g20, 0, none⟩), .int .i64 1, .int .i64 1, .int .u64 (((wd m 1) &&& (wd o 1) : Nat) : Int), .pointer (some ⟨g20, 0, none⟩)] .nil (by kernel_rfl) ⟨(show Ld Try.prog w41.drew 129 ⟨g20, 4, none⟩ (.int .u64 ((wd m 1 : Nat) : Int)) from (Ld.row1 (P := Try.prog) (t := 129) (o := 4) (v := .int .u64 ((wd m 1 : Nat) : Int)) hp46.get0 (by kernel_rfl))), (show Ld Try.prog w41.drew 129 ⟨bo, 4, none⟩ (.int .u64 ((wd o 1 : Nat) : Int)) from (Ld.row1 (P := Try.prog) (t := 129) (o := 4) (v := .int .u64 ((wd o 1 : Nat) : Int)) hp46.get2 (by kernel_rfl))), trivial⟩ (fun b53 => ?_)
    refine HOPS.one _ rfl {} [] [1, 6, 33, 37, 48, 50] [.pointer (some ⟨bo, 0, none⟩), .pointer (some ⟨g20, 0, none⟩), .int .i64 1, .int .i64 1, .int .u64 (((wd m 1) &&& (wd o 1) : Nat) : Int), .pointer (some ⟨g20, 3, none⟩)] .nil (by kernel_rfl) ⟨(show Ld Try.prog w41.drew 129 ⟨g20, 4, none⟩ (.int .u64 ((wd m 1 : Nat) : Int)) from (Ld.row1 (P := Try.prog) (t := 129) (o := 4) (v := .int .u64 ((wd m 1 : Nat) : Int)) hp46.get0 (by kernel_rfl))), (show Ld Try.prog w41.drew 129 ⟨bo, 4, none⟩ (.int .u64 ((wd o 1 : Nat) : Int)) from (Ld.row1 (P := Try.prog) (t := 129) (o := 4) (v := .int .u64 ((wd o 1 : Nat) : Int)) hp46.get2 (by kernel_rfl))), trivial⟩ (fun b56 => ?_)
    refine HOPS.take 1 {} [] [1, 6, 33, 48, 51] [.pointer (some ⟨bo, 0, none⟩), .pointer (some ⟨g20, 0, none⟩), .int .i64 1, .int .u64 (((wd m 1) &&& (wd o 1) : Nat) : Int), .pointer (some ⟨g20, 4, none⟩)] (by kernel_rfl) ⟨(show Ld Try.prog w41.drew 129 ⟨g20, 4, none⟩ (.int .u64 ((wd m 1 : Nat) : Int)) from (Ld.row1 (P := Try.prog) (t := 129) (o := 4) (v := .int .u64 ((wd m 1 : Nat) : Int)) hp46.get0 (by kernel_rfl))), (show Ld Try.prog w41.drew 129 ⟨bo, 4, none⟩ (.int .u64 ((wd o 1 : Nat) : Int)) from (Ld.row1 (P := Try.prog) (t := 129) (o := 4) (v := .int .u64 ((wd o 1 : Nat) : Int)) hp46.get2 (by kernel_rfl))), trivial⟩ (fun w57 hS58 => QB.mk (.cons (show InB (1) (4) from ⟨by omega, by omega⟩) .nil) (by kernel_rfl)) (fun b59 => ?_)
    refine HOPS.eff _ rfl (opStep.store0 hp46 rfl [.int .u64 (((wd m 1) &&& (wd o 1) : Nat) : Int)] [.int .i64 c.N, .int .i64 c.K, .int .i64 c.Delta, .int .u64 (((wd m 0) &&& (wd o 0) : Nat) : Int), .int .u64 (((wd m 1) &&& (wd o 1) : Nat) : Int), .int .u64 ((wd m 2 : Nat) : Int), .int .u64 ((wd m 3 : Nat) : Int)] (by kernel_rfl) (fun w60 hp61 => ?_))
    refine ⟨.inl rfl, ?_⟩
    refine HOPS.nil ?_
    refine blk_n ?_
    refine thn_n ?_
    refine WP.pure {} [] [1, 6, 33] [.pointer (some ⟨bo, 0, none⟩), .pointer (some ⟨g20, 0, none⟩), .int .i64 2] (.cons (show Rng .i64 (2) from Rng.i64 (by omega)) .nil) (by kernel_rfl) (fun b62 => ?_)
    refine thn_n ?_
    refine RND.step ?_
    refine WP.seq ?_
    refine WP.pure {} [] [1, 6, 33, 34] [.pointer (some ⟨bo, 0, none⟩), .pointer (some ⟨g20, 0, none⟩), .int .i64 2, .bool true] .nil (by kernel_rfl) (fun b63 => ?_)
    refine thn_n ?_
    refine WP.seq ?_
    refine WP.condT rfl ?_
    refine WP.skip ?_
    refine thn_n ?_
    refine WP.seq ?_
    refine WP.block ?_
    refine WP.seq ?_
    refine WP.pure {} [] [1, 6, 7, 33] [.pointer (some ⟨bo, 0, none⟩), .pointer (some ⟨g20, 0, none⟩), .int .i64 2, .int .i64 2] .nil (by kernel_rfl) (fun b64 => ?_)
    refine thn_n ?_
    have hp65 := hp61.drew
    refine WP.held (fun w66 => Ld Try.prog w66 129 ⟨g20, 5, none⟩ (.int .u64 ((wd m 2 : Nat) : Int)) ∧ Ld Try.prog w66 129 ⟨bo, 5, none⟩ (.int .u64 ((wd o 2 : Nat) : Int)) ∧ True) [16] [(0, true), (1, true), (2, true), (3, true), (4, true), (5, true), (6, true), (7, true), (8, true), (9, true), (10, true), (11, true), (12, true), (13, false), (14, false), (15, true), (16, false)] (np_blk (np_thn (np_thn (np_blk (np_thn np_body))))) (by kernel_rfl) ?_
    refine HOPS.take 13 { subs := [48] } [.int .u64 ((wd m 2 : Nat) : Int), .int .u64 ((wd o 2 : Nat) : Int), .int .u64 (((wd m 2) &&& (wd o 2) : Nat) : Int)] [1, 6, 33, 36, 37, 48] [.pointer (some ⟨bo, 0, none⟩), .pointer (some ⟨g20, 0, none⟩), .int .i64 2, .pointer (some ⟨g20, 0, none⟩), .int .i64 2, .int .u64 (((wd m 2) &&& (wd o 2) : Nat) : Int)] (by kernel_rfl) ⟨(show Ld Try.prog w60.drew 129 ⟨g20, 5, none⟩ (.int .u64 ((wd m 2 : Nat) : Int)) from (Ld.row1 (P := Try.prog) (t := 129) (o := 5) (v := .int .u64 ((wd m 2 : Nat) : Int)) hp65.get0 (by kernel_rfl))), (show Ld Try.prog w60.drew 129 ⟨bo, 5, none⟩ (.int .u64 ((wd o 2 : Nat) : Int)) from (Ld.row1 (P := Try.prog) (t := 129) (o := 5) (v := .int .u64 ((wd o 2 : Nat) : Int)) hp65.get2 (by kernel_rfl))), trivial⟩ (fun w67 hS68 => QB.mk (.cons (show InB (2) (4) from ⟨by omega, by omega⟩) (.cons (hS68.1) (.cons (show InB (2) (4) from ⟨by omega, by omega⟩) (.cons (hS68.2.1) (.cons (show (.int .u64 (IntKind.u64.wrap (BitVec.ofInt IntKind.u64.bits ((wd m 2 : Nat) : Int) &&& BitVec.ofInt IntKind.u64.bits ((wd o 2 : Nat) : Int)).toNat) : Go.Value) = .int .u64 (((wd m 2) &&& (wd o 2) : Nat) : Int) from congrArg (Value.int .u64) (u64_and (a := wd m 2) (b := wd o 2) (wd_lt _ _) (wd_lt _ _))) .nil))))) (by kernel_rfl)) (fun b69 => ?_)
    refine HOPS.one _ rfl {} [] [1, 6, 33, 37, 48, 49] [.pointer (some ⟨bo, 0, none⟩), .pointer (some ⟨g20, 0, none⟩), .int .i64 2, .int .i64 2, .int .u64 (((wd m 2) &&& (wd o 2) : Nat) : Int), .pointer (some ⟨g20, 0, none⟩)] .nil (by kernel_rfl) ⟨(show Ld Try.prog w60.drew 129 ⟨g20, 5, none⟩ (.int .u64 ((wd m 2 : Nat) : Int)) from (Ld.row1 (P := Try.prog) (t := 129) (o := 5) (v := .int .u64 ((wd m 2 : Nat) : Int)) hp65.get0 (by kernel_rfl))), (show Ld Try.prog w60.drew 129 ⟨bo, 5, none⟩ (.int .u64 ((wd o 2 : Nat) : Int)) from (Ld.row1 (P := Try.prog) (t := 129) (o := 5) (v := .int .u64 ((wd o 2 : Nat) : Int)) hp65.get2 (by kernel_rfl))), trivial⟩ (fun b72 => ?_)
    refine HOPS.one _ rfl {} [] [1, 6, 33, 37, 48, 50] [.pointer (some ⟨bo, 0, none⟩), .pointer (some ⟨g20, 0, none⟩), .int .i64 2, .int .i64 2, .int .u64 (((wd m 2) &&& (wd o 2) : Nat) : Int), .pointer (some ⟨g20, 3, none⟩)] .nil (by kernel_rfl) ⟨(show Ld Try.prog w60.drew 129 ⟨g20, 5, none⟩ (.int .u64 ((wd m 2 : Nat) : Int)) from (Ld.row1 (P := Try.prog) (t := 129) (o := 5) (v := .int .u64 ((wd m 2 : Nat) : Int)) hp65.get0 (by kernel_rfl))), (show Ld Try.prog w60.drew 129 ⟨bo, 5, none⟩ (.int .u64 ((wd o 2 : Nat) : Int)) from (Ld.row1 (P := Try.prog) (t := 129) (o := 5) (v := .int .u64 ((wd o 2 : Nat) : Int)) hp65.get2 (by kernel_rfl))), trivial⟩ (fun b75 => ?_)
    refine HOPS.take 1 {} [] [1, 6, 33, 48, 51] [.pointer (some ⟨bo, 0, none⟩), .pointer (some ⟨g20, 0, none⟩), .int .i64 2, .int .u64 (((wd m 2) &&& (wd o 2) : Nat) : Int), .pointer (some ⟨g20, 5, none⟩)] (by kernel_rfl) ⟨(show Ld Try.prog w60.drew 129 ⟨g20, 5, none⟩ (.int .u64 ((wd m 2 : Nat) : Int)) from (Ld.row1 (P := Try.prog) (t := 129) (o := 5) (v := .int .u64 ((wd m 2 : Nat) : Int)) hp65.get0 (by kernel_rfl))), (show Ld Try.prog w60.drew 129 ⟨bo, 5, none⟩ (.int .u64 ((wd o 2 : Nat) : Int)) from (Ld.row1 (P := Try.prog) (t := 129) (o := 5) (v := .int .u64 ((wd o 2 : Nat) : Int)) hp65.get2 (by kernel_rfl))), trivial⟩ (fun w76 hS77 => QB.mk (.cons (show InB (2) (4) from ⟨by omega, by omega⟩) .nil) (by kernel_rfl)) (fun b78 => ?_)
    refine HOPS.eff _ rfl (opStep.store0 hp65 rfl [.int .u64 (((wd m 2) &&& (wd o 2) : Nat) : Int)] [.int .i64 c.N, .int .i64 c.K, .int .i64 c.Delta, .int .u64 (((wd m 0) &&& (wd o 0) : Nat) : Int), .int .u64 (((wd m 1) &&& (wd o 1) : Nat) : Int), .int .u64 (((wd m 2) &&& (wd o 2) : Nat) : Int), .int .u64 ((wd m 3 : Nat) : Int)] (by kernel_rfl) (fun w79 hp80 => ?_))
    refine ⟨.inl rfl, ?_⟩
    refine HOPS.nil ?_
    refine blk_n ?_
    refine thn_n ?_
    refine WP.pure {} [] [1, 6, 33] [.pointer (some ⟨bo, 0, none⟩), .pointer (some ⟨g20, 0, none⟩), .int .i64 3] (.cons (show Rng .i64 (3) from Rng.i64 (by omega)) .nil) (by kernel_rfl) (fun b81 => ?_)
    refine thn_n ?_
    refine RND.step ?_
    refine WP.seq ?_
    refine WP.pure {} [] [1, 6, 33, 34] [.pointer (some ⟨bo, 0, none⟩), .pointer (some ⟨g20, 0, none⟩), .int .i64 3, .bool true] .nil (by kernel_rfl) (fun b82 => ?_)
    refine thn_n ?_
    refine WP.seq ?_
    refine WP.condT rfl ?_
    refine WP.skip ?_
    refine thn_n ?_
    refine WP.seq ?_
    refine WP.block ?_
    refine WP.seq ?_
    refine WP.pure {} [] [1, 6, 7, 33] [.pointer (some ⟨bo, 0, none⟩), .pointer (some ⟨g20, 0, none⟩), .int .i64 3, .int .i64 3] .nil (by kernel_rfl) (fun b83 => ?_)
    refine thn_n ?_
    have hp84 := hp80.drew
    refine WP.held (fun w85 => Ld Try.prog w85 129 ⟨g20, 6, none⟩ (.int .u64 ((wd m 3 : Nat) : Int)) ∧ Ld Try.prog w85 129 ⟨bo, 6, none⟩ (.int .u64 ((wd o 3 : Nat) : Int)) ∧ True) [16] [(0, true), (1, true), (2, true), (3, true), (4, true), (5, true), (6, true), (7, true), (8, true), (9, true), (10, true), (11, true), (12, true), (13, false), (14, false), (15, true), (16, false)] (np_blk (np_thn (np_thn (np_blk (np_thn np_body))))) (by kernel_rfl) ?_
    refine HOPS.take 13 { subs := [48] } [.int .u64 ((wd m 3 : Nat) : Int), .int .u64 ((wd o 3 : Nat) : Int), .int .u64 (((wd m 3) &&& (wd o 3) : Nat) : Int)] [1, 6, 33, 36, 37, 48] [.pointer (some ⟨bo, 0, none⟩), .pointer (some ⟨g20, 0, none⟩), .int .i64 3, .pointer (some ⟨g20, 0, none⟩), .int .i64 3, .int .u64 (((wd m 3) &&& (wd o 3) : Nat) : Int)] (by kernel_rfl) ⟨(show Ld Try.prog w79.drew 129 ⟨g20, 6, none⟩ (.int .u64 ((wd m 3 : Nat) : Int)) from (Ld.row1 (P := Try.prog) (t := 129) (o := 6) (v := .int .u64 ((wd m 3 : Nat) : Int)) hp84.get0 (by kernel_rfl))), (show Ld Try.prog w79.drew 129 ⟨bo, 6, none⟩ (.int .u64 ((wd o 3 : Nat) : Int)) from (Ld.row1 (P := Try.prog) (t := 129) (o := 6) (v := .int .u64 ((wd o 3 : Nat) : Int)) hp84.get2 (by kernel_rfl))), trivial⟩ (fun w86 hS87 => QB.mk (.cons (show InB (3) (4) from ⟨by omega, by omega⟩) (.cons (hS87.1) (.cons (show InB (3) (4) from ⟨by omega, by omega⟩) (.cons (hS87.2.1) (.cons (show (.int .u64 (IntKind.u64.wrap (BitVec.ofInt IntKind.u64.bits ((wd m 3 : Nat) : Int) &&& BitVec.ofInt IntKind.u64.bits ((wd o 3 : Nat) : Int)).toNat) : Go.Value) = .int .u64 (((wd m 3) &&& (wd o 3) : Nat) : Int) from congrArg (Value.int .u64) (u64_and (a := wd m 3) (b := wd o 3) (wd_lt _ _) (wd_lt _ _))) .nil))))) (by kernel_rfl)) (fun b88 => ?_)
    refine HOPS.one _ rfl {} [] [1, 6, 33, 37, 48, 49] [.pointer (some ⟨bo, 0, none⟩), .pointer (some ⟨g20, 0, none⟩), .int .i64 3, .int .i64 3, .int .u64 (((wd m 3) &&& (wd o 3) : Nat) : Int), .pointer (some ⟨g20, 0, none⟩)] .nil (by kernel_rfl) ⟨(show Ld Try.prog w79.drew 129 ⟨g20, 6, none⟩ (.int .u64 ((wd m 3 : Nat) : Int)) from (Ld.row1 (P := Try.prog) (t := 129) (o := 6) (v := .int .u64 ((wd m 3 : Nat) : Int)) hp84.get0 (by kernel_rfl))), (show Ld Try.prog w79.drew 129 ⟨bo, 6, none⟩ (.int .u64 ((wd o 3 : Nat) : Int)) from (Ld.row1 (P := Try.prog) (t := 129) (o := 6) (v := .int .u64 ((wd o 3 : Nat) : Int)) hp84.get2 (by kernel_rfl))), trivial⟩ (fun b91 => ?_)
    refine HOPS.one _ rfl {} [] [1, 6, 33, 37, 48, 50] [.pointer (some ⟨bo, 0, none⟩), .pointer (some ⟨g20, 0, none⟩), .int .i64 3, .int .i64 3, .int .u64 (((wd m 3) &&& (wd o 3) : Nat) : Int), .pointer (some ⟨g20, 3, none⟩)] .nil (by kernel_rfl) ⟨(show Ld Try.prog w79.drew 129 ⟨g20, 6, none⟩ (.int .u64 ((wd m 3 : Nat) : Int)) from (Ld.row1 (P := Try.prog) (t := 129) (o := 6) (v := .int .u64 ((wd m 3 : Nat) : Int)) hp84.get0 (by kernel_rfl))), (show Ld Try.prog w79.drew 129 ⟨bo, 6, none⟩ (.int .u64 ((wd o 3 : Nat) : Int)) from (Ld.row1 (P := Try.prog) (t := 129) (o := 6) (v := .int .u64 ((wd o 3 : Nat) : Int)) hp84.get2 (by kernel_rfl))), trivial⟩ (fun b94 => ?_)
    refine HOPS.take 1 {} [] [1, 6, 33, 48, 51] [.pointer (some ⟨bo, 0, none⟩), .pointer (some ⟨g20, 0, none⟩), .int .i64 3, .int .u64 (((wd m 3) &&& (wd o 3) : Nat) : Int), .pointer (some ⟨g20, 6, none⟩)] (by kernel_rfl) ⟨(show Ld Try.prog w79.drew 129 ⟨g20, 6, none⟩ (.int .u64 ((wd m 3 : Nat) : Int)) from (Ld.row1 (P := Try.prog) (t := 129) (o := 6) (v := .int .u64 ((wd m 3 : Nat) : Int)) hp84.get0 (by kernel_rfl))), (show Ld Try.prog w79.drew 129 ⟨bo, 6, none⟩ (.int .u64 ((wd o 3 : Nat) : Int)) from (Ld.row1 (P := Try.prog) (t := 129) (o := 6) (v := .int .u64 ((wd o 3 : Nat) : Int)) hp84.get2 (by kernel_rfl))), trivial⟩ (fun w95 hS96 => QB.mk (.cons (show InB (3) (4) from ⟨by omega, by omega⟩) .nil) (by kernel_rfl)) (fun b97 => ?_)
    refine HOPS.eff _ rfl (opStep.store0 hp84 rfl [.int .u64 (((wd m 3) &&& (wd o 3) : Nat) : Int)] [.int .i64 c.N, .int .i64 c.K, .int .i64 c.Delta, .int .u64 (((wd m 0) &&& (wd o 0) : Nat) : Int), .int .u64 (((wd m 1) &&& (wd o 1) : Nat) : Int), .int .u64 (((wd m 2) &&& (wd o 2) : Nat) : Int), .int .u64 (((wd m 3) &&& (wd o 3) : Nat) : Int)] (by kernel_rfl) (fun w98 hp99 => ?_))
    refine ⟨.inl rfl, ?_⟩
    refine HOPS.nil ?_
    refine blk_n ?_
    refine thn_n ?_
    refine WP.pure {} [] [1, 6, 33] [.pointer (some ⟨bo, 0, none⟩), .pointer (some ⟨g20, 0, none⟩), .int .i64 4] (.cons (show Rng .i64 (4) from Rng.i64 (by omega)) .nil) (by kernel_rfl) (fun b100 => ?_)
    refine thn_n ?_
    refine RND.step ?_
    refine WP.seq ?_
    refine WP.pure {} [] [1, 6, 33, 34] [.pointer (some ⟨bo, 0, none⟩), .pointer (some ⟨g20, 0, none⟩), .int .i64 4, .bool false] .nil (by kernel_rfl) (fun b101 => ?_)
    refine thn_n ?_
    refine WP.seq ?_
    refine WP.condF rfl ?_
    refine WP.exit ?_
    refine thn_x ?_
    refine thn_x ?_
    refine blk_hit ?_
    refine thn_n ?_
    refine WP.seq ?_
    refine WP.pure {} [] [4, 5] [.pointer (some ⟨g20, 0, none⟩), .int .i64 0] .nil (by kernel_rfl) (fun b102 => ?_)
    refine thn_n ?_
    refine WP.ret ?_
    refine bodyQ.of _ rfl [.pointer (some ⟨g20, 0, none⟩), .int .i64 0] ⟨rfl, rfl, trivial⟩ ?_
    refine ⟨g20, rfl, ?_⟩
    simp only [wd_and]
    exact hp99

theorem q_filled (c : GConfig) (w : World) (hok : okCfg c) (s1 : SlH) (l1 : List Int) (o1 : SlR w s1.a s1.n (List.flatMap (fun (y : Int) => [Go.Value.int .i64 y]) l1)) (hn1 : s1.n = l1.length) (hc1 : s1.n ≤ 17592186043904) :
    Calls Try.prog 56 #[GConfig.val c, .slice s1.a s1.n s1.c] w (fun r_ w' => ∃ b m, r_ = .returned (.pointer (some ⟨b, 0, none⟩)) ∧ small c m ∧ qSize c ≤ ((cntB m 256 : Nat) : Int) ∧ Hp w Non [Res.row b [.int .i64 c.N, .int .i64 c.K, .int .i64 c.Delta, .int .u64 ((wd m 0 : Nat) : Int), .int .u64 ((wd m 1 : Nat) : Int), .int .u64 ((wd m 2 : Nat) : Int), .int .u64 ((wd m 3 : Nat) : Int)] 133] w') := by
  have okX := hok
  unfold okCfg at okX
  refine calls_of Try.func56 rfl 53 rfl (by simp) ?_
  have hp0 := Hp.init w
  have he0 : List.map (env0 [GConfig.val c, .slice s1.a s1.n s1.c]) [0, 1] = [GConfig.val c, .slice s1.a s1.n s1.c] := by kernel_rfl
  obtain ⟨b0, he0⟩ := toMk he0
  rw [he0]
  clear he0
  refine WP.seq ?_
  refine WP.region _ rfl (by kernel_rfl) ?_
  refine OPS.cons (opStep.box hp0 [.int .i64 c.N, .int .i64 c.K, .int .i64 c.Delta] (by kernel_rfl) (fun g3 w1 hp2 => ?_))
  refine OPS.batch 1 {} [] [1, 2] [.slice s1.a s1.n s1.c, .pointer (some ⟨g3, 0, none⟩)] .nil (by kernel_rfl) (fun b4 => ?_)
  refine OPS.nil ?_
  refine thn_n ?_
  refine WP.seq ?_
  refine WP.region _ rfl (by kernel_rfl) ?_
  refine OPS.batch 1 {} [GConfig.val c] [1, 2, 11] [.slice s1.a s1.n s1.c, .pointer (some ⟨g3, 0, none⟩), GConfig.val c] (.cons (show Ld Try.prog w1 60 ⟨g3, 0, none⟩ (GConfig.val c) from Ld.rowN (cs := [.int .i64 c.N, .int .i64 c.K, .int .i64 c.Delta]) hp2.get0 (by kernel_rfl)) .nil) (by kernel_rfl) (fun b5 => ?_)
  refine OPS.cons (opStep.call (some 12) [GConfig.val c] (by kernel_rfl) (q_New c _ hok) ?_)
  rintro _ w8 ⟨g11, rfl, hp10⟩
  refine ⟨_, rfl, ?_⟩
  have hp9 := hp2.made hp10
  refine OPS.batch 5 {} [] [1, 2, 5] [.slice s1.a s1.n s1.c, .pointer (some ⟨g3, 0, none⟩), .pointer (some ⟨g11, 0, none⟩)] .nil (by kernel_rfl) (fun b12 => ?_)
  refine OPS.nil ?_
  refine thn_n ?_
  refine WP.seq ?_
  refine WP.seq ?_
  refine WP.pure {} [] [2, 5, 15, 16, 17] [.pointer (some ⟨g3, 0, none⟩), .pointer (some ⟨g11, 0, none⟩), .slice s1.a s1.n s1.c, .int .i64 ((s1.n : Nat) : Int), .int .i64 0] .nil (by kernel_rfl) (fun b13 => ?_)
  refine thn_n ?_
  refine WP.block ?_
  refine WP.loop (fun mz_ e14 w15 => ∃ (k : Nat) (ma : Nat), mz_ = l1.length - k ∧ (k ≤ l1.length ∧ small c ma) ∧ List.map e14 [2, 5, 15, 16, 17] = [.pointer (some ⟨g3, 0, none⟩), .pointer (some ⟨g11, 0, none⟩), .slice s1.a s1.n s1.c, .int .i64 ((s1.n : Nat) : Int), .int .i64 (k : Int)] ∧ Hp w Non [Res.row g11 [.int .i64 c.N, .int .i64 c.K, .int .i64 c.Delta, .int .u64 ((wd ma 0 : Nat) : Int), .int .u64 ((wd ma 1 : Nat) : Int), .int .u64 ((wd ma 2 : Nat) : Int), .int .u64 ((wd ma 3 : Nat) : Int)] 133, Res.row g3 [.int .i64 c.N, .int .i64 c.K, .int .i64 c.Delta] 60] w15) (l1.length - (0)) ⟨0, 0, rfl, ⟨by omega, small_zero c⟩, by kernel_rfl, hp9⟩ ?_
  rintro _ e14 w15 ⟨k, ma, rfl, hI17, hE18, hp16⟩
  obtain ⟨b19, rfl⟩ := toMk hE18
  clear hE18
  obtain ⟨pa, pb⟩ := hI17
  have tm := fun (z : Int) => tmod_bd z c.N (by omega)
  have u1 := tm (l1[k]!)
  have u2 := tmod_pos (x := (l1[k]!).tmod c.N + c.N) (k := c.N) (by omega) (by omega)
  refine WP.seq ?_
  refine WP.pure {} [] [2, 5, 15, 16, 17, 18] [.pointer (some ⟨g3, 0, none⟩), .pointer (some ⟨g11, 0, none⟩), .slice s1.a s1.n s1.c, .int .i64 ((s1.n : Nat) : Int), .int .i64 (k : Int), .bool (decide ((k : Int) < ((s1.n : Nat) : Int)))] .nil (by kernel_rfl) (fun b20 => ?_)
  refine thn_n ?_
  refine WP.seq ?_
  refine WP.test (p := (k : Int) < ((s1.n : Nat) : Int)) rfl Bp.dec (fun h21 => ?_) (fun h21 => ?_)
  · refine WP.skip ?_
    refine thn_n ?_
    refine WP.seq ?_
    refine WP.block ?_
    refine WP.seq ?_
    have hy23 : (l1)[k]? = some l1[k]! := get_bang (by first | (omega) | (simp only [List.length_append, List.length_cons, List.length_nil]; omega) | (simp only [List.length_take, List.length_append, List.length_cons, List.length_nil]; omega))
    refine WP.pure {} [.int .i64 (l1[k]!)] [2, 5, 8, 15, 16, 17] [.pointer (some ⟨g3, 0, none⟩), .pointer (some ⟨g11, 0, none⟩), .int .i64 (l1[k]!), .slice s1.a s1.n s1.c, .int .i64 ((s1.n : Nat) : Int), .int .i64 (k : Int)] (.cons (show InB ((k : Int)) (s1.n) from ⟨by omega, by omega⟩) (.cons ((o1.at hp16).some (by omega)) (.cons (Ld.add0 (Ld.el1 (P := Try.prog) (t := 3) (o1.at hp16).rd 1 (fun _ => rfl) hy23 (o := 0) (v := .int .i64 (l1[k]!)) (by kernel_rfl))) .nil))) (by kernel_rfl) (fun b24 => ?_)
    refine thn_n ?_
    have hp25 := hp16.drew
    refine WP.held (fun w26 => Ld Try.prog w26 3 ⟨g3, 0, none⟩ (.int .i64 c.N) ∧ True) [] [(0, true), (1, true), (2, true), (3, true), (4, true), (5, true), (6, true), (7, true), (8, true), (9, true), (10, true), (11, false)] (np_blk (np_thn (np_thn (np_blk (np_thn np_body))))) (by kernel_rfl) ?_
    refine HOPS.take 11 {} [.int .i64 c.N, .int .i64 c.N, .int .i64 c.N] [2, 5, 15, 16, 17, 21, 31] [.pointer (some ⟨g3, 0, none⟩), .pointer (some ⟨g11, 0, none⟩), .slice s1.a s1.n s1.c, .int .i64 ((s1.n : Nat) : Int), .int .i64 (k : Int), .pointer (some ⟨g11, 0, none⟩), .int .i64 ((((l1[k]!).tmod c.N) + c.N).tmod c.N)] (by kernel_rfl) ⟨(show Ld Try.prog w15.drew 3 ⟨g3, 0, none⟩ (.int .i64 c.N) from (Ld.row1 (P := Try.prog) (t := 3) (o := 0) (v := .int .i64 c.N) hp25.get1 (by kernel_rfl))), trivial⟩ (fun w27 hS28 => QB.mk (.cons (hS28.1) (.cons (show (c.N : Int) ≠ 0 from by omega) (.cons (hS28.1) (.cons (show Rng .i64 (((l1[k]!).tmod c.N) + c.N) from Rng.i64 (by omega)) (.cons (hS28.1) (.cons (show (c.N : Int) ≠ 0 from by omega) .nil)))))) (by kernel_rfl)) (fun b29 => ?_)
    have hp32 := hp25.pull0
    refine HOPS.eff _ rfl (opStep.call (some 32) [.pointer (some ⟨g11, 0, none⟩), .int .i64 ((((l1[k]!).tmod c.N) + c.N).tmod c.N)] (by kernel_rfl) (q_Add _ _ _ c ma _ hok ((((l1[k]!).tmod c.N) + c.N).tmod c.N) hp32) ?_)
    rintro _ w33 ⟨b36, rfl, hq35, hp34⟩
    refine ⟨_, rfl, ?_⟩
    refine ⟨.inr ⟨(show Ld Try.prog w33 3 ⟨g3, 0, none⟩ (.int .i64 c.N) from (Ld.row1 (P := Try.prog) (t := 3) (o := 0) (v := .int .i64 c.N) hp34.get1 (by kernel_rfl))), trivial⟩, ?_⟩
    refine HOPS.nil ?_
    refine blk_n ?_
    refine thn_n ?_
    refine WP.pure {} [] [2, 5, 15, 16, 17] [.pointer (some ⟨g3, 0, none⟩), .pointer (some ⟨g11, 0, none⟩), .slice s1.a s1.n s1.c, .int .i64 ((s1.n : Nat) : Int), .int .i64 ((k : Int) + 1)] (.cons (show Rng .i64 ((k : Int) + 1) from Rng.i64 (by omega)) .nil) (by kernel_rfl) (fun b37 => ?_)
    refine thn_n ?_
    exact ⟨l1.length - (k + 1), (by omega), k + 1, (qAdd c ma ((((l1[k]!).tmod c.N) + c.N).tmod c.N)), rfl, ⟨by omega, small_add pb _⟩, by kernel_rfl, hp34⟩
  · refine WP.exit ?_
    refine thn_x ?_
    refine thn_x ?_
    refine blk_hit ?_
    refine thn_n ?_
    refine WP.seq ?_
    refine WP.seq ?_
    refine WP.pure {} [] [2, 5, 9] [.pointer (some ⟨g3, 0, none⟩), .pointer (some ⟨g11, 0, none⟩), .int .i64 0] .nil (by kernel_rfl) (fun b38 => ?_)
    refine thn_n ?_
    refine WP.block ?_
    refine WP.loop (fun mz_ e39 w40 => ∃ (i : Nat) (mb : Nat), mz_ = c.N.toNat - i ∧ ((i : Int) ≤ c.N ∧ small c mb ∧ ∀ j, j < i → mb.testBit (c.N - 1 - (j : Int)).toNat = true) ∧ List.map e39 [2, 5, 9] = [.pointer (some ⟨g3, 0, none⟩), .pointer (some ⟨g11, 0, none⟩), .int .i64 (i : Int)] ∧ Hp w Non [Res.row g11 [.int .i64 c.N, .int .i64 c.K, .int .i64 c.Delta, .int .u64 ((wd mb 0 : Nat) : Int), .int .u64 ((wd mb 1 : Nat) : Int), .int .u64 ((wd mb 2 : Nat) : Int), .int .u64 ((wd mb 3 : Nat) : Int)] 133, Res.row g3 [.int .i64 c.N, .int .i64 c.K, .int .i64 c.Delta] 60] w40) (c.N.toNat - (0)) ⟨0, ma, rfl, ⟨by omega, pb, fun j hj => by omega⟩, by kernel_rfl, hp16⟩ ?_
    rintro _ e39 w40 ⟨i, mb, rfl, hI42, hE43, hp41⟩
    obtain ⟨b44, rfl⟩ := toMk hE43
    clear hE43
    obtain ⟨pc, pd, pe⟩ := hI42
    refine WP.seq ?_
    refine WP.cut (fun e62 w63 => ∃ (x60 : Bool), (True) ∧ Bp x60 (((i : Int) < c.N) ∧ (¬ (qSize c ≤ ((cntB mb 256 : Nat) : Int)))) ∧ List.map e62 [2, 5, 9, 42] = [.pointer (some ⟨g3, 0, none⟩), .pointer (some ⟨g11, 0, none⟩), .int .i64 (i : Int), .bool x60] ∧ Hp w Non [Res.row g11 [.int .i64 c.N, .int .i64 c.K, .int .i64 c.Delta, .int .u64 ((wd mb 0 : Nat) : Int), .int .u64 ((wd mb 1 : Nat) : Int), .int .u64 ((wd mb 2 : Nat) : Int), .int .u64 ((wd mb 3 : Nat) : Int)] 133, Res.row g3 [.int .i64 c.N, .int .i64 c.K, .int .i64 c.Delta] 60] w63) ?_ ?_
    · refine WP.region _ rfl (by kernel_rfl) ?_
      refine OPS.batch 5 {} [.int .i64 c.N] [2, 5, 9, 38] [.pointer (some ⟨g3, 0, none⟩), .pointer (some ⟨g11, 0, none⟩), .int .i64 (i : Int), .bool (decide ((i : Int) < c.N))] (.cons (Ld.row1 (P := Try.prog) (t := 3) (o := 0) (v := .int .i64 c.N) hp41.get1 (by kernel_rfl)) .nil) (by kernel_rfl) (fun b46 => ?_)
      by_cases h47 : (i : Int) < c.N
      · refine OPS.batch 0 {} [] [2, 5, 9, 38] [.pointer (some ⟨g3, 0, none⟩), .pointer (some ⟨g11, 0, none⟩), .int .i64 (i : Int), .bool (decide ((i : Int) < c.N))] .nil (by kernel_rfl) (fun b48 => ?_)
        refine OPS.re [.pointer (some ⟨g3, 0, none⟩), .pointer (some ⟨g11, 0, none⟩), .int .i64 (i : Int), .bool true] (by rw [show (decide ((i : Int) < c.N)) = true from Bp.dec.tt h47]) ?_
        refine OPS.batch 1 {} [] [2, 5, 9, 38, 39] [.pointer (some ⟨g3, 0, none⟩), .pointer (some ⟨g11, 0, none⟩), .int .i64 (i : Int), .bool true, .pointer (some ⟨g11, 0, none⟩)] .nil (by kernel_rfl) (fun b49 => ?_)
        refine OPS.want (by kernel_rfl) ?_
        have hp52 := hp41.pull0
        refine OPS.cons (opStep.call (some 40) [.pointer (some ⟨g11, 0, none⟩)] (by kernel_rfl) (q_Met _ _ _ c mb _ hok  hp52) ?_)
        rintro _ w53 ⟨b56, rfl, hq55, hp54⟩
        refine ⟨_, rfl, ?_⟩
        refine OPS.batch 2 { wraps := [42] } [] [2, 5, 9, 42] [.pointer (some ⟨g3, 0, none⟩), .pointer (some ⟨g11, 0, none⟩), .int .i64 (i : Int), .bool (!b56)] .nil (by kernel_rfl) (fun b57 => ?_)
        refine OPS.nil ?_
        refine thn_n ?_
        exact ⟨!b56, trivial, Bp.of (Bp.not hq55) (by first | (simp only [h47, iff_false, false_iff, iff_true, true_iff, Classical.not_not, and_true, true_and, and_false, false_and, or_true, true_or, or_false, false_or, not_true_eq_false, not_false_eq_true, and_self, or_self, iff_self]; done) | (simp [h47]; done) | simp_all), by kernel_rfl, hp54⟩
      · refine OPS.batch 0 {} [] [2, 5, 9, 38] [.pointer (some ⟨g3, 0, none⟩), .pointer (some ⟨g11, 0, none⟩), .int .i64 (i : Int), .bool (decide ((i : Int) < c.N))] .nil (by kernel_rfl) (fun b58 => ?_)
        refine OPS.re [.pointer (some ⟨g3, 0, none⟩), .pointer (some ⟨g11, 0, none⟩), .int .i64 (i : Int), .bool false] (by rw [show (decide ((i : Int) < c.N)) = false from Bp.dec.ff h47]) ?_
        refine OPS.batch 4 { wraps := [42] } [] [2, 5, 9, 42] [.pointer (some ⟨g3, 0, none⟩), .pointer (some ⟨g11, 0, none⟩), .int .i64 (i : Int), .bool false] .nil (by kernel_rfl) (fun b59 => ?_)
        refine OPS.nil ?_
        refine thn_n ?_
        exact ⟨false, trivial, Bp.of Bp.f (by first | (simp only [h47, iff_false, false_iff, iff_true, true_iff, Classical.not_not, and_true, true_and, and_false, false_and, or_true, true_or, or_false, false_or, not_true_eq_false, not_false_eq_true, and_self, or_self, iff_self]; done) | (simp [h47]; done) | simp_all), by kernel_rfl, hp41⟩
    rintro e62 w63 ⟨x60, hd65, hb61, hE66, hp64⟩
    obtain ⟨b67, rfl⟩ := toMk hE66
    clear hE66
    clear hd65
    refine WP.test (p := ((i : Int) < c.N) ∧ (¬ (qSize c ≤ ((cntB mb 256 : Nat) : Int)))) rfl hb61 (fun h68 => ?_) (fun h68 => ?_)
    · refine WP.skip ?_
      refine thn_n ?_
      refine WP.seq ?_
      refine WP.block ?_
      refine WP.region _ rfl (by kernel_rfl) ?_
      refine OPS.batch 6 {} [.int .i64 c.N] [2, 5, 9, 45, 50] [.pointer (some ⟨g3, 0, none⟩), .pointer (some ⟨g11, 0, none⟩), .int .i64 (i : Int), .pointer (some ⟨g11, 0, none⟩), .int .i64 ((c.N - 1) - (i : Int))] (.cons (Ld.row1 (P := Try.prog) (t := 3) (o := 0) (v := .int .i64 c.N) hp64.get1 (by kernel_rfl)) (.cons (show Rng .i64 (c.N - 1) from Rng.i64 (by omega)) (.cons (show Rng .i64 ((c.N - 1) - (i : Int)) from Rng.i64 (by omega)) .nil))) (by kernel_rfl) (fun b69 => ?_)
      have hp72 := hp64.pull0
      refine OPS.cons (opStep.call (some 51) [.pointer (some ⟨g11, 0, none⟩), .int .i64 ((c.N - 1) - (i : Int))] (by kernel_rfl) (q_Add _ _ _ c mb _ hok ((c.N - 1) - (i : Int)) hp72) ?_)
      rintro _ w73 ⟨b76, rfl, hq75, hp74⟩
      refine ⟨_, rfl, ?_⟩
      refine OPS.nil ?_
      refine blk_n ?_
      refine thn_n ?_
      refine WP.pure {} [] [2, 5, 9] [.pointer (some ⟨g3, 0, none⟩), .pointer (some ⟨g11, 0, none⟩), .int .i64 ((i : Int) + 1)] (.cons (show Rng .i64 ((i : Int) + 1) from Rng.i64 (by omega)) .nil) (by kernel_rfl) (fun b77 => ?_)
      refine thn_n ?_
      exact ⟨c.N.toNat - (i + 1), (by omega), i + 1, (qAdd c mb ((c.N - 1) - (i : Int))), rfl, ⟨by omega, small_add pd _, add_top (by omega) pe⟩, by kernel_rfl, hp74⟩
    · refine WP.exit ?_
      refine thn_x ?_
      refine thn_x ?_
      refine blk_hit ?_
      refine thn_n ?_
      refine WP.seq ?_
      refine WP.pure {} [] [4] [.pointer (some ⟨g11, 0, none⟩)] .nil (by kernel_rfl) (fun b78 => ?_)
      refine thn_n ?_
      refine WP.ret ?_
      refine bodyQ.of _ rfl [.pointer (some ⟨g11, 0, none⟩)] ⟨rfl, trivial⟩ ?_
      have hm : qSize c ≤ ((cntB mb 256 : Nat) : Int) := Classical.byContradiction fun hn => (by rcases Int.lt_or_le (i : Int) c.N with q | q; exact h68 ⟨q, hn⟩; exact hn (filled_met hok pd pe q))
      exact ⟨_, _, rfl, pd, hm, (hp64.sub (.cons_cons _ (.cons _ (.slnil))))⟩

end Go.Proofs.Ythdkbbpiaeaojaa.K
