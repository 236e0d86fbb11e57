/- The walks of QuoA: what each function computes. -/
import Derived.Test.YthdkbbpiaeaojaaProg
import Derived.Test.YthdkbbpiaeaojaaCoreO
import Derived.Test.YthdkbbpiaeaojaaPop
namespace Go.Proofs.Ythdkbbpiaeaojaa.K
open Go Go.Proofs Go.RowKit
set_option linter.unusedVariables false
set_option linter.unusedSimpArgs false
set_option maxRecDepth 20000
set_option maxHeartbeats 4000000

structure GConfig where
  N : Int
  K : Int
  Delta : Int
def GConfig.cells (x : GConfig) : List Go.Value := [.int .i64 x.N, .int .i64 x.K, .int .i64 x.Delta]
def GConfig.val (x : GConfig) : Go.Value := .agg x.cells.toArray
instance : Inhabited GConfig := ⟨⟨0, 0, 0⟩⟩
theorem GConfig.len (x : GConfig) : x.cells.length = 3 := rfl
def okCfg (c : GConfig) : Prop := 1 ≤ c.K ∧ c.K ≤ c.N ∧ c.N ≤ 255 ∧ 0 ≤ c.Delta ∧ c.Delta ≤ 4611686018427387903
instance (c : GConfig) : Decidable (okCfg c) := by unfold okCfg; exact inferInstance
def qChk (c : GConfig) : Int := if okCfg c then 0 else 40
def qSize (c : GConfig) : Int := if okCfg c then (c.N + c.K + 1).tdiv 2 else 0
def qDown (c : GConfig) : Int := if okCfg c then c.N - qSize c else 0
def qCom (c : GConfig) : Int := if okCfg c then 2 * qSize c - c.N else 0
theorem qSize_ok {c : GConfig} (h : okCfg c) : 2 * qSize c = c.N + c.K ∨ 2 * qSize c = c.N + c.K + 1 := by unfold qSize; rw [if_pos h]; unfold okCfg at h; rw [Int.tdiv_eq_ediv_of_nonneg (by omega)]; omega
theorem qSize_no {c : GConfig} (h : ¬ okCfg c) : qSize c = 0 := by unfold qSize; rw [if_neg h]
theorem qChk_ok {c : GConfig} (h : okCfg c) : qChk c = 0 := by unfold qChk; rw [if_pos h]
theorem qChk_no {c : GConfig} (h : ¬ okCfg c) : qChk c = 40 := by unfold qChk; rw [if_neg h]
def inN (c : GConfig) (x : Int) : Prop := 0 ≤ x ∧ x < c.N
instance (c : GConfig) (x : Int) : Decidable (inN c x) := by unfold inN; exact inferInstance
def qAdd (c : GConfig) (m : Nat) (x : Int) : Nat := if inN c x then m ||| 2 ^ x.toNat else m
def qErr (c : GConfig) (x : Int) : Int := if inN c x then 0 else 51
theorem q_cases (c : GConfig) : (okCfg c ∧ qChk c = 0 ∧ 1 ≤ c.K ∧ c.K ≤ c.N ∧ c.N ≤ 255 ∧ (2 * qSize c = c.N + c.K ∨ 2 * qSize c = c.N + c.K + 1)) ∨ (¬ okCfg c ∧ qChk c = 40 ∧ qSize c = 0) := by
  by_cases h : okCfg c
  · exact .inl ⟨h, qChk_ok h, h.1, h.2.1, h.2.2.1, qSize_ok h⟩
  · exact .inr ⟨h, qChk_no h, qSize_no h⟩
def cfgOf (c : GConfig) : GConfig := ⟨c.N, c.K, c.Delta⟩

theorem q_Check (c : GConfig) (w : World) :
    Calls Try.prog 48 #[GConfig.val c] w (fun r_ w' => r_ = .returned (.int .i64 (qChk c)) ∧ Fram Non w w') := by
  refine calls_of Try.func48 rfl 28 rfl (by simp) ?_
  have hp0 := Hp.init w
  have he0 : List.map (env0 [GConfig.val c]) [0] = [GConfig.val c] := by kernel_rfl
  obtain ⟨b0, he0⟩ := toMk he0
  rw [he0]
  clear he0
  refine WP.seq ?_
  refine WP.region _ rfl (by kernel_rfl) ?_
  refine OPS.cons (opStep.box hp0 [.int .i64 c.N, .int .i64 c.K, .int .i64 c.Delta] (by kernel_rfl) (fun g3 w1 hp2 => ?_))
  refine OPS.batch 1 {} [] [1] [.pointer (some ⟨g3, 0, none⟩)] .nil (by kernel_rfl) (fun b4 => ?_)
  refine OPS.nil ?_
  refine thn_n ?_
  refine WP.seq ?_
  refine WP.cut (fun e29 w30 => ∃ (x27 : Bool), (True) ∧ Bp x27 (((c.K < 1)) ∨ ((¬ (c.K < 1)) ∧ (c.N < c.K)) ∨ ((¬ (c.K < 1)) ∧ (¬ (c.N < c.K)) ∧ (255 < c.N)) ∨ ((¬ (c.K < 1)) ∧ (¬ (c.N < c.K)) ∧ (¬ (255 < c.N)) ∧ (c.Delta < 0)) ∨ ((¬ (c.K < 1)) ∧ (¬ (c.N < c.K)) ∧ (¬ (255 < c.N)) ∧ (¬ (c.Delta < 0)) ∧ (4611686018427387903 < c.Delta))) ∧ List.map e29 [27] = [.bool x27] ∧ Hp w Non [Res.row g3 [.int .i64 c.N, .int .i64 c.K, .int .i64 c.Delta] 60] w30) ?_ ?_
  · refine WP.region _ rfl (by kernel_rfl) ?_
    refine OPS.batch 4 {} [.int .i64 c.K] [1, 6] [.pointer (some ⟨g3, 0, none⟩), .bool (decide (c.K < 1))] (.cons (Ld.row1 (P := Try.prog) (t := 3) (o := 1) (v := .int .i64 c.K) hp2.get0 (by kernel_rfl)) .nil) (by kernel_rfl) (fun b6 => ?_)
    by_cases h7 : c.K < 1
    · refine OPS.batch 0 {} [] [1, 6] [.pointer (some ⟨g3, 0, none⟩), .bool (decide (c.K < 1))] .nil (by kernel_rfl) (fun b8 => ?_)
      refine OPS.re [.pointer (some ⟨g3, 0, none⟩), .bool true] (by rw [show (decide (c.K < 1)) = true from Bp.dec.tt h7]) ?_
      refine OPS.batch 21 { wraps := [12, 17, 22, 27] } [] [27] [.bool true] .nil (by kernel_rfl) (fun b9 => ?_)
      refine OPS.nil ?_
      refine thn_n ?_
      exact ⟨true, trivial, Bp.of Bp.t (by first | (simp only [h7, iff_false, false_iff, iff_true, true_iff, Classical.not_not, and_true, true_and, and_false, false_and, or_true, true_or, or_false, false_or, not_true_eq_false, not_false_eq_true, and_self, or_self, iff_self]; done) | (simp [h7]; done) | simp_all), by kernel_rfl, hp2⟩
    · refine OPS.batch 0 {} [] [1, 6] [.pointer (some ⟨g3, 0, none⟩), .bool (decide (c.K < 1))] .nil (by kernel_rfl) (fun b10 => ?_)
      refine OPS.re [.pointer (some ⟨g3, 0, none⟩), .bool false] (by rw [show (decide (c.K < 1)) = false from Bp.dec.ff h7]) ?_
      refine OPS.batch 7 { wraps := [12] } [.int .i64 c.K, .int .i64 c.N] [1, 13] [.pointer (some ⟨g3, 0, none⟩), .bool (decide (c.N < c.K))] (.cons (Ld.row1 (P := Try.prog) (t := 3) (o := 1) (v := .int .i64 c.K) hp2.get0 (by kernel_rfl)) (.cons (Ld.row1 (P := Try.prog) (t := 3) (o := 0) (v := .int .i64 c.N) hp2.get0 (by kernel_rfl)) .nil)) (by kernel_rfl) (fun b11 => ?_)
      by_cases h12 : c.N < c.K
      · refine OPS.batch 0 {} [] [1, 13] [.pointer (some ⟨g3, 0, none⟩), .bool (decide (c.N < c.K))] .nil (by kernel_rfl) (fun b13 => ?_)
        refine OPS.re [.pointer (some ⟨g3, 0, none⟩), .bool true] (by rw [show (decide (c.N < c.K)) = true from Bp.dec.tt h12]) ?_
        refine OPS.batch 14 { wraps := [17, 22, 27] } [] [27] [.bool true] .nil (by kernel_rfl) (fun b14 => ?_)
        refine OPS.nil ?_
        refine thn_n ?_
        exact ⟨true, trivial, Bp.of Bp.t (by first | (simp only [h7, h12, iff_false, false_iff, iff_true, true_iff, Classical.not_not, and_true, true_and, and_false, false_and, or_true, true_or, or_false, false_or, not_true_eq_false, not_false_eq_true, and_self, or_self, iff_self]; done) | (simp [h7, h12]; done) | simp_all), by kernel_rfl, hp2⟩
      · refine OPS.batch 0 {} [] [1, 13] [.pointer (some ⟨g3, 0, none⟩), .bool (decide (c.N < c.K))] .nil (by kernel_rfl) (fun b15 => ?_)
        refine OPS.re [.pointer (some ⟨g3, 0, none⟩), .bool false] (by rw [show (decide (c.N < c.K)) = false from Bp.dec.ff h12]) ?_
        refine OPS.batch 5 { wraps := [17] } [.int .i64 c.N] [1, 18] [.pointer (some ⟨g3, 0, none⟩), .bool (decide (255 < c.N))] (.cons (Ld.row1 (P := Try.prog) (t := 3) (o := 0) (v := .int .i64 c.N) hp2.get0 (by kernel_rfl)) .nil) (by kernel_rfl) (fun b16 => ?_)
        by_cases h17 : 255 < c.N
        · refine OPS.batch 0 {} [] [1, 18] [.pointer (some ⟨g3, 0, none⟩), .bool (decide (255 < c.N))] .nil (by kernel_rfl) (fun b18 => ?_)
          refine OPS.re [.pointer (some ⟨g3, 0, none⟩), .bool true] (by rw [show (decide (255 < c.N)) = true from Bp.dec.tt h17]) ?_
          refine OPS.batch 9 { wraps := [22, 27] } [] [27] [.bool true] .nil (by kernel_rfl) (fun b19 => ?_)
          refine OPS.nil ?_
          refine thn_n ?_
          exact ⟨true, trivial, Bp.of Bp.t (by first | (simp only [h7, h12, h17, iff_false, false_iff, iff_true, true_iff, Classical.not_not, and_true, true_and, and_false, false_and, or_true, true_or, or_false, false_or, not_true_eq_false, not_false_eq_true, and_self, or_self, iff_self]; done) | (simp [h7, h12, h17]; done) | simp_all), by kernel_rfl, hp2⟩
        · refine OPS.batch 0 {} [] [1, 18] [.pointer (some ⟨g3, 0, none⟩), .bool (decide (255 < c.N))] .nil (by kernel_rfl) (fun b20 => ?_)
          refine OPS.re [.pointer (some ⟨g3, 0, none⟩), .bool false] (by rw [show (decide (255 < c.N)) = false from Bp.dec.ff h17]) ?_
          refine OPS.batch 5 { wraps := [22] } [.int .i64 c.Delta] [1, 23] [.pointer (some ⟨g3, 0, none⟩), .bool (decide (c.Delta < 0))] (.cons (Ld.row1 (P := Try.prog) (t := 3) (o := 2) (v := .int .i64 c.Delta) hp2.get0 (by kernel_rfl)) .nil) (by kernel_rfl) (fun b21 => ?_)
          by_cases h22 : c.Delta < 0
          · refine OPS.batch 0 {} [] [1, 23] [.pointer (some ⟨g3, 0, none⟩), .bool (decide (c.Delta < 0))] .nil (by kernel_rfl) (fun b23 => ?_)
            refine OPS.re [.pointer (some ⟨g3, 0, none⟩), .bool true] (by rw [show (decide (c.Delta < 0)) = true from Bp.dec.tt h22]) ?_
            refine OPS.batch 4 { wraps := [27] } [] [27] [.bool true] .nil (by kernel_rfl) (fun b24 => ?_)
            refine OPS.nil ?_
            refine thn_n ?_
            exact ⟨true, trivial, Bp.of Bp.t (by first | (simp only [h7, h12, h17, h22, iff_false, false_iff, iff_true, true_iff, Classical.not_not, and_true, true_and, and_false, false_and, or_true, true_or, or_false, false_or, not_true_eq_false, not_false_eq_true, and_self, or_self, iff_self]; done) | (simp [h7, h12, h17, h22]; done) | simp_all), by kernel_rfl, hp2⟩
          · refine OPS.batch 0 {} [] [1, 23] [.pointer (some ⟨g3, 0, none⟩), .bool (decide (c.Delta < 0))] .nil (by kernel_rfl) (fun b25 => ?_)
            refine OPS.re [.pointer (some ⟨g3, 0, none⟩), .bool false] (by rw [show (decide (c.Delta < 0)) = false from Bp.dec.ff h22]) ?_
            refine OPS.batch 4 { wraps := [27] } [.int .i64 c.Delta] [27] [.bool (decide (4611686018427387903 < c.Delta))] (.cons (Ld.row1 (P := Try.prog) (t := 3) (o := 2) (v := .int .i64 c.Delta) hp2.get0 (by kernel_rfl)) .nil) (by kernel_rfl) (fun b26 => ?_)
            refine OPS.nil ?_
            refine thn_n ?_
            exact ⟨decide (4611686018427387903 < c.Delta), trivial, Bp.of Bp.dec (by first | (simp only [h7, h12, h17, h22, iff_false, false_iff, iff_true, true_iff, Classical.not_not, and_true, true_and, and_false, false_and, or_true, true_or, or_false, false_or, not_true_eq_false, not_false_eq_true, and_self, or_self, iff_self]; done) | (simp [h7, h12, h17, h22]; done) | simp_all), by kernel_rfl, hp2⟩
  rintro e29 w30 ⟨x27, hd32, hb28, hE33, hp31⟩
  obtain ⟨b34, rfl⟩ := toMk hE33
  clear hE33
  clear hd32
  refine WP.test (p := ((c.K < 1)) ∨ ((¬ (c.K < 1)) ∧ (c.N < c.K)) ∨ ((¬ (c.K < 1)) ∧ (¬ (c.N < c.K)) ∧ (255 < c.N)) ∨ ((¬ (c.K < 1)) ∧ (¬ (c.N < c.K)) ∧ (¬ (255 < c.N)) ∧ (c.Delta < 0)) ∨ ((¬ (c.K < 1)) ∧ (¬ (c.N < c.K)) ∧ (¬ (255 < c.N)) ∧ (¬ (c.Delta < 0)) ∧ (4611686018427387903 < c.Delta))) rfl hb28 (fun h35 => ?_) (fun h35 => ?_)
  · refine WP.seq ?_
    refine WP.pure {} [] [2] [.int .i64 40] .nil (by kernel_rfl) (fun b36 => ?_)
    refine thn_n ?_
    refine WP.ret ?_
    refine thn_r ?_
    refine bodyQ.of _ rfl [.int .i64 40] ⟨rfl, trivial⟩ ?_
    exact ⟨by simp only [pack, qChk]; rw [if_neg (by unfold okCfg; omega)], hp31.fr⟩
  · refine WP.skip ?_
    refine thn_n ?_
    refine WP.seq ?_
    refine WP.pure {} [] [2] [.int .i64 0] .nil (by kernel_rfl) (fun b37 => ?_)
    refine thn_n ?_
    refine WP.ret ?_
    refine bodyQ.of _ rfl [.int .i64 0] ⟨rfl, trivial⟩ ?_
    exact ⟨by simp only [pack, qChk]; rw [if_pos (by unfold okCfg; omega)], hp31.fr⟩

theorem q_Size (c : GConfig) (w : World) :
    Calls Try.prog 35 #[GConfig.val c] w (fun r_ w' => r_ = .returned (.tuple #[.int .i64 (qSize c), .int .i64 (qChk c)]) ∧ Fram Non w w') := by
  have hq0 := q_cases c
  have hq : (qChk c = 0 ∧ 1 ≤ c.K ∧ c.K ≤ c.N ∧ c.N ≤ 255 ∧ (2 * qSize c = c.N + c.K ∨ 2 * qSize c = c.N + c.K + 1)) ∨ (qChk c = 40 ∧ qSize c = 0) := by rcases hq0 with q | q; exact .inl q.2; exact .inr q.2
  have htd : 0 ≤ c.N + c.K + 1 → (c.N + c.K + 1).tdiv 2 = (c.N + c.K + 1) / 2 := fun h => Int.tdiv_eq_ediv_of_nonneg h
  refine calls_of Try.func35 rfl 14 rfl (by simp) ?_
  have hp0 := Hp.init w
  have he0 : List.map (env0 [GConfig.val c]) [0] = [GConfig.val c] := by kernel_rfl
  obtain ⟨b0, he0⟩ := toMk he0
  rw [he0]
  clear he0
  refine WP.seq ?_
  refine WP.region _ rfl (by kernel_rfl) ?_
  refine OPS.cons (opStep.box hp0 [.int .i64 c.N, .int .i64 c.K, .int .i64 c.Delta] (by kernel_rfl) (fun g3 w1 hp2 => ?_))
  refine OPS.batch 2 {} [] [1] [.pointer (some ⟨g3, 0, none⟩)] .nil (by kernel_rfl) (fun b4 => ?_)
  refine OPS.nil ?_
  refine thn_n ?_
  refine WP.seq ?_
  refine WP.seq ?_
  refine WP.region _ rfl (by kernel_rfl) ?_
  refine OPS.batch 1 {} [GConfig.val c] [1, 4] [.pointer (some ⟨g3, 0, none⟩), GConfig.val c] (.cons (show Ld Try.prog w1 60 ⟨g3, 0, none⟩ (GConfig.val c) from Ld.rowN (cs := [.int .i64 c.N, .int .i64 c.K, .int .i64 c.Delta]) hp2.get0 (by kernel_rfl)) .nil) (by kernel_rfl) (fun b5 => ?_)
  refine OPS.cons (opStep.call (some 5) [GConfig.val c] (by kernel_rfl) (q_Check c _) ?_)
  rintro _ w8 ⟨rfl, hf9⟩
  refine ⟨_, rfl, ?_⟩
  have hp10 := hp2.step hf9
  refine OPS.batch 1 {} [] [1, 6] [.pointer (some ⟨g3, 0, none⟩), .bool (decide (¬ ((qChk c) = 0)))] .nil (by kernel_rfl) (fun b11 => ?_)
  refine OPS.nil ?_
  refine thn_n ?_
  refine WP.test (p := ¬ ((qChk c) = 0)) rfl Bp.dec (fun h12 => ?_) (fun h12 => ?_)
  · refine WP.seq ?_
    refine WP.pure {} [] [2, 3] [.int .i64 0, .int .i64 40] .nil (by kernel_rfl) (fun b13 => ?_)
    refine thn_n ?_
    refine WP.ret ?_
    refine thn_r ?_
    refine bodyQ.of _ rfl [.int .i64 0, .int .i64 40] ⟨rfl, rfl, trivial⟩ ?_
    exact ⟨by rcases hq0 with ⟨hq1, hq2, hq3⟩ | ⟨hq1, hq2, hq3⟩ <;> first | omega | (simp [pack, qSize, hq1, hq2]; done) | (simp [pack, qSize, hq1, hq2, qSize]; done), hp10.fr⟩
  · replace h12 := Classical.not_not.1 h12
    refine WP.skip ?_
    refine thn_n ?_
    refine WP.seq ?_
    refine WP.pure {} [.int .i64 c.N, .int .i64 c.K] [2, 3] [.int .i64 (((c.N + c.K) + 1).tdiv 2), .int .i64 0] (.cons (Ld.row1 (P := Try.prog) (t := 3) (o := 0) (v := .int .i64 c.N) hp10.get0 (by kernel_rfl)) (.cons (Ld.row1 (P := Try.prog) (t := 3) (o := 1) (v := .int .i64 c.K) hp10.get0 (by kernel_rfl)) (.cons (show Rng .i64 (c.N + c.K) from Rng.i64 (by omega)) (.cons (show Rng .i64 ((c.N + c.K) + 1) from Rng.i64 (by omega)) (.cons (show (2 : Int) ≠ 0 from by omega) (.cons (show Rng .i64 (((c.N + c.K) + 1).tdiv 2) from Rng.i64 (by omega)) .nil)))))) (by kernel_rfl) (fun b14 => ?_)
    refine thn_n ?_
    refine WP.ret ?_
    refine bodyQ.of _ rfl [.int .i64 (((c.N + c.K) + 1).tdiv 2), .int .i64 0] ⟨rfl, rfl, trivial⟩ ?_
    exact ⟨by rcases hq0 with ⟨hq1, hq2, hq3⟩ | ⟨hq1, hq2, hq3⟩ <;> first | omega | (simp [pack, qSize, hq1, hq2]; done) | (simp [pack, qSize, hq1, hq2, qSize]; done), hp10.fr⟩

theorem q_Down (c : GConfig) (w : World) :
    Calls Try.prog 34 #[GConfig.val c] w (fun r_ w' => r_ = .returned (.tuple #[.int .i64 (qDown c), .int .i64 (qChk c)]) ∧ Fram Non w w') := by
  have hq0 := q_cases c
  have hq : (qChk c = 0 ∧ 1 ≤ c.K ∧ c.K ≤ c.N ∧ c.N ≤ 255 ∧ (2 * qSize c = c.N + c.K ∨ 2 * qSize c = c.N + c.K + 1)) ∨ (qChk c = 40 ∧ qSize c = 0) := by rcases hq0 with q | q; exact .inl q.2; exact .inr q.2
  have htd : 0 ≤ c.N + c.K + 1 → (c.N + c.K + 1).tdiv 2 = (c.N + c.K + 1) / 2 := fun h => Int.tdiv_eq_ediv_of_nonneg h
  refine calls_of Try.func34 rfl 18 rfl (by simp) ?_
  have hp0 := Hp.init w
  have he0 : List.map (env0 [GConfig.val c]) [0] = [GConfig.val c] := by kernel_rfl
  obtain ⟨b0, he0⟩ := toMk he0
  rw [he0]
  clear he0
  refine WP.seq ?_
  refine WP.region _ rfl (by kernel_rfl) ?_
  refine OPS.cons (opStep.box hp0 [.int .i64 c.N, .int .i64 c.K, .int .i64 c.Delta] (by kernel_rfl) (fun g3 w1 hp2 => ?_))
  refine OPS.batch 2 {} [] [1] [.pointer (some ⟨g3, 0, none⟩)] .nil (by kernel_rfl) (fun b4 => ?_)
  refine OPS.nil ?_
  refine thn_n ?_
  refine WP.seq ?_
  refine WP.region _ rfl (by kernel_rfl) ?_
  refine OPS.batch 1 {} [GConfig.val c] [1, 7] [.pointer (some ⟨g3, 0, none⟩), GConfig.val c] (.cons (show Ld Try.prog w1 60 ⟨g3, 0, none⟩ (GConfig.val c) from Ld.rowN (cs := [.int .i64 c.N, .int .i64 c.K, .int .i64 c.Delta]) hp2.get0 (by kernel_rfl)) .nil) (by kernel_rfl) (fun b5 => ?_)
  refine OPS.cons (opStep.call (some 8) [GConfig.val c] (by kernel_rfl) (q_Size c _) ?_)
  rintro _ w8 ⟨rfl, hf9⟩
  refine ⟨_, rfl, ?_⟩
  have hp10 := hp2.step hf9
  refine OPS.batch 5 {} [] [1, 4, 5] [.pointer (some ⟨g3, 0, none⟩), .int .i64 (qSize c), .int .i64 (qChk c)] .nil (by kernel_rfl) (fun b11 => ?_)
  refine OPS.nil ?_
  refine thn_n ?_
  refine WP.seq ?_
  refine WP.seq ?_
  refine WP.pure {} [] [1, 4, 5, 12] [.pointer (some ⟨g3, 0, none⟩), .int .i64 (qSize c), .int .i64 (qChk c), .bool (decide (¬ ((qChk c) = 0)))] .nil (by kernel_rfl) (fun b12 => ?_)
  refine thn_n ?_
  refine WP.test (p := ¬ ((qChk c) = 0)) rfl Bp.dec (fun h13 => ?_) (fun h13 => ?_)
  · refine WP.seq ?_
    refine WP.pure {} [] [2, 3] [.int .i64 0, .int .i64 (qChk c)] .nil (by kernel_rfl) (fun b14 => ?_)
    refine thn_n ?_
    refine WP.ret ?_
    refine thn_r ?_
    refine bodyQ.of _ rfl [.int .i64 0, .int .i64 (qChk c)] ⟨rfl, rfl, trivial⟩ ?_
    exact ⟨by rcases hq0 with ⟨hq1, hq2, hq3⟩ | ⟨hq1, hq2, hq3⟩ <;> first | omega | (simp [pack, qDown, hq1, hq2]; done) | (simp [pack, qDown, hq1, hq2, qSize]; done), hp10.fr⟩
  · replace h13 := Classical.not_not.1 h13
    refine WP.skip ?_
    refine thn_n ?_
    refine WP.seq ?_
    refine WP.pure {} [.int .i64 c.N] [2, 3] [.int .i64 (c.N - (qSize c)), .int .i64 0] (.cons (Ld.row1 (P := Try.prog) (t := 3) (o := 0) (v := .int .i64 c.N) hp10.get0 (by kernel_rfl)) (.cons (show Rng .i64 (c.N - (qSize c)) from Rng.i64 (by omega)) .nil)) (by kernel_rfl) (fun b15 => ?_)
    refine thn_n ?_
    refine WP.ret ?_
    refine bodyQ.of _ rfl [.int .i64 (c.N - (qSize c)), .int .i64 0] ⟨rfl, rfl, trivial⟩ ?_
    exact ⟨by rcases hq0 with ⟨hq1, hq2, hq3⟩ | ⟨hq1, hq2, hq3⟩ <;> first | omega | (simp [pack, qDown, hq1, hq2]; done) | (simp [pack, qDown, hq1, hq2, qSize]; done), hp10.fr⟩

theorem q_Common (c : GConfig) (w : World) :
    Calls Try.prog 44 #[GConfig.val c] w (fun r_ w' => r_ = .returned (.tuple #[.int .i64 (qCom c), .int .i64 (qChk c)]) ∧ Fram Non w w') := by
  have hq0 := q_cases c
  have hq : (qChk c = 0 ∧ 1 ≤ c.K ∧ c.K ≤ c.N ∧ c.N ≤ 255 ∧ (2 * qSize c = c.N + c.K ∨ 2 * qSize c = c.N + c.K + 1)) ∨ (qChk c = 40 ∧ qSize c = 0) := by rcases hq0 with q | q; exact .inl q.2; exact .inr q.2
  have htd : 0 ≤ c.N + c.K + 1 → (c.N + c.K + 1).tdiv 2 = (c.N + c.K + 1) / 2 := fun h => Int.tdiv_eq_ediv_of_nonneg h
  refine calls_of Try.func44 rfl 19 rfl (by simp) ?_
  have hp0 := Hp.init w
  have he0 : List.map (env0 [GConfig.val c]) [0] = [GConfig.val c] := by kernel_rfl
  obtain ⟨b0, he0⟩ := toMk he0
  rw [he0]
  clear he0
  refine WP.seq ?_
  refine WP.region _ rfl (by kernel_rfl) ?_
  refine OPS.cons (opStep.box hp0 [.int .i64 c.N, .int .i64 c.K, .int .i64 c.Delta] (by kernel_rfl) (fun g3 w1 hp2 => ?_))
  refine OPS.batch 2 {} [] [1] [.pointer (some ⟨g3, 0, none⟩)] .nil (by kernel_rfl) (fun b4 => ?_)
  refine OPS.nil ?_
  refine thn_n ?_
  refine WP.seq ?_
  refine WP.region _ rfl (by kernel_rfl) ?_
  refine OPS.batch 1 {} [GConfig.val c] [1, 7] [.pointer (some ⟨g3, 0, none⟩), GConfig.val c] (.cons (show Ld Try.prog w1 60 ⟨g3, 0, none⟩ (GConfig.val c) from Ld.rowN (cs := [.int .i64 c.N, .int .i64 c.K, .int .i64 c.Delta]) hp2.get0 (by kernel_rfl)) .nil) (by kernel_rfl) (fun b5 => ?_)
  refine OPS.cons (opStep.call (some 8) [GConfig.val c] (by kernel_rfl) (q_Size c _) ?_)
  rintro _ w8 ⟨rfl, hf9⟩
  refine ⟨_, rfl, ?_⟩
  have hp10 := hp2.step hf9
  refine OPS.batch 5 {} [] [1, 4, 5] [.pointer (some ⟨g3, 0, none⟩), .int .i64 (qSize c), .int .i64 (qChk c)] .nil (by kernel_rfl) (fun b11 => ?_)
  refine OPS.nil ?_
  refine thn_n ?_
  refine WP.seq ?_
  refine WP.seq ?_
  refine WP.pure {} [] [1, 4, 5, 12] [.pointer (some ⟨g3, 0, none⟩), .int .i64 (qSize c), .int .i64 (qChk c), .bool (decide (¬ ((qChk c) = 0)))] .nil (by kernel_rfl) (fun b12 => ?_)
  refine thn_n ?_
  refine WP.test (p := ¬ ((qChk c) = 0)) rfl Bp.dec (fun h13 => ?_) (fun h13 => ?_)
  · refine WP.seq ?_
    refine WP.pure {} [] [2, 3] [.int .i64 0, .int .i64 (qChk c)] .nil (by kernel_rfl) (fun b14 => ?_)
    refine thn_n ?_
    refine WP.ret ?_
    refine thn_r ?_
    refine bodyQ.of _ rfl [.int .i64 0, .int .i64 (qChk c)] ⟨rfl, rfl, trivial⟩ ?_
    exact ⟨by rcases hq0 with ⟨hq1, hq2, hq3⟩ | ⟨hq1, hq2, hq3⟩ <;> first | omega | (simp [pack, qCom, hq1, hq2]; done) | (simp [pack, qCom, hq1, hq2, qSize]; done), hp10.fr⟩
  · replace h13 := Classical.not_not.1 h13
    refine WP.skip ?_
    refine thn_n ?_
    refine WP.seq ?_
    refine WP.pure {} [.int .i64 c.N] [2, 3] [.int .i64 ((2 * (qSize c)) - c.N), .int .i64 0] (.cons (show Rng .i64 (2 * (qSize c)) from Rng.i64 (by omega)) (.cons (Ld.row1 (P := Try.prog) (t := 3) (o := 0) (v := .int .i64 c.N) hp10.get0 (by kernel_rfl)) (.cons (show Rng .i64 ((2 * (qSize c)) - c.N) from Rng.i64 (by omega)) .nil))) (by kernel_rfl) (fun b15 => ?_)
    refine thn_n ?_
    refine WP.ret ?_
    refine bodyQ.of _ rfl [.int .i64 ((2 * (qSize c)) - c.N), .int .i64 0] ⟨rfl, rfl, trivial⟩ ?_
    exact ⟨by rcases hq0 with ⟨hq1, hq2, hq3⟩ | ⟨hq1, hq2, hq3⟩ <;> first | omega | (simp [pack, qCom, hq1, hq2]; done) | (simp [pack, qCom, hq1, hq2, qSize]; done), hp10.fr⟩

theorem r_Check (c : GConfig) (w : World) :
    Calls Try.prog 49 #[GConfig.val c] w (fun r_ w' => r_ = .returned (.int .i64 (qChk c)) ∧ Fram Non w w') := by
  refine calls_of Try.func49 rfl 28 rfl (by simp) ?_
  have hp0 := Hp.init w
  have he0 : List.map (env0 [GConfig.val c]) [0] = [GConfig.val c] := by kernel_rfl
  obtain ⟨b0, he0⟩ := toMk he0
  rw [he0]
  clear he0
  refine WP.seq ?_
  refine WP.region _ rfl (by kernel_rfl) ?_
  refine OPS.cons (opStep.box hp0 [.int .i64 c.N, .int .i64 c.K, .int .i64 c.Delta] (by kernel_rfl) (fun g3 w1 hp2 => ?_))
  refine OPS.batch 1 {} [] [1] [.pointer (some ⟨g3, 0, none⟩)] .nil (by kernel_rfl) (fun b4 => ?_)
  refine OPS.nil ?_
  refine thn_n ?_
  refine WP.seq ?_
  refine WP.cut (fun e29 w30 => ∃ (x27 : Bool), (True) ∧ Bp x27 (((c.K < 1)) ∨ ((¬ (c.K < 1)) ∧ (c.N < c.K)) ∨ ((¬ (c.K < 1)) ∧ (¬ (c.N < c.K)) ∧ (255 < c.N)) ∨ ((¬ (c.K < 1)) ∧ (¬ (c.N < c.K)) ∧ (¬ (255 < c.N)) ∧ (c.Delta < 0)) ∨ ((¬ (c.K < 1)) ∧ (¬ (c.N < c.K)) ∧ (¬ (255 < c.N)) ∧ (¬ (c.Delta < 0)) ∧ (4611686018427387903 < c.Delta))) ∧ List.map e29 [27] = [.bool x27] ∧ Hp w Non [Res.row g3 [.int .i64 c.N, .int .i64 c.K, .int .i64 c.Delta] 60] w30) ?_ ?_
  · refine WP.region _ rfl (by kernel_rfl) ?_
    refine OPS.batch 4 {} [.int .i64 c.K] [1, 6] [.pointer (some ⟨g3, 0, none⟩), .bool (decide (c.K < 1))] (.cons (Ld.row1 (P := Try.prog) (t := 3) (o := 1) (v := .int .i64 c.K) hp2.get0 (by kernel_rfl)) .nil) (by kernel_rfl) (fun b6 => ?_)
    by_cases h7 : c.K < 1
    · refine OPS.batch 0 {} [] [1, 6] [.pointer (some ⟨g3, 0, none⟩), .bool (decide (c.K < 1))] .nil (by kernel_rfl) (fun b8 => ?_)
      refine OPS.re [.pointer (some ⟨g3, 0, none⟩), .bool true] (by rw [show (decide (c.K < 1)) = true from Bp.dec.tt h7]) ?_
      refine OPS.batch 21 { wraps := [12, 17, 22, 27] } [] [27] [.bool true] .nil (by kernel_rfl) (fun b9 => ?_)
      refine OPS.nil ?_
      refine thn_n ?_
      exact ⟨true, trivial, Bp.of Bp.t (by first | (simp only [h7, iff_false, false_iff, iff_true, true_iff, Classical.not_not, and_true, true_and, and_false, false_and, or_true, true_or, or_false, false_or, not_true_eq_false, not_false_eq_true, and_self, or_self, iff_self]; done) | (simp [h7]; done) | simp_all), by kernel_rfl, hp2⟩
    · refine OPS.batch 0 {} [] [1, 6] [.pointer (some ⟨g3, 0, none⟩), .bool (decide (c.K < 1))] .nil (by kernel_rfl) (fun b10 => ?_)
      refine OPS.re [.pointer (some ⟨g3, 0, none⟩), .bool false] (by rw [show (decide (c.K < 1)) = false from Bp.dec.ff h7]) ?_
      refine OPS.batch 7 { wraps := [12] } [.int .i64 c.K, .int .i64 c.N] [1, 13] [.pointer (some ⟨g3, 0, none⟩), .bool (decide (c.N < c.K))] (.cons (Ld.row1 (P := Try.prog) (t := 3) (o := 1) (v := .int .i64 c.K) hp2.get0 (by kernel_rfl)) (.cons (Ld.row1 (P := Try.prog) (t := 3) (o := 0) (v := .int .i64 c.N) hp2.get0 (by kernel_rfl)) .nil)) (by kernel_rfl) (fun b11 => ?_)
      by_cases h12 : c.N < c.K
      · refine OPS.batch 0 {} [] [1, 13] [.pointer (some ⟨g3, 0, none⟩), .bool (decide (c.N < c.K))] .nil (by kernel_rfl) (fun b13 => ?_)
        refine OPS.re [.pointer (some ⟨g3, 0, none⟩), .bool true] (by rw [show (decide (c.N < c.K)) = true from Bp.dec.tt h12]) ?_
        refine OPS.batch 14 { wraps := [17, 22, 27] } [] [27] [.bool true] .nil (by kernel_rfl) (fun b14 => ?_)
        refine OPS.nil ?_
        refine thn_n ?_
        exact ⟨true, trivial, Bp.of Bp.t (by first | (simp only [h7, h12, iff_false, false_iff, iff_true, true_iff, Classical.not_not, and_true, true_and, and_false, false_and, or_true, true_or, or_false, false_or, not_true_eq_false, not_false_eq_true, and_self, or_self, iff_self]; done) | (simp [h7, h12]; done) | simp_all), by kernel_rfl, hp2⟩
      · refine OPS.batch 0 {} [] [1, 13] [.pointer (some ⟨g3, 0, none⟩), .bool (decide (c.N < c.K))] .nil (by kernel_rfl) (fun b15 => ?_)
        refine OPS.re [.pointer (some ⟨g3, 0, none⟩), .bool false] (by rw [show (decide (c.N < c.K)) = false from Bp.dec.ff h12]) ?_
        refine OPS.batch 5 { wraps := [17] } [.int .i64 c.N] [1, 18] [.pointer (some ⟨g3, 0, none⟩), .bool (decide (255 < c.N))] (.cons (Ld.row1 (P := Try.prog) (t := 3) (o := 0) (v := .int .i64 c.N) hp2.get0 (by kernel_rfl)) .nil) (by kernel_rfl) (fun b16 => ?_)
        by_cases h17 : 255 < c.N
        · refine OPS.batch 0 {} [] [1, 18] [.pointer (some ⟨g3, 0, none⟩), .bool (decide (255 < c.N))] .nil (by kernel_rfl) (fun b18 => ?_)
          refine OPS.re [.pointer (some ⟨g3, 0, none⟩), .bool true] (by rw [show (decide (255 < c.N)) = true from Bp.dec.tt h17]) ?_
          refine OPS.batch 9 { wraps := [22, 27] } [] [27] [.bool true] .nil (by kernel_rfl) (fun b19 => ?_)
          refine OPS.nil ?_
          refine thn_n ?_
          exact ⟨true, trivial, Bp.of Bp.t (by first | (simp only [h7, h12, h17, iff_false, false_iff, iff_true, true_iff, Classical.not_not, and_true, true_and, and_false, false_and, or_true, true_or, or_false, false_or, not_true_eq_false, not_false_eq_true, and_self, or_self, iff_self]; done) | (simp [h7, h12, h17]; done) | simp_all), by kernel_rfl, hp2⟩
        · refine OPS.batch 0 {} [] [1, 18] [.pointer (some ⟨g3, 0, none⟩), .bool (decide (255 < c.N))] .nil (by kernel_rfl) (fun b20 => ?_)
          refine OPS.re [.pointer (some ⟨g3, 0, none⟩), .bool false] (by rw [show (decide (255 < c.N)) = false from Bp.dec.ff h17]) ?_
          refine OPS.batch 5 { wraps := [22] } [.int .i64 c.Delta] [1, 23] [.pointer (some ⟨g3, 0, none⟩), .bool (decide (c.Delta < 0))] (.cons (Ld.row1 (P := Try.prog) (t := 3) (o := 2) (v := .int .i64 c.Delta) hp2.get0 (by kernel_rfl)) .nil) (by kernel_rfl) (fun b21 => ?_)
          by_cases h22 : c.Delta < 0
          · refine OPS.batch 0 {} [] [1, 23] [.pointer (some ⟨g3, 0, none⟩), .bool (decide (c.Delta < 0))] .nil (by kernel_rfl) (fun b23 => ?_)
            refine OPS.re [.pointer (some ⟨g3, 0, none⟩), .bool true] (by rw [show (decide (c.Delta < 0)) = true from Bp.dec.tt h22]) ?_
            refine OPS.batch 4 { wraps := [27] } [] [27] [.bool true] .nil (by kernel_rfl) (fun b24 => ?_)
            refine OPS.nil ?_
            refine thn_n ?_
            exact ⟨true, trivial, Bp.of Bp.t (by first | (simp only [h7, h12, h17, h22, iff_false, false_iff, iff_true, true_iff, Classical.not_not, and_true, true_and, and_false, false_and, or_true, true_or, or_false, false_or, not_true_eq_false, not_false_eq_true, and_self, or_self, iff_self]; done) | (simp [h7, h12, h17, h22]; done) | simp_all), by kernel_rfl, hp2⟩
          · refine OPS.batch 0 {} [] [1, 23] [.pointer (some ⟨g3, 0, none⟩), .bool (decide (c.Delta < 0))] .nil (by kernel_rfl) (fun b25 => ?_)
            refine OPS.re [.pointer (some ⟨g3, 0, none⟩), .bool false] (by rw [show (decide (c.Delta < 0)) = false from Bp.dec.ff h22]) ?_
            refine OPS.batch 4 { wraps := [27] } [.int .i64 c.Delta] [27] [.bool (decide (4611686018427387903 < c.Delta))] (.cons (Ld.row1 (P := Try.prog) (t := 3) (o := 2) (v := .int .i64 c.Delta) hp2.get0 (by kernel_rfl)) .nil) (by kernel_rfl) (fun b26 => ?_)
            refine OPS.nil ?_
            refine thn_n ?_
            exact ⟨decide (4611686018427387903 < c.Delta), trivial, Bp.of Bp.dec (by first | (simp only [h7, h12, h17, h22, iff_false, false_iff, iff_true, true_iff, Classical.not_not, and_true, true_and, and_false, false_and, or_true, true_or, or_false, false_or, not_true_eq_false, not_false_eq_true, and_self, or_self, iff_self]; done) | (simp [h7, h12, h17, h22]; done) | simp_all), by kernel_rfl, hp2⟩
  rintro e29 w30 ⟨x27, hd32, hb28, hE33, hp31⟩
  obtain ⟨b34, rfl⟩ := toMk hE33
  clear hE33
  clear hd32
  refine WP.test (p := ((c.K < 1)) ∨ ((¬ (c.K < 1)) ∧ (c.N < c.K)) ∨ ((¬ (c.K < 1)) ∧ (¬ (c.N < c.K)) ∧ (255 < c.N)) ∨ ((¬ (c.K < 1)) ∧ (¬ (c.N < c.K)) ∧ (¬ (255 < c.N)) ∧ (c.Delta < 0)) ∨ ((¬ (c.K < 1)) ∧ (¬ (c.N < c.K)) ∧ (¬ (255 < c.N)) ∧ (¬ (c.Delta < 0)) ∧ (4611686018427387903 < c.Delta))) rfl hb28 (fun h35 => ?_) (fun h35 => ?_)
  · refine WP.seq ?_
    refine WP.pure {} [] [2] [.int .i64 40] .nil (by kernel_rfl) (fun b36 => ?_)
    refine thn_n ?_
    refine WP.ret ?_
    refine thn_r ?_
    refine bodyQ.of _ rfl [.int .i64 40] ⟨rfl, trivial⟩ ?_
    exact ⟨by simp only [pack, qChk]; rw [if_neg (by unfold okCfg; omega)], hp31.fr⟩
  · refine WP.skip ?_
    refine thn_n ?_
    refine WP.seq ?_
    refine WP.pure {} [] [2] [.int .i64 0] .nil (by kernel_rfl) (fun b37 => ?_)
    refine thn_n ?_
    refine WP.ret ?_
    refine bodyQ.of _ rfl [.int .i64 0] ⟨rfl, trivial⟩ ?_
    exact ⟨by simp only [pack, qChk]; rw [if_pos (by unfold okCfg; omega)], hp31.fr⟩

theorem r_Size (c : GConfig) (w : World) :
    Calls Try.prog 45 #[GConfig.val c] w (fun r_ w' => r_ = .returned (.tuple #[.int .i64 (qSize c), .int .i64 (qChk c)]) ∧ Fram Non w w') := by
  have hq0 := q_cases c
  have hq : (qChk c = 0 ∧ 1 ≤ c.K ∧ c.K ≤ c.N ∧ c.N ≤ 255 ∧ (2 * qSize c = c.N + c.K ∨ 2 * qSize c = c.N + c.K + 1)) ∨ (qChk c = 40 ∧ qSize c = 0) := by rcases hq0 with q | q; exact .inl q.2; exact .inr q.2
  have htd : 0 ≤ c.N + c.K + 1 → (c.N + c.K + 1).tdiv 2 = (c.N + c.K + 1) / 2 := fun h => Int.tdiv_eq_ediv_of_nonneg h
  refine calls_of Try.func45 rfl 19 rfl (by simp) ?_
  have hp0 := Hp.init w
  have he0 : List.map (env0 [GConfig.val c]) [0] = [GConfig.val c] := by kernel_rfl
  obtain ⟨b0, he0⟩ := toMk he0
  rw [he0]
  clear he0
  refine WP.seq ?_
  refine WP.region _ rfl (by kernel_rfl) ?_
  refine OPS.cons (opStep.box hp0 [.int .i64 c.N, .int .i64 c.K, .int .i64 c.Delta] (by kernel_rfl) (fun g3 w1 hp2 => ?_))
  refine OPS.batch 2 {} [] [1] [.pointer (some ⟨g3, 0, none⟩)] .nil (by kernel_rfl) (fun b4 => ?_)
  refine OPS.nil ?_
  refine thn_n ?_
  refine WP.seq ?_
  refine WP.seq ?_
  refine WP.region _ rfl (by kernel_rfl) ?_
  refine OPS.batch 1 {} [GConfig.val c] [1, 5] [.pointer (some ⟨g3, 0, none⟩), GConfig.val c] (.cons (show Ld Try.prog w1 60 ⟨g3, 0, none⟩ (GConfig.val c) from Ld.rowN (cs := [.int .i64 c.N, .int .i64 c.K, .int .i64 c.Delta]) hp2.get0 (by kernel_rfl)) .nil) (by kernel_rfl) (fun b5 => ?_)
  refine OPS.cons (opStep.call (some 6) [GConfig.val c] (by kernel_rfl) (r_Check c _) ?_)
  rintro _ w8 ⟨rfl, hf9⟩
  refine ⟨_, rfl, ?_⟩
  have hp10 := hp2.step hf9
  refine OPS.batch 1 {} [] [1, 7] [.pointer (some ⟨g3, 0, none⟩), .bool (decide (¬ ((qChk c) = 0)))] .nil (by kernel_rfl) (fun b11 => ?_)
  refine OPS.nil ?_
  refine thn_n ?_
  refine WP.test (p := ¬ ((qChk c) = 0)) rfl Bp.dec (fun h12 => ?_) (fun h12 => ?_)
  · refine WP.seq ?_
    refine WP.pure {} [] [2, 3] [.int .i64 0, .int .i64 40] .nil (by kernel_rfl) (fun b13 => ?_)
    refine thn_n ?_
    refine WP.ret ?_
    refine thn_r ?_
    refine bodyQ.of _ rfl [.int .i64 0, .int .i64 40] ⟨rfl, rfl, trivial⟩ ?_
    exact ⟨by rcases hq0 with ⟨hq1, hq2, hq3⟩ | ⟨hq1, hq2, hq3⟩ <;> first | omega | (rw [show (0 : Int) = qSize c from by omega]; simp only [pack, hq2]) | (simp [pack, qSize, hq1, hq2]; done), hp10.fr⟩
  · replace h12 := Classical.not_not.1 h12
    refine WP.skip ?_
    refine thn_n ?_
    refine WP.seq ?_
    refine WP.pure {} [] [1, 4] [.pointer (some ⟨g3, 0, none⟩), .int .i64 0] .nil (by kernel_rfl) (fun b14 => ?_)
    refine thn_n ?_
    refine WP.seq ?_
    refine WP.block ?_
    refine WP.loop (fun mz_ e15 w16 => ∃ (k : Nat), mz_ = (c.N + c.K + 2).toNat - 2 * k ∧ (2 * (k : Int) < c.N + c.K + 2) ∧ List.map e15 [1, 4] = [.pointer (some ⟨g3, 0, none⟩), .int .i64 (k : Int)] ∧ Hp w Non [Res.row g3 [.int .i64 c.N, .int .i64 c.K, .int .i64 c.Delta] 60] w16) ((c.N + c.K + 2).toNat - 2 * (0)) ⟨0, rfl, (by omega), by kernel_rfl, hp10⟩ ?_
    rintro _ e15 w16 ⟨k, rfl, hI18, hE19, hp17⟩
    obtain ⟨b20, rfl⟩ := toMk hE19
    clear hE19
    refine WP.seq ?_
    refine WP.seq ?_
    refine WP.pure {} [.int .i64 c.N, .int .i64 c.K] [1, 4, 15] [.pointer (some ⟨g3, 0, none⟩), .int .i64 (k : Int), .bool (decide ((2 * (k : Int)) < (c.N + c.K)))] (.cons (show Rng .i64 (2 * (k : Int)) from Rng.i64 (by omega)) (.cons (Ld.row1 (P := Try.prog) (t := 3) (o := 0) (v := .int .i64 c.N) hp17.get0 (by kernel_rfl)) (.cons (Ld.row1 (P := Try.prog) (t := 3) (o := 1) (v := .int .i64 c.K) hp17.get0 (by kernel_rfl)) (.cons (show Rng .i64 (c.N + c.K) from Rng.i64 (by omega)) .nil)))) (by kernel_rfl) (fun b21 => ?_)
    refine thn_n ?_
    refine WP.test (p := (2 * (k : Int)) < (c.N + c.K)) rfl Bp.dec (fun h22 => ?_) (fun h22 => ?_)
    · refine WP.skip ?_
      refine thn_n ?_
      refine WP.block ?_
      refine WP.pure {} [] [1, 4] [.pointer (some ⟨g3, 0, none⟩), .int .i64 ((k : Int) + 1)] (.cons (show Rng .i64 ((k : Int) + 1) from Rng.i64 (by omega)) .nil) (by kernel_rfl) (fun b23 => ?_)
      refine blk_n ?_
      refine thn_n ?_
      exact ⟨(c.N + c.K + 2).toNat - 2 * (k + 1), (by omega), k + 1, rfl, (by omega), by kernel_rfl, hp17⟩
    · refine WP.exit ?_
      refine thn_x ?_
      refine thn_x ?_
      refine blk_hit ?_
      refine thn_n ?_
      refine WP.seq ?_
      refine WP.pure {} [] [2, 3] [.int .i64 (k : Int), .int .i64 0] .nil (by kernel_rfl) (fun b24 => ?_)
      refine thn_n ?_
      refine WP.ret ?_
      refine bodyQ.of _ rfl [.int .i64 (k : Int), .int .i64 0] ⟨rfl, rfl, trivial⟩ ?_
      exact ⟨by rcases hq0 with ⟨hq1, hq2, hq3⟩ | ⟨hq1, hq2, hq3⟩ <;> first | omega | (rw [show ((k : Int) : Int) = qSize c from by omega]; simp only [pack, hq2]) | (simp [pack, qSize, hq1, hq2]; done), hp17.fr⟩

theorem r_Down (c : GConfig) (w : World) :
    Calls Try.prog 46 #[GConfig.val c] w (fun r_ w' => r_ = .returned (.tuple #[.int .i64 (qDown c), .int .i64 (qChk c)]) ∧ Fram Non w w') := by
  have hq0 := q_cases c
  have hq : (qChk c = 0 ∧ 1 ≤ c.K ∧ c.K ≤ c.N ∧ c.N ≤ 255 ∧ (2 * qSize c = c.N + c.K ∨ 2 * qSize c = c.N + c.K + 1)) ∨ (qChk c = 40 ∧ qSize c = 0) := by rcases hq0 with q | q; exact .inl q.2; exact .inr q.2
  have htd : 0 ≤ c.N + c.K + 1 → (c.N + c.K + 1).tdiv 2 = (c.N + c.K + 1) / 2 := fun h => Int.tdiv_eq_ediv_of_nonneg h
  refine calls_of Try.func46 rfl 18 rfl (by simp) ?_
  have hp0 := Hp.init w
  have he0 : List.map (env0 [GConfig.val c]) [0] = [GConfig.val c] := by kernel_rfl
  obtain ⟨b0, he0⟩ := toMk he0
  rw [he0]
  clear he0
  refine WP.seq ?_
  refine WP.region _ rfl (by kernel_rfl) ?_
  refine OPS.cons (opStep.box hp0 [.int .i64 c.N, .int .i64 c.K, .int .i64 c.Delta] (by kernel_rfl) (fun g3 w1 hp2 => ?_))
  refine OPS.batch 2 {} [] [1] [.pointer (some ⟨g3, 0, none⟩)] .nil (by kernel_rfl) (fun b4 => ?_)
  refine OPS.nil ?_
  refine thn_n ?_
  refine WP.seq ?_
  refine WP.region _ rfl (by kernel_rfl) ?_
  refine OPS.batch 1 {} [GConfig.val c] [1, 7] [.pointer (some ⟨g3, 0, none⟩), GConfig.val c] (.cons (show Ld Try.prog w1 60 ⟨g3, 0, none⟩ (GConfig.val c) from Ld.rowN (cs := [.int .i64 c.N, .int .i64 c.K, .int .i64 c.Delta]) hp2.get0 (by kernel_rfl)) .nil) (by kernel_rfl) (fun b5 => ?_)
  refine OPS.cons (opStep.call (some 8) [GConfig.val c] (by kernel_rfl) (r_Size c _) ?_)
  rintro _ w8 ⟨rfl, hf9⟩
  refine ⟨_, rfl, ?_⟩
  have hp10 := hp2.step hf9
  refine OPS.batch 5 {} [] [1, 4, 5] [.pointer (some ⟨g3, 0, none⟩), .int .i64 (qSize c), .int .i64 (qChk c)] .nil (by kernel_rfl) (fun b11 => ?_)
  refine OPS.nil ?_
  refine thn_n ?_
  refine WP.seq ?_
  refine WP.seq ?_
  refine WP.pure {} [] [1, 4, 5, 12] [.pointer (some ⟨g3, 0, none⟩), .int .i64 (qSize c), .int .i64 (qChk c), .bool (decide (¬ ((qChk c) = 0)))] .nil (by kernel_rfl) (fun b12 => ?_)
  refine thn_n ?_
  refine WP.test (p := ¬ ((qChk c) = 0)) rfl Bp.dec (fun h13 => ?_) (fun h13 => ?_)
  · refine WP.seq ?_
    refine WP.pure {} [] [2, 3] [.int .i64 0, .int .i64 (qChk c)] .nil (by kernel_rfl) (fun b14 => ?_)
    refine thn_n ?_
    refine WP.ret ?_
    refine thn_r ?_
    refine bodyQ.of _ rfl [.int .i64 0, .int .i64 (qChk c)] ⟨rfl, rfl, trivial⟩ ?_
    exact ⟨by rcases hq0 with ⟨hq1, hq2, hq3⟩ | ⟨hq1, hq2, hq3⟩ <;> first | omega | (simp [pack, qDown, hq1, hq2]; done) | (simp [pack, qDown, hq1, hq2, qSize]; done), hp10.fr⟩
  · replace h13 := Classical.not_not.1 h13
    refine WP.skip ?_
    refine thn_n ?_
    refine WP.seq ?_
    refine WP.pure {} [.int .i64 c.N] [2, 3] [.int .i64 (c.N - (qSize c)), .int .i64 0] (.cons (Ld.row1 (P := Try.prog) (t := 3) (o := 0) (v := .int .i64 c.N) hp10.get0 (by kernel_rfl)) (.cons (show Rng .i64 (c.N - (qSize c)) from Rng.i64 (by omega)) .nil)) (by kernel_rfl) (fun b15 => ?_)
    refine thn_n ?_
    refine WP.ret ?_
    refine bodyQ.of _ rfl [.int .i64 (c.N - (qSize c)), .int .i64 0] ⟨rfl, rfl, trivial⟩ ?_
    exact ⟨by rcases hq0 with ⟨hq1, hq2, hq3⟩ | ⟨hq1, hq2, hq3⟩ <;> first | omega | (simp [pack, qDown, hq1, hq2]; done) | (simp [pack, qDown, hq1, hq2, qSize]; done), hp10.fr⟩

theorem r_Common (c : GConfig) (w : World) :
    Calls Try.prog 47 #[GConfig.val c] w (fun r_ w' => r_ = .returned (.tuple #[.int .i64 (qCom c), .int .i64 (qChk c)]) ∧ Fram Non w w') := by
  have hq0 := q_cases c
  have hq : (qChk c = 0 ∧ 1 ≤ c.K ∧ c.K ≤ c.N ∧ c.N ≤ 255 ∧ (2 * qSize c = c.N + c.K ∨ 2 * qSize c = c.N + c.K + 1)) ∨ (qChk c = 40 ∧ qSize c = 0) := by rcases hq0 with q | q; exact .inl q.2; exact .inr q.2
  have htd : 0 ≤ c.N + c.K + 1 → (c.N + c.K + 1).tdiv 2 = (c.N + c.K + 1) / 2 := fun h => Int.tdiv_eq_ediv_of_nonneg h
  refine calls_of Try.func47 rfl 19 rfl (by simp) ?_
  have hp0 := Hp.init w
  have he0 : List.map (env0 [GConfig.val c]) [0] = [GConfig.val c] := by kernel_rfl
  obtain ⟨b0, he0⟩ := toMk he0
  rw [he0]
  clear he0
  refine WP.seq ?_
  refine WP.region _ rfl (by kernel_rfl) ?_
  refine OPS.cons (opStep.box hp0 [.int .i64 c.N, .int .i64 c.K, .int .i64 c.Delta] (by kernel_rfl) (fun g3 w1 hp2 => ?_))
  refine OPS.batch 2 {} [] [1] [.pointer (some ⟨g3, 0, none⟩)] .nil (by kernel_rfl) (fun b4 => ?_)
  refine OPS.nil ?_
  refine thn_n ?_
  refine WP.seq ?_
  refine WP.region _ rfl (by kernel_rfl) ?_
  refine OPS.batch 1 {} [GConfig.val c] [1, 7] [.pointer (some ⟨g3, 0, none⟩), GConfig.val c] (.cons (show Ld Try.prog w1 60 ⟨g3, 0, none⟩ (GConfig.val c) from Ld.rowN (cs := [.int .i64 c.N, .int .i64 c.K, .int .i64 c.Delta]) hp2.get0 (by kernel_rfl)) .nil) (by kernel_rfl) (fun b5 => ?_)
  refine OPS.cons (opStep.call (some 8) [GConfig.val c] (by kernel_rfl) (r_Size c _) ?_)
  rintro _ w8 ⟨rfl, hf9⟩
  refine ⟨_, rfl, ?_⟩
  have hp10 := hp2.step hf9
  refine OPS.batch 5 {} [] [1, 4, 5] [.pointer (some ⟨g3, 0, none⟩), .int .i64 (qSize c), .int .i64 (qChk c)] .nil (by kernel_rfl) (fun b11 => ?_)
  refine OPS.nil ?_
  refine thn_n ?_
  refine WP.seq ?_
  refine WP.seq ?_
  refine WP.pure {} [] [1, 4, 5, 12] [.pointer (some ⟨g3, 0, none⟩), .int .i64 (qSize c), .int .i64 (qChk c), .bool (decide (¬ ((qChk c) = 0)))] .nil (by kernel_rfl) (fun b12 => ?_)
  refine thn_n ?_
  refine WP.test (p := ¬ ((qChk c) = 0)) rfl Bp.dec (fun h13 => ?_) (fun h13 => ?_)
  · refine WP.seq ?_
    refine WP.pure {} [] [2, 3] [.int .i64 0, .int .i64 (qChk c)] .nil (by kernel_rfl) (fun b14 => ?_)
    refine thn_n ?_
    refine WP.ret ?_
    refine thn_r ?_
    refine bodyQ.of _ rfl [.int .i64 0, .int .i64 (qChk c)] ⟨rfl, rfl, trivial⟩ ?_
    exact ⟨by rcases hq0 with ⟨hq1, hq2, hq3⟩ | ⟨hq1, hq2, hq3⟩ <;> first | omega | (simp [pack, qCom, hq1, hq2]; done) | (simp [pack, qCom, hq1, hq2, qSize]; done), hp10.fr⟩
  · replace h13 := Classical.not_not.1 h13
    refine WP.skip ?_
    refine thn_n ?_
    refine WP.seq ?_
    refine WP.pure {} [.int .i64 c.N] [2, 3] [.int .i64 ((2 * (qSize c)) - c.N), .int .i64 0] (.cons (show Rng .i64 (2 * (qSize c)) from Rng.i64 (by omega)) (.cons (Ld.row1 (P := Try.prog) (t := 3) (o := 0) (v := .int .i64 c.N) hp10.get0 (by kernel_rfl)) (.cons (show Rng .i64 ((2 * (qSize c)) - c.N) from Rng.i64 (by omega)) .nil))) (by kernel_rfl) (fun b15 => ?_)
    refine thn_n ?_
    refine WP.ret ?_
    refine bodyQ.of _ rfl [.int .i64 ((2 * (qSize c)) - c.N), .int .i64 0] ⟨rfl, rfl, trivial⟩ ?_
    exact ⟨by rcases hq0 with ⟨hq1, hq2, hq3⟩ | ⟨hq1, hq2, hq3⟩ <;> first | omega | (simp [pack, qCom, hq1, hq2]; done) | (simp [pack, qCom, hq1, hq2, qSize]; done), hp10.fr⟩

theorem q_has (m : Nat) (i : Int) (h0 : 0 ≤ i) (h1 : i < 256) (w : World) :
    Calls Try.prog 83 #[.agg #[.int .u64 ((wd m 0 : Nat) : Int), .int .u64 ((wd m 1 : Nat) : Int), .int .u64 ((wd m 2 : Nat) : Int), .int .u64 ((wd m 3 : Nat) : Int)], .int .i64 i] w (fun r_ w' => ∃ f_, r_ = .returned (.bool f_) ∧ Bp f_ (m.testBit i.toNat = true) ∧ Fram Non w w') := by
  have hi1 : 0 ≤ i.tdiv 64 := Int.tdiv_nonneg h0 (by omega)
  have hi2 : i.tdiv 64 < 4 := by rw [Int.tdiv_eq_ediv_of_nonneg h0]; omega
  have hi3 : 0 ≤ i.tmod 64 := Int.tmod_nonneg _ h0
  have hi4 : i.tmod 64 < 64 := Int.tmod_lt_of_pos _ (by omega)
  refine calls_of Try.func83 rfl 14 rfl (by simp) ?_
  have hp0 := Hp.init w
  have he0 : List.map (env0 [.agg #[.int .u64 ((wd m 0 : Nat) : Int), .int .u64 ((wd m 1 : Nat) : Int), .int .u64 ((wd m 2 : Nat) : Int), .int .u64 ((wd m 3 : Nat) : Int)], .int .i64 i]) [0, 1] = [.agg #[.int .u64 ((wd m 0 : Nat) : Int), .int .u64 ((wd m 1 : Nat) : Int), .int .u64 ((wd m 2 : Nat) : Int), .int .u64 ((wd m 3 : Nat) : Int)], .int .i64 i] := by kernel_rfl
  obtain ⟨b0, he0⟩ := toMk he0
  rw [he0]
  clear he0
  refine WP.seq ?_
  refine WP.region _ rfl (by kernel_rfl) ?_
  refine OPS.cons (opStep.box hp0 [.int .u64 ((wd m 0 : Nat) : Int), .int .u64 ((wd m 1 : Nat) : Int), .int .u64 ((wd m 2 : Nat) : Int), .int .u64 ((wd m 3 : Nat) : Int)] (by kernel_rfl) (fun g3 w1 hp2 => ?_))
  refine OPS.batch 1 {} [] [1, 2] [.int .i64 i, .pointer (some ⟨g3, 0, none⟩)] .nil (by kernel_rfl) (fun b4 => ?_)
  refine OPS.nil ?_
  refine thn_n ?_
  refine WP.seq ?_
  refine WP.pure { subs := [11, 12] } [.int .u64 ((wd m ((i.tdiv 64 : Int).toNat) : Nat) : Int), .int .u64 (((wd m ((i.tdiv 64 : Int).toNat)) >>> (i.tmod 64).toNat : Nat) : Int), .int .u64 ((((wd m ((i.tdiv 64 : Int).toNat)) >>> (i.tmod 64).toNat) &&& 1 : Nat) : Int)] [4] [.bool (decide (((((wd m ((i.tdiv 64 : Int).toNat)) >>> (i.tmod 64).toNat) &&& 1 : Nat) : Int) = 1))] (.cons (show (64 : Int) ≠ 0 from by omega) (.cons (show Rng .i64 (i.tdiv 64) from Rng.i64 (by omega)) (.cons (show InB (i.tdiv 64) (4) from ⟨by omega, by omega⟩) (.cons (Ld.rowAt (P := Try.prog) (t := 129) (o := 0) (i := (i.tdiv 64 : Int).toNat) (v := .int .u64 ((wd m ((i.tdiv 64 : Int).toNat) : Nat) : Int)) hp2.get0 (by kernel_rfl) (wd_row0 (by omega))) (.cons (show (64 : Int) ≠ 0 from by omega) (.cons (show (0 : Int) ≤ (i.tmod 64) from by omega) (.cons (show (.int .u64 (((wd m ((i.tdiv 64 : Int).toNat) : Nat) : Int).fdiv (2 ^ (min (i.tmod 64 : Int).toNat IntKind.u64.bits))) : Go.Value) = .int .u64 (((wd m ((i.tdiv 64 : Int).toNat)) >>> (i.tmod 64).toNat : Nat) : Int) from congrArg (Value.int .u64) (u_shr (a := wd m ((i.tdiv 64 : Int).toNat)) (y := i.tmod 64) (m := IntKind.u64.bits) (show i.tmod 64 ≤ (64 : Int) by omega))) (.cons (show (.int .u64 (IntKind.u64.wrap (BitVec.ofInt IntKind.u64.bits (((wd m ((i.tdiv 64 : Int).toNat)) >>> (i.tmod 64).toNat : Nat) : Int) &&& BitVec.ofInt IntKind.u64.bits 1).toNat) : Go.Value) = .int .u64 ((((wd m ((i.tdiv 64 : Int).toNat)) >>> (i.tmod 64).toNat) &&& 1 : Nat) : Int) from congrArg (Value.int .u64) (u64_and (a := (wd m ((i.tdiv 64 : Int).toNat)) >>> (i.tmod 64).toNat) (b := 1) (shr_lt (wd_lt _ _)) (by decide))) .nil)))))))) (by kernel_rfl) (fun b5 => ?_)
  refine thn_n ?_
  refine WP.ret ?_
  refine bodyQ.of _ rfl [.bool (decide (((((wd m ((i.tdiv 64 : Int).toNat)) >>> (i.tmod 64).toNat) &&& 1 : Nat) : Int) = 1))] ⟨rfl, trivial⟩ ?_
  exact ⟨_, rfl, Bp.of Bp.dec (has_bit h0), hp2.fr⟩

theorem q_known (w0 : World) (L : List Res) (b : Nat) (c : GConfig) (m : Nat) (w : World) (hok : okCfg c) (x : Int) (hp0 : Hp w0 Non (Res.row b [.int .i64 c.N, .int .i64 c.K, .int .i64 c.Delta, .int .u64 ((wd m 0 : Nat) : Int), .int .u64 ((wd m 1 : Nat) : Int), .int .u64 ((wd m 2 : Nat) : Int), .int .u64 ((wd m 3 : Nat) : Int)] 133 :: L) w) :
    Calls Try.prog 82 #[.pointer (some ⟨b, 0, none⟩), .int .i64 x] w (fun r_ w' => ∃ f_, r_ = .returned (.bool f_) ∧ Bp f_ (inN c x) ∧ Hp w0 Non (Res.row b [.int .i64 c.N, .int .i64 c.K, .int .i64 c.Delta, .int .u64 ((wd m 0 : Nat) : Int), .int .u64 ((wd m 1 : Nat) : Int), .int .u64 ((wd m 2 : Nat) : Int), .int .u64 ((wd m 3 : Nat) : Int)] 133 :: L) w') := by
  have hok1 := hok
  unfold okCfg at hok1
  refine calls_of Try.func82 rfl 16 rfl (by simp) ?_
  have he0 : List.map (env0 [.pointer (some ⟨b, 0, none⟩), .int .i64 x]) [0, 1] = [.pointer (some ⟨b, 0, none⟩), .int .i64 x] := by kernel_rfl
  obtain ⟨b0, he0⟩ := toMk he0
  rw [he0]
  clear he0
  refine WP.seq ?_
  refine WP.pure {} [] [0, 1] [.pointer (some ⟨b, 0, none⟩), .int .i64 x] .nil (by kernel_rfl) (fun b1 => ?_)
  refine thn_n ?_
  refine WP.cut (fun e11 w12 => ∃ (x9 : Bool), (True) ∧ Bp x9 ((0 ≤ x) ∧ (x < c.N)) ∧ List.map e11 [4] = [.bool x9] ∧ Hp w0 Non (Res.row b [.int .i64 c.N, .int .i64 c.K, .int .i64 c.Delta, .int .u64 ((wd m 0 : Nat) : Int), .int .u64 ((wd m 1 : Nat) : Int), .int .u64 ((wd m 2 : Nat) : Int), .int .u64 ((wd m 3 : Nat) : Int)] 133 :: L) w12) ?_ ?_
  · refine WP.region _ rfl (by kernel_rfl) ?_
    refine OPS.batch 3 {} [] [0, 1, 7] [.pointer (some ⟨b, 0, none⟩), .int .i64 x, .bool (decide (0 ≤ x))] .nil (by kernel_rfl) (fun b3 => ?_)
    by_cases h4 : 0 ≤ x
    · refine OPS.batch 0 {} [] [0, 1, 7] [.pointer (some ⟨b, 0, none⟩), .int .i64 x, .bool (decide (0 ≤ x))] .nil (by kernel_rfl) (fun b5 => ?_)
      refine OPS.re [.pointer (some ⟨b, 0, none⟩), .int .i64 x, .bool true] (by rw [show (decide (0 ≤ x)) = true from Bp.dec.tt h4]) ?_
      refine OPS.batch 9 { wraps := [15] } [.int .i64 c.N] [4] [.bool (decide (x < c.N))] (.cons (Ld.row1 (P := Try.prog) (t := 3) (o := 0) (v := .int .i64 c.N) hp0.get0 (by kernel_rfl)) .nil) (by kernel_rfl) (fun b6 => ?_)
      refine OPS.nil ?_
      refine thn_n ?_
      exact ⟨decide (x < c.N), trivial, Bp.of Bp.dec (by first | (simp only [h4, iff_false, false_iff, iff_true, true_iff, Classical.not_not, and_true, true_and, and_false, false_and, or_true, true_or, or_false, false_or, not_true_eq_false, not_false_eq_true, and_self, or_self, iff_self]; done) | (simp [h4]; done) | simp_all), by kernel_rfl, hp0⟩
    · refine OPS.batch 0 {} [] [0, 1, 7] [.pointer (some ⟨b, 0, none⟩), .int .i64 x, .bool (decide (0 ≤ x))] .nil (by kernel_rfl) (fun b7 => ?_)
      refine OPS.re [.pointer (some ⟨b, 0, none⟩), .int .i64 x, .bool false] (by rw [show (decide (0 ≤ x)) = false from Bp.dec.ff h4]) ?_
      refine OPS.batch 9 { wraps := [15] } [] [4] [.bool false] .nil (by kernel_rfl) (fun b8 => ?_)
      refine OPS.nil ?_
      refine thn_n ?_
      exact ⟨false, trivial, Bp.of Bp.f (by first | (simp only [h4, iff_false, false_iff, iff_true, true_iff, Classical.not_not, and_true, true_and, and_false, false_and, or_true, true_or, or_false, false_or, not_true_eq_false, not_false_eq_true, and_self, or_self, iff_self]; done) | (simp [h4]; done) | simp_all), by kernel_rfl, hp0⟩
  rintro e11 w12 ⟨x9, hd14, hb10, hE15, hp13⟩
  obtain ⟨b16, rfl⟩ := toMk hE15
  clear hE15
  clear hd14
  refine WP.ret ?_
  refine bodyQ.of _ rfl [.bool x9] ⟨rfl, trivial⟩ ?_
  exact ⟨_, rfl, Bp.of hb10 (by first | (simp only [inN]; done) | simp_all [inN]), hp13⟩

theorem q_Add (w0 : World) (L : List Res) (b : Nat) (c : GConfig) (m : Nat) (w : World) (hok : okCfg c) (x : Int) (hp0 : Hp w0 Non (Res.row b [.int .i64 c.N, .int .i64 c.K, .int .i64 c.Delta, .int .u64 ((wd m 0 : Nat) : Int), .int .u64 ((wd m 1 : Nat) : Int), .int .u64 ((wd m 2 : Nat) : Int), .int .u64 ((wd m 3 : Nat) : Int)] 133 :: L) w) :
    Calls Try.prog 36 #[.pointer (some ⟨b, 0, none⟩), .int .i64 x] w (fun y w' => ∃ f, y = .returned (.tuple #[.bool f, .int .i64 (qErr c x)]) ∧ Bp f (inN c x ∧ m.testBit x.toNat = false) ∧ Hp w0 Non (Res.row b [.int .i64 c.N, .int .i64 c.K, .int .i64 c.Delta, .int .u64 ((wd (qAdd c m x) 0 : Nat) : Int), .int .u64 ((wd (qAdd c m x) 1 : Nat) : Int), .int .u64 ((wd (qAdd c m x) 2 : Nat) : Int), .int .u64 ((wd (qAdd c m x) 3 : Nat) : Int)] 133 :: L) w') := by
  have hok1 := hok
  unfold okCfg at hok1
  have hx1 : inN c x → 0 ≤ x.tdiv 64 := fun h => Int.tdiv_nonneg h.1 (by omega)
  have hx2 : inN c x → x.tdiv 64 < 4 := fun h => by rw [Int.tdiv_eq_ediv_of_nonneg h.1]; have := h.2; omega
  have hx3 : inN c x → 0 ≤ x.tmod 64 := fun h => Int.tmod_nonneg _ h.1
  have hx4 : x.tmod 64 < 64 := Int.tmod_lt_of_pos _ (by omega)
  refine calls_of Try.func36 rfl 35 rfl (by simp) ?_
  have he0 : List.map (env0 [.pointer (some ⟨b, 0, none⟩), .int .i64 x]) [0, 1] = [.pointer (some ⟨b, 0, none⟩), .int .i64 x] := by kernel_rfl
  obtain ⟨b0, he0⟩ := toMk he0
  rw [he0]
  clear he0
  refine WP.seq ?_
  refine WP.pure {} [] [0, 1] [.pointer (some ⟨b, 0, none⟩), .int .i64 x] .nil (by kernel_rfl) (fun b1 => ?_)
  refine thn_n ?_
  refine WP.seq ?_
  refine WP.seq ?_
  refine WP.pure {} [] [0, 1, 8] [.pointer (some ⟨b, 0, none⟩), .int .i64 x, .bool false] .nil (by kernel_rfl) (fun b2 => ?_)
  refine thn_n ?_
  refine WP.condF rfl ?_
  refine WP.skip ?_
  refine thn_n ?_
  refine WP.seq ?_
  refine WP.seq ?_
  refine WP.region _ rfl (by kernel_rfl) ?_
  refine OPS.batch 2 {} [] [0, 1, 9, 10] [.pointer (some ⟨b, 0, none⟩), .int .i64 x, .pointer (some ⟨b, 0, none⟩), .int .i64 x] .nil (by kernel_rfl) (fun b3 => ?_)
  have hp6 := hp0.pull0
  refine OPS.cons (opStep.call (some 11) [.pointer (some ⟨b, 0, none⟩), .int .i64 x] (by kernel_rfl) (q_known _ _ _ c m _ hok x hp6) ?_)
  rintro _ w7 ⟨b10, rfl, hq9, hp8⟩
  refine ⟨_, rfl, ?_⟩
  refine OPS.batch 1 {} [] [0, 1, 12] [.pointer (some ⟨b, 0, none⟩), .int .i64 x, .bool (!b10)] .nil (by kernel_rfl) (fun b11 => ?_)
  refine OPS.nil ?_
  refine thn_n ?_
  refine WP.test (p := ¬ (inN c x)) rfl (Bp.not hq9) (fun h12 => ?_) (fun h12 => ?_)
  · refine WP.seq ?_
    refine WP.pure {} [] [4, 5] [.bool false, .int .i64 51] .nil (by kernel_rfl) (fun b13 => ?_)
    refine thn_n ?_
    refine WP.ret ?_
    refine thn_r ?_
    refine bodyQ.of _ rfl [.bool false, .int .i64 51] ⟨rfl, rfl, trivial⟩ ?_
    exact ⟨_, by simp only [pack, qErr]; rw [if_neg (by first | assumption | simp_all)], Bp.of Bp.f (by simp_all), by unfold qAdd; rw [if_neg (by first | assumption | simp_all)]; exact hp8⟩
  · replace h12 := Classical.not_not.1 h12
    refine WP.skip ?_
    refine thn_n ?_
    refine WP.seq ?_
    refine WP.region _ rfl (by kernel_rfl) ?_
    refine OPS.batch 5 {} [.agg #[.int .u64 ((wd m 0 : Nat) : Int), .int .u64 ((wd m 1 : Nat) : Int), .int .u64 ((wd m 2 : Nat) : Int), .int .u64 ((wd m 3 : Nat) : Int)]] [0, 1, 16, 17] [.pointer (some ⟨b, 0, none⟩), .int .i64 x, .agg #[.int .u64 ((wd m 0 : Nat) : Int), .int .u64 ((wd m 1 : Nat) : Int), .int .u64 ((wd m 2 : Nat) : Int), .int .u64 ((wd m 3 : Nat) : Int)], .int .i64 x] (.cons (show Ld Try.prog w7 131 ⟨b, 3, none⟩ (.agg #[.int .u64 ((wd m 0 : Nat) : Int), .int .u64 ((wd m 1 : Nat) : Int), .int .u64 ((wd m 2 : Nat) : Int), .int .u64 ((wd m 3 : Nat) : Int)]) from Ld.rowN (cs := [.int .u64 ((wd m 0 : Nat) : Int), .int .u64 ((wd m 1 : Nat) : Int), .int .u64 ((wd m 2 : Nat) : Int), .int .u64 ((wd m 3 : Nat) : Int)]) hp8.get0 (by kernel_rfl)) .nil) (by kernel_rfl) (fun b14 => ?_)
    refine OPS.cons (opStep.call (some 18) [.agg #[.int .u64 ((wd m 0 : Nat) : Int), .int .u64 ((wd m 1 : Nat) : Int), .int .u64 ((wd m 2 : Nat) : Int), .int .u64 ((wd m 3 : Nat) : Int)], .int .i64 x] (by kernel_rfl) (q_has m x (by first | omega | (simp only [inN] at *; omega)) (by first | omega | (simp only [inN] at *; omega)) _) ?_)
    rintro _ w17 ⟨b20, rfl, hb21, hf18⟩
    refine ⟨_, rfl, ?_⟩
    have hp19 := hp8.step hf18
    refine OPS.batch 2 {} [] [0, 1, 6] [.pointer (some ⟨b, 0, none⟩), .int .i64 x, .bool (!b20)] .nil (by kernel_rfl) (fun b22 => ?_)
    refine OPS.nil ?_
    refine thn_n ?_
    refine WP.seq ?_
    have hp23 := hp19.drew
    refine WP.held (fun w24 => Ld Try.prog w24 129 ((⟨b, 3, none⟩ : Addr).add ((x.tdiv 64 : Int).toNat * 1)) (.int .u64 ((wd m ((x.tdiv 64 : Int).toNat) : Nat) : Int)) ∧ True) [14] [(0, true), (1, true), (2, true), (3, true), (4, true), (5, true), (6, true), (7, true), (8, true), (9, true), (10, true), (11, false), (12, false), (13, true), (14, false)] (np_thn np_body) (by kernel_rfl) ?_
    refine HOPS.take 11 { wraps := [29], subs := [29, 30] } [.int .u64 ((wd m ((x.tdiv 64 : Int).toNat) : Nat) : Int), .int .u64 ((2 ^ (x.tmod 64).toNat : Nat) : Int), .int .u64 (((wd m ((x.tdiv 64 : Int).toNat)) ||| (2 ^ (x.tmod 64).toNat) : Nat) : Int)] [6, 20, 22, 30] [.bool (!b20), .pointer (some ⟨b, 0, none⟩), .int .i64 (x.tdiv 64), .int .u64 (((wd m ((x.tdiv 64 : Int).toNat)) ||| (2 ^ (x.tmod 64).toNat) : Nat) : Int)] (by kernel_rfl) ⟨(show Ld Try.prog w17.drew 129 ((⟨b, 3, none⟩ : Addr).add ((x.tdiv 64 : Int).toNat * 1)) (.int .u64 ((wd m ((x.tdiv 64 : Int).toNat) : Nat) : Int)) from (Ld.rowAt (P := Try.prog) (t := 129) (o := 3) (i := (x.tdiv 64 : Int).toNat) (v := .int .u64 ((wd m ((x.tdiv 64 : Int).toNat) : Nat) : Int)) hp23.get0 (by kernel_rfl) (wd_row3 (by first | omega | (simp only [inN] at *; omega))))), trivial⟩ (fun w25 hS26 => QB.mk (.cons (show (64 : Int) ≠ 0 from by first | omega | (simp only [inN] at *; omega)) (.cons (show Rng .i64 (x.tdiv 64) from Rng.i64 (by first | omega | (simp only [inN] at *; omega))) (.cons (show InB (x.tdiv 64) (4) from ⟨by first | omega | (simp only [inN] at *; omega), by first | omega | (simp only [inN] at *; omega)⟩) (.cons (hS26.1) (.cons (show (64 : Int) ≠ 0 from by first | omega | (simp only [inN] at *; omega)) (.cons (show (0 : Int) ≤ (x.tmod 64) from by first | omega | (simp only [inN] at *; omega)) (.cons (show (.int .u64 (IntKind.u64.wrap (1 * 2 ^ (min (x.tmod 64 : Int).toNat IntKind.u64.bits))) : Go.Value) = .int .u64 ((2 ^ (x.tmod 64).toNat : Nat) : Int) from congrArg (Value.int .u64) (u64_one (y := x.tmod 64) (by first | omega | (simp only [inN] at *; omega)) (by first | omega | (simp only [inN] at *; omega)))) (.cons (show (.int .u64 (IntKind.u64.wrap (BitVec.ofInt IntKind.u64.bits ((wd m ((x.tdiv 64 : Int).toNat) : Nat) : Int) ||| BitVec.ofInt IntKind.u64.bits ((2 ^ (x.tmod 64).toNat : Nat) : Int)).toNat) : Go.Value) = .int .u64 (((wd m ((x.tdiv 64 : Int).toNat)) ||| (2 ^ (x.tmod 64).toNat) : Nat) : Int) from congrArg (Value.int .u64) (u64_or (a := wd m ((x.tdiv 64 : Int).toNat)) (b := 2 ^ (x.tmod 64).toNat) (wd_lt _ _) (pow_lt64 (by omega)))) .nil)))))))) (by kernel_rfl)) (fun b27 => ?_)
    refine HOPS.one _ rfl {} [] [6, 22, 30, 31] [.bool (!b20), .int .i64 (x.tdiv 64), .int .u64 (((wd m ((x.tdiv 64 : Int).toNat)) ||| (2 ^ (x.tmod 64).toNat) : Nat) : Int), .pointer (some ⟨b, 0, none⟩)] .nil (by kernel_rfl) ⟨(show Ld Try.prog w17.drew 129 ((⟨b, 3, none⟩ : Addr).add ((x.tdiv 64 : Int).toNat * 1)) (.int .u64 ((wd m ((x.tdiv 64 : Int).toNat) : Nat) : Int)) from (Ld.rowAt (P := Try.prog) (t := 129) (o := 3) (i := (x.tdiv 64 : Int).toNat) (v := .int .u64 ((wd m ((x.tdiv 64 : Int).toNat) : Nat) : Int)) hp23.get0 (by kernel_rfl) (wd_row3 (by first | omega | (simp only [inN] at *; omega))))), trivial⟩ (fun b30 => ?_)
    refine HOPS.one _ rfl {} [] [6, 22, 30, 32] [.bool (!b20), .int .i64 (x.tdiv 64), .int .u64 (((wd m ((x.tdiv 64 : Int).toNat)) ||| (2 ^ (x.tmod 64).toNat) : Nat) : Int), .pointer (some ⟨b, 3, none⟩)] .nil (by kernel_rfl) ⟨(show Ld Try.prog w17.drew 129 ((⟨b, 3, none⟩ : Addr).add ((x.tdiv 64 : Int).toNat * 1)) (.int .u64 ((wd m ((x.tdiv 64 : Int).toNat) : Nat) : Int)) from (Ld.rowAt (P := Try.prog) (t := 129) (o := 3) (i := (x.tdiv 64 : Int).toNat) (v := .int .u64 ((wd m ((x.tdiv 64 : Int).toNat) : Nat) : Int)) hp23.get0 (by kernel_rfl) (wd_row3 (by first | omega | (simp only [inN] at *; omega))))), trivial⟩ (fun b33 => ?_)
    refine HOPS.take 1 {} [] [6, 30, 33] [.bool (!b20), .int .u64 (((wd m ((x.tdiv 64 : Int).toNat)) ||| (2 ^ (x.tmod 64).toNat) : Nat) : Int), .pointer (some ((⟨b, 3, none⟩ : Addr).add ((x.tdiv 64 : Int).toNat * 1)))] (by kernel_rfl) ⟨(show Ld Try.prog w17.drew 129 ((⟨b, 3, none⟩ : Addr).add ((x.tdiv 64 : Int).toNat * 1)) (.int .u64 ((wd m ((x.tdiv 64 : Int).toNat) : Nat) : Int)) from (Ld.rowAt (P := Try.prog) (t := 129) (o := 3) (i := (x.tdiv 64 : Int).toNat) (v := .int .u64 ((wd m ((x.tdiv 64 : Int).toNat) : Nat) : Int)) hp23.get0 (by kernel_rfl) (wd_row3 (by first | omega | (simp only [inN] at *; omega))))), trivial⟩ (fun w34 hS35 => QB.mk (.cons (show InB (x.tdiv 64) (4) from ⟨by first | omega | (simp only [inN] at *; omega), by first | omega | (simp only [inN] at *; omega)⟩) .nil) (by kernel_rfl)) (fun b36 => ?_)
    have hp39 := hp23.pull0
    refine HOPS.eff _ rfl (opStep.storeAt (o := 3) (i := (x.tdiv 64 : Int).toNat) hp39 rfl (.int .u64 (((wd m ((x.tdiv 64 : Int).toNat)) ||| (2 ^ (x.tmod 64).toNat) : Nat) : Int)) [.int .i64 c.N, .int .i64 c.K, .int .i64 c.Delta, .int .u64 ((wd (m ||| 2 ^ (x).toNat) 0 : Nat) : Int), .int .u64 ((wd (m ||| 2 ^ (x).toNat) 1 : Nat) : Int), .int .u64 ((wd (m ||| 2 ^ (x).toNat) 2 : Nat) : Int), .int .u64 ((wd (m ||| 2 ^ (x).toNat) 3 : Nat) : Int)] (by kernel_rfl) (show 3 + ((x.tdiv 64 : Int).toNat) < 7 by first | omega | (simp only [inN] at *; omega)) (ow_wd3 (x := x) (by first | omega | (simp only [inN] at *; omega)) (by first | omega | (simp only [inN] at *; omega))) (fun w37 hp38 => ?_))
    refine ⟨.inl rfl, ?_⟩
    refine HOPS.nil ?_
    refine thn_n ?_
    refine WP.seq ?_
    refine WP.pure {} [] [4, 5] [.bool (!b20), .int .i64 0] .nil (by kernel_rfl) (fun b40 => ?_)
    refine thn_n ?_
    refine WP.ret ?_
    refine bodyQ.of _ rfl [.bool (!b20), .int .i64 0] ⟨rfl, rfl, trivial⟩ ?_
    have hin1 : inN c x := by first | assumption | (simp only [inN]; omega) | simp_all
    exact ⟨_, by simp only [pack, qErr]; rw [if_pos hin1], Bp.of (Bp.not hb21) (by simp [hin1]), by unfold qAdd; rw [if_pos hin1]; exact hp38⟩

theorem q_Has (w0 : World) (L : List Res) (b : Nat) (c : GConfig) (m : Nat) (w : World) (hok : okCfg c) (x : Int) (hp0 : Hp w0 Non (Res.row b [.int .i64 c.N, .int .i64 c.K, .int .i64 c.Delta, .int .u64 ((wd m 0 : Nat) : Int), .int .u64 ((wd m 1 : Nat) : Int), .int .u64 ((wd m 2 : Nat) : Int), .int .u64 ((wd m 3 : Nat) : Int)] 133 :: L) w) :
    Calls Try.prog 37 #[.pointer (some ⟨b, 0, none⟩), .int .i64 x] w (fun r_ w' => ∃ f_, r_ = .returned (.bool f_) ∧ Bp f_ (inN c x ∧ m.testBit x.toNat = true) ∧ Hp w0 Non (Res.row b [.int .i64 c.N, .int .i64 c.K, .int .i64 c.Delta, .int .u64 ((wd m 0 : Nat) : Int), .int .u64 ((wd m 1 : Nat) : Int), .int .u64 ((wd m 2 : Nat) : Int), .int .u64 ((wd m 3 : Nat) : Int)] 133 :: L) w') := by
  have hok1 := hok
  unfold okCfg at hok1
  refine calls_of Try.func37 rfl 20 rfl (by simp) ?_
  have he0 : List.map (env0 [.pointer (some ⟨b, 0, none⟩), .int .i64 x]) [0, 1] = [.pointer (some ⟨b, 0, none⟩), .int .i64 x] := by kernel_rfl
  obtain ⟨b0, he0⟩ := toMk he0
  rw [he0]
  clear he0
  refine WP.seq ?_
  refine WP.pure {} [] [0, 1] [.pointer (some ⟨b, 0, none⟩), .int .i64 x] .nil (by kernel_rfl) (fun b1 => ?_)
  refine thn_n ?_
  refine WP.cut (fun e25 w26 => ∃ (x23 : Bool), (True) ∧ Bp x23 ((inN c x) ∧ (m.testBit (x).toNat = true)) ∧ List.map e25 [4] = [.bool x23] ∧ Hp w0 Non (Res.row b [.int .i64 c.N, .int .i64 c.K, .int .i64 c.Delta, .int .u64 ((wd m 0 : Nat) : Int), .int .u64 ((wd m 1 : Nat) : Int), .int .u64 ((wd m 2 : Nat) : Int), .int .u64 ((wd m 3 : Nat) : Int)] 133 :: L) w26) ?_ ?_
  · refine WP.region _ rfl (by kernel_rfl) ?_
    refine OPS.batch 5 {} [] [0, 1, 7, 8, 9] [.pointer (some ⟨b, 0, none⟩), .int .i64 x, .bool true, .pointer (some ⟨b, 0, none⟩), .int .i64 x] .nil (by kernel_rfl) (fun b3 => ?_)
    refine OPS.want (by kernel_rfl) ?_
    have hp6 := hp0.pull0
    refine OPS.cons (opStep.call (some 10) [.pointer (some ⟨b, 0, none⟩), .int .i64 x] (by kernel_rfl) (q_known _ _ _ c m _ hok x hp6) ?_)
    rintro _ w7 ⟨b10, rfl, hq9, hp8⟩
    refine ⟨_, rfl, ?_⟩
    refine OPS.batch 2 { wraps := [11] } [] [0, 1, 12] [.pointer (some ⟨b, 0, none⟩), .int .i64 x, .bool b10] .nil (by kernel_rfl) (fun b11 => ?_)
    by_cases h12 : inN c x
    · rw [show b10 = true from hq9.tt h12]
      refine OPS.batch 5 {} [.agg #[.int .u64 ((wd m 0 : Nat) : Int), .int .u64 ((wd m 1 : Nat) : Int), .int .u64 ((wd m 2 : Nat) : Int), .int .u64 ((wd m 3 : Nat) : Int)]] [12, 16, 17] [.bool true, .agg #[.int .u64 ((wd m 0 : Nat) : Int), .int .u64 ((wd m 1 : Nat) : Int), .int .u64 ((wd m 2 : Nat) : Int), .int .u64 ((wd m 3 : Nat) : Int)], .int .i64 x] (.cons (show Ld Try.prog w7 131 ⟨b, 3, none⟩ (.agg #[.int .u64 ((wd m 0 : Nat) : Int), .int .u64 ((wd m 1 : Nat) : Int), .int .u64 ((wd m 2 : Nat) : Int), .int .u64 ((wd m 3 : Nat) : Int)]) from Ld.rowN (cs := [.int .u64 ((wd m 0 : Nat) : Int), .int .u64 ((wd m 1 : Nat) : Int), .int .u64 ((wd m 2 : Nat) : Int), .int .u64 ((wd m 3 : Nat) : Int)]) hp8.get0 (by kernel_rfl)) .nil) (by kernel_rfl) (fun b13 => ?_)
      refine OPS.want (by kernel_rfl) ?_
      refine OPS.cons (opStep.call (some 18) [.agg #[.int .u64 ((wd m 0 : Nat) : Int), .int .u64 ((wd m 1 : Nat) : Int), .int .u64 ((wd m 2 : Nat) : Int), .int .u64 ((wd m 3 : Nat) : Int)], .int .i64 x] (by kernel_rfl) (q_has m x (by first | omega | (simp only [inN] at *; omega)) (by first | omega | (simp only [inN] at *; omega)) _) ?_)
      rintro _ w16 ⟨b19, rfl, hb20, hf17⟩
      refine ⟨_, rfl, ?_⟩
      have hp18 := hp8.step hf17
      refine OPS.batch 2 { wraps := [19] } [] [4] [.bool b19] .nil (by kernel_rfl) (fun b21 => ?_)
      refine OPS.nil ?_
      refine thn_n ?_
      exact ⟨b19, trivial, Bp.of hb20 (by first | (simp only [h12, iff_false, false_iff, iff_true, true_iff, Classical.not_not, and_true, true_and, and_false, false_and, or_true, true_or, or_false, false_or, not_true_eq_false, not_false_eq_true, and_self, or_self, iff_self]; done) | (simp [h12]; done) | simp_all), by kernel_rfl, hp18⟩
    · rw [show b10 = false from hq9.ff h12]
      refine OPS.batch 8 { wraps := [19] } [] [4] [.bool false] .nil (by kernel_rfl) (fun b22 => ?_)
      refine OPS.nil ?_
      refine thn_n ?_
      exact ⟨false, trivial, Bp.of Bp.f (by first | (simp only [h12, iff_false, false_iff, iff_true, true_iff, Classical.not_not, and_true, true_and, and_false, false_and, or_true, true_or, or_false, false_or, not_true_eq_false, not_false_eq_true, and_self, or_self, iff_self]; done) | (simp [h12]; done) | simp_all), by kernel_rfl, hp8⟩
  rintro e25 w26 ⟨x23, hd28, hb24, hE29, hp27⟩
  obtain ⟨b30, rfl⟩ := toMk hE29
  clear hE29
  clear hd28
  refine WP.ret ?_
  refine bodyQ.of _ rfl [.bool x23] ⟨rfl, trivial⟩ ?_
  exact ⟨_, rfl, Bp.of hb24 (by simp_all), hp27⟩

theorem bits_Ones (x : Nat) (hx : x < 18446744073709551616) (w : World) :
    Calls Try.prog 85 #[.int .u64 ((x : Nat) : Int)] w (fun r_ w' => r_ = .returned (.int .i64 ((cntB x 64 : Nat) : Int)) ∧ Fram Non w w') := by
  refine calls_of Try.func85 rfl 35 rfl (by simp) ?_
  have hp0 := Hp.init w
  have he0 : List.map (env0 [.int .u64 ((x : Nat) : Int)]) [0] = [.int .u64 ((x : Nat) : Int)] := by kernel_rfl
  obtain ⟨b0, he0⟩ := toMk he0
  rw [he0]
  clear he0
  refine WP.seq ?_
  refine WP.pure {} [] [0] [.int .u64 ((x : Nat) : Int)] .nil (by kernel_rfl) (fun b1 => ?_)
  refine thn_n ?_
  refine WP.seq ?_
  refine WP.pure { wraps := [8], subs := [4, 5, 7, 8] } [.int .u64 ((x >>> 1 : Nat) : Int), .int .u64 (((x >>> 1) &&& 6148914691236517205 : Nat) : Int), .int .u64 ((x &&& 6148914691236517205 : Nat) : Int), .int .u64 (((((x >>> 1) &&& 6148914691236517205) + (x &&& 6148914691236517205)) % 18446744073709551616 : Nat) : Int)] [0] [.int .u64 (((((x >>> 1) &&& 6148914691236517205) + (x &&& 6148914691236517205)) % 18446744073709551616 : Nat) : Int)] (.cons (show (0 : Int) ≤ 1 from by omega) (.cons (show (.int .u64 (((x : Nat) : Int).fdiv (2 ^ (min (1 : Int).toNat IntKind.u64.bits))) : Go.Value) = .int .u64 ((x >>> 1 : Nat) : Int) from congrArg (Value.int .u64) (u_shr (a := x) (y := 1) (m := IntKind.u64.bits) (show (1 : Int) ≤ (64 : Int) by omega))) (.cons (show (.int .u64 (IntKind.u64.wrap (BitVec.ofInt IntKind.u64.bits ((x >>> 1 : Nat) : Int) &&& BitVec.ofInt IntKind.u64.bits 6148914691236517205).toNat) : Go.Value) = .int .u64 (((x >>> 1) &&& 6148914691236517205 : Nat) : Int) from congrArg (Value.int .u64) (u64_and (a := x >>> 1) (b := 6148914691236517205) (shr_lt hx) (by decide))) (.cons (show (.int .u64 (IntKind.u64.wrap (BitVec.ofInt IntKind.u64.bits ((x : Nat) : Int) &&& BitVec.ofInt IntKind.u64.bits 6148914691236517205).toNat) : Go.Value) = .int .u64 ((x &&& 6148914691236517205 : Nat) : Int) from congrArg (Value.int .u64) (u64_and (a := x) (b := 6148914691236517205) hx (by decide))) (.cons (show (.int .u64 (IntKind.u64.wrap ((((x >>> 1) &&& 6148914691236517205 : Nat) : Int) + ((x &&& 6148914691236517205 : Nat) : Int))) : Go.Value) = .int .u64 (((((x >>> 1) &&& 6148914691236517205) + (x &&& 6148914691236517205)) % 18446744073709551616 : Nat) : Int) from congrArg (Value.int .u64) (u64_add (a := (x >>> 1) &&& 6148914691236517205) (b := x &&& 6148914691236517205))) .nil))))) (by kernel_rfl) (fun b2 => ?_)
  have hlhx4 : (((x >>> 1) &&& 6148914691236517205) + (x &&& 6148914691236517205)) % 18446744073709551616 < 18446744073709551616 := (Nat.mod_lt _ (by decide))
  generalize hx4 : (((x >>> 1) &&& 6148914691236517205) + (x &&& 6148914691236517205)) % 18446744073709551616 = x3 at hlhx4 ⊢
  refine thn_n ?_
  refine WP.seq ?_
  refine WP.pure { wraps := [14], subs := [10, 11, 13, 14] } [.int .u64 ((x3 >>> 2 : Nat) : Int), .int .u64 (((x3 >>> 2) &&& 3689348814741910323 : Nat) : Int), .int .u64 ((x3 &&& 3689348814741910323 : Nat) : Int), .int .u64 (((((x3 >>> 2) &&& 3689348814741910323) + (x3 &&& 3689348814741910323)) % 18446744073709551616 : Nat) : Int)] [0] [.int .u64 (((((x3 >>> 2) &&& 3689348814741910323) + (x3 &&& 3689348814741910323)) % 18446744073709551616 : Nat) : Int)] (.cons (show (0 : Int) ≤ 2 from by omega) (.cons (show (.int .u64 (((x3 : Nat) : Int).fdiv (2 ^ (min (2 : Int).toNat IntKind.u64.bits))) : Go.Value) = .int .u64 ((x3 >>> 2 : Nat) : Int) from congrArg (Value.int .u64) (u_shr (a := x3) (y := 2) (m := IntKind.u64.bits) (show (2 : Int) ≤ (64 : Int) by omega))) (.cons (show (.int .u64 (IntKind.u64.wrap (BitVec.ofInt IntKind.u64.bits ((x3 >>> 2 : Nat) : Int) &&& BitVec.ofInt IntKind.u64.bits 3689348814741910323).toNat) : Go.Value) = .int .u64 (((x3 >>> 2) &&& 3689348814741910323 : Nat) : Int) from congrArg (Value.int .u64) (u64_and (a := x3 >>> 2) (b := 3689348814741910323) (shr_lt hlhx4) (by decide))) (.cons (show (.int .u64 (IntKind.u64.wrap (BitVec.ofInt IntKind.u64.bits ((x3 : Nat) : Int) &&& BitVec.ofInt IntKind.u64.bits 3689348814741910323).toNat) : Go.Value) = .int .u64 ((x3 &&& 3689348814741910323 : Nat) : Int) from congrArg (Value.int .u64) (u64_and (a := x3) (b := 3689348814741910323) hlhx4 (by decide))) (.cons (show (.int .u64 (IntKind.u64.wrap ((((x3 >>> 2) &&& 3689348814741910323 : Nat) : Int) + ((x3 &&& 3689348814741910323 : Nat) : Int))) : Go.Value) = .int .u64 (((((x3 >>> 2) &&& 3689348814741910323) + (x3 &&& 3689348814741910323)) % 18446744073709551616 : Nat) : Int) from congrArg (Value.int .u64) (u64_add (a := (x3 >>> 2) &&& 3689348814741910323) (b := x3 &&& 3689348814741910323))) .nil))))) (by kernel_rfl) (fun b5 => ?_)
  have hlhx7 : (((x3 >>> 2) &&& 3689348814741910323) + (x3 &&& 3689348814741910323)) % 18446744073709551616 < 18446744073709551616 := (Nat.mod_lt _ (by decide))
  generalize hx7 : (((x3 >>> 2) &&& 3689348814741910323) + (x3 &&& 3689348814741910323)) % 18446744073709551616 = x6 at hlhx7 ⊢
  refine thn_n ?_
  refine WP.seq ?_
  refine WP.pure { wraps := [18], subs := [16, 18, 19] } [.int .u64 ((x6 >>> 4 : Nat) : Int), .int .u64 ((((x6 >>> 4) + x6) % 18446744073709551616 : Nat) : Int), .int .u64 (((((x6 >>> 4) + x6) % 18446744073709551616) &&& 1085102592571150095 : Nat) : Int)] [0] [.int .u64 (((((x6 >>> 4) + x6) % 18446744073709551616) &&& 1085102592571150095 : Nat) : Int)] (.cons (show (0 : Int) ≤ 4 from by omega) (.cons (show (.int .u64 (((x6 : Nat) : Int).fdiv (2 ^ (min (4 : Int).toNat IntKind.u64.bits))) : Go.Value) = .int .u64 ((x6 >>> 4 : Nat) : Int) from congrArg (Value.int .u64) (u_shr (a := x6) (y := 4) (m := IntKind.u64.bits) (show (4 : Int) ≤ (64 : Int) by omega))) (.cons (show (.int .u64 (IntKind.u64.wrap (((x6 >>> 4 : Nat) : Int) + ((x6 : Nat) : Int))) : Go.Value) = .int .u64 ((((x6 >>> 4) + x6) % 18446744073709551616 : Nat) : Int) from congrArg (Value.int .u64) (u64_add (a := x6 >>> 4) (b := x6))) (.cons (show (.int .u64 (IntKind.u64.wrap (BitVec.ofInt IntKind.u64.bits ((((x6 >>> 4) + x6) % 18446744073709551616 : Nat) : Int) &&& BitVec.ofInt IntKind.u64.bits 1085102592571150095).toNat) : Go.Value) = .int .u64 (((((x6 >>> 4) + x6) % 18446744073709551616) &&& 1085102592571150095 : Nat) : Int) from congrArg (Value.int .u64) (u64_and (a := ((x6 >>> 4) + x6) % 18446744073709551616) (b := 1085102592571150095) (Nat.mod_lt _ (by decide)) (by decide))) .nil)))) (by kernel_rfl) (fun b8 => ?_)
  have hlhx10 : (((x6 >>> 4) + x6) % 18446744073709551616) &&& 1085102592571150095 < 18446744073709551616 := (and_lt (Nat.mod_lt _ (by decide)))
  generalize hx10 : (((x6 >>> 4) + x6) % 18446744073709551616) &&& 1085102592571150095 = x9 at hlhx10 ⊢
  refine thn_n ?_
  refine WP.seq ?_
  refine WP.pure { wraps := [23], subs := [22, 23] } [.int .u64 ((x9 >>> 8 : Nat) : Int), .int .u64 (((x9 + (x9 >>> 8)) % 18446744073709551616 : Nat) : Int)] [0] [.int .u64 (((x9 + (x9 >>> 8)) % 18446744073709551616 : Nat) : Int)] (.cons (show (0 : Int) ≤ 8 from by omega) (.cons (show (.int .u64 (((x9 : Nat) : Int).fdiv (2 ^ (min (8 : Int).toNat IntKind.u64.bits))) : Go.Value) = .int .u64 ((x9 >>> 8 : Nat) : Int) from congrArg (Value.int .u64) (u_shr (a := x9) (y := 8) (m := IntKind.u64.bits) (show (8 : Int) ≤ (64 : Int) by omega))) (.cons (show (.int .u64 (IntKind.u64.wrap (((x9 : Nat) : Int) + ((x9 >>> 8 : Nat) : Int))) : Go.Value) = .int .u64 (((x9 + (x9 >>> 8)) % 18446744073709551616 : Nat) : Int) from congrArg (Value.int .u64) (u64_add (a := x9) (b := x9 >>> 8))) .nil))) (by kernel_rfl) (fun b11 => ?_)
  have hlhx13 : (x9 + (x9 >>> 8)) % 18446744073709551616 < 18446744073709551616 := (Nat.mod_lt _ (by decide))
  generalize hx13 : (x9 + (x9 >>> 8)) % 18446744073709551616 = x12 at hlhx13 ⊢
  refine thn_n ?_
  refine WP.seq ?_
  refine WP.pure { wraps := [27], subs := [26, 27] } [.int .u64 ((x12 >>> 16 : Nat) : Int), .int .u64 (((x12 + (x12 >>> 16)) % 18446744073709551616 : Nat) : Int)] [0] [.int .u64 (((x12 + (x12 >>> 16)) % 18446744073709551616 : Nat) : Int)] (.cons (show (0 : Int) ≤ 16 from by omega) (.cons (show (.int .u64 (((x12 : Nat) : Int).fdiv (2 ^ (min (16 : Int).toNat IntKind.u64.bits))) : Go.Value) = .int .u64 ((x12 >>> 16 : Nat) : Int) from congrArg (Value.int .u64) (u_shr (a := x12) (y := 16) (m := IntKind.u64.bits) (show (16 : Int) ≤ (64 : Int) by omega))) (.cons (show (.int .u64 (IntKind.u64.wrap (((x12 : Nat) : Int) + ((x12 >>> 16 : Nat) : Int))) : Go.Value) = .int .u64 (((x12 + (x12 >>> 16)) % 18446744073709551616 : Nat) : Int) from congrArg (Value.int .u64) (u64_add (a := x12) (b := x12 >>> 16))) .nil))) (by kernel_rfl) (fun b14 => ?_)
  have hlhx16 : (x12 + (x12 >>> 16)) % 18446744073709551616 < 18446744073709551616 := (Nat.mod_lt _ (by decide))
  generalize hx16 : (x12 + (x12 >>> 16)) % 18446744073709551616 = x15 at hlhx16 ⊢
  refine thn_n ?_
  refine WP.seq ?_
  refine WP.pure { wraps := [31], subs := [30, 31] } [.int .u64 ((x15 >>> 32 : Nat) : Int), .int .u64 (((x15 + (x15 >>> 32)) % 18446744073709551616 : Nat) : Int)] [0] [.int .u64 (((x15 + (x15 >>> 32)) % 18446744073709551616 : Nat) : Int)] (.cons (show (0 : Int) ≤ 32 from by omega) (.cons (show (.int .u64 (((x15 : Nat) : Int).fdiv (2 ^ (min (32 : Int).toNat IntKind.u64.bits))) : Go.Value) = .int .u64 ((x15 >>> 32 : Nat) : Int) from congrArg (Value.int .u64) (u_shr (a := x15) (y := 32) (m := IntKind.u64.bits) (show (32 : Int) ≤ (64 : Int) by omega))) (.cons (show (.int .u64 (IntKind.u64.wrap (((x15 : Nat) : Int) + ((x15 >>> 32 : Nat) : Int))) : Go.Value) = .int .u64 (((x15 + (x15 >>> 32)) % 18446744073709551616 : Nat) : Int) from congrArg (Value.int .u64) (u64_add (a := x15) (b := x15 >>> 32))) .nil))) (by kernel_rfl) (fun b17 => ?_)
  have hlhx19 : (x15 + (x15 >>> 32)) % 18446744073709551616 < 18446744073709551616 := (Nat.mod_lt _ (by decide))
  generalize hx19 : (x15 + (x15 >>> 32)) % 18446744073709551616 = x18 at hlhx19 ⊢
  refine thn_n ?_
  refine WP.seq ?_
  refine WP.pure { wraps := [33] } [] [2] [.int .i64 (IntKind.i64.wrap (BitVec.ofInt IntKind.i64.bits (IntKind.i64.wrap ((x18 : Nat) : Int)) &&& BitVec.ofInt IntKind.i64.bits 127).toNat)] .nil (by kernel_rfl) (fun b20 => ?_)
  refine thn_n ?_
  refine WP.ret ?_
  refine bodyQ.of _ rfl [.int .i64 (IntKind.i64.wrap (BitVec.ofInt IntKind.i64.bits (IntKind.i64.wrap ((x18 : Nat) : Int)) &&& BitVec.ofInt IntKind.i64.bits 127).toNat)] ⟨rfl, trivial⟩ ?_
  obtain ⟨q1, q2⟩ := pop_steps hx hx4.symm hx7.symm hx10.symm hx13.symm hx16.symm hx19.symm
  exact ⟨by simp only [pack]; rw [show IntKind.i64.wrap (BitVec.ofInt IntKind.i64.bits (IntKind.i64.wrap ((x18 : Nat) : Int)) &&& BitVec.ofInt IntKind.i64.bits 127).toNat = ((cntB x 64 : Nat) : Int) from by rw [pop_last q2, q1]], hp0.fr⟩

theorem q_Len (w0 : World) (L : List Res) (b : Nat) (c : GConfig) (m : Nat) (w : World) (hok : okCfg c)  (hp0 : Hp w0 Non (Res.row b [.int .i64 c.N, .int .i64 c.K, .int .i64 c.Delta, .int .u64 ((wd m 0 : Nat) : Int), .int .u64 ((wd m 1 : Nat) : Int), .int .u64 ((wd m 2 : Nat) : Int), .int .u64 ((wd m 3 : Nat) : Int)] 133 :: L) w) :
    Calls Try.prog 42 #[.pointer (some ⟨b, 0, none⟩)] w (fun x w' => x = .returned (.int .i64 ((cntB m 256 : Nat) : Int)) ∧ Hp w0 Non (Res.row b [.int .i64 c.N, .int .i64 c.K, .int .i64 c.Delta, .int .u64 ((wd m 0 : Nat) : Int), .int .u64 ((wd m 1 : Nat) : Int), .int .u64 ((wd m 2 : Nat) : Int), .int .u64 ((wd m 3 : Nat) : Int)] 133 :: L) w') := by
  have hok1 := hok
  unfold okCfg at hok1
  have e0 := cntB_le (wd m 0) 64
  have e1 := cntB_le (wd m 1) 64
  have e2 := cntB_le (wd m 2) 64
  have e3 := cntB_le (wd m 3) 64
  have e4 := cntB_words m
  refine calls_of Try.func42 rfl 21 rfl (by simp) ?_
  have he0 : List.map (env0 [.pointer (some ⟨b, 0, none⟩)]) [0] = [.pointer (some ⟨b, 0, none⟩)] := by kernel_rfl
  obtain ⟨b0, he0⟩ := toMk he0
  rw [he0]
  clear he0
  refine WP.seq ?_
  refine WP.pure {} [] [0] [.pointer (some ⟨b, 0, none⟩)] .nil (by kernel_rfl) (fun b1 => ?_)
  refine thn_n ?_
  refine WP.seq ?_
  refine WP.pure {} [] [0, 3] [.pointer (some ⟨b, 0, none⟩), .int .i64 0] .nil (by kernel_rfl) (fun b2 => ?_)
  refine thn_n ?_
  refine WP.seq ?_
  refine WP.seq ?_
  refine WP.pure {} [] [0, 3, 7] [.pointer (some ⟨b, 0, none⟩), .int .i64 0, .bool true] .nil (by kernel_rfl) (fun b3 => ?_)
  refine thn_n ?_
  refine WP.condT rfl ?_
  refine WP.seq ?_
  refine WP.pure {} [.agg #[.int .u64 ((wd m 0 : Nat) : Int), .int .u64 ((wd m 1 : Nat) : Int), .int .u64 ((wd m 2 : Nat) : Int), .int .u64 ((wd m 3 : Nat) : Int)]] [3, 11, 12] [.int .i64 0, .agg #[.int .u64 ((wd m 0 : Nat) : Int), .int .u64 ((wd m 1 : Nat) : Int), .int .u64 ((wd m 2 : Nat) : Int), .int .u64 ((wd m 3 : Nat) : Int)], .int .i64 0] (.cons (show Ld Try.prog w 131 ⟨b, 3, none⟩ (.agg #[.int .u64 ((wd m 0 : Nat) : Int), .int .u64 ((wd m 1 : Nat) : Int), .int .u64 ((wd m 2 : Nat) : Int), .int .u64 ((wd m 3 : Nat) : Int)]) from Ld.rowN (cs := [.int .u64 ((wd m 0 : Nat) : Int), .int .u64 ((wd m 1 : Nat) : Int), .int .u64 ((wd m 2 : Nat) : Int), .int .u64 ((wd m 3 : Nat) : Int)]) hp0.get0 (by kernel_rfl)) .nil) (by kernel_rfl) (fun b4 => ?_)
  refine thn_n ?_
  refine WP.block ?_
  refine WP.rounds 5 ?_
  refine RND.step ?_
  refine WP.seq ?_
  refine WP.pure {} [] [3, 11, 12, 13] [.int .i64 0, .agg #[.int .u64 ((wd m 0 : Nat) : Int), .int .u64 ((wd m 1 : Nat) : Int), .int .u64 ((wd m 2 : Nat) : Int), .int .u64 ((wd m 3 : Nat) : Int)], .int .i64 0, .bool true] .nil (by kernel_rfl) (fun b5 => ?_)
  refine thn_n ?_
  refine WP.seq ?_
  refine WP.condT rfl ?_
  refine WP.skip ?_
  refine thn_n ?_
  refine WP.seq ?_
  refine WP.block ?_
  refine WP.seq ?_
  refine WP.pure {} [.int .u64 ((wd m 0 : Nat) : Int)] [3, 5, 11, 12] [.int .i64 0, .int .u64 ((wd m 0 : Nat) : Int), .agg #[.int .u64 ((wd m 0 : Nat) : Int), .int .u64 ((wd m 1 : Nat) : Int), .int .u64 ((wd m 2 : Nat) : Int), .int .u64 ((wd m 3 : Nat) : Int)], .int .i64 0] (.cons (show InB 0 4 ∧ partV Try.prog 129 #[.int .u64 ((wd m 0 : Nat) : Int), .int .u64 ((wd m 1 : Nat) : Int), .int .u64 ((wd m 2 : Nat) : Int), .int .u64 ((wd m 3 : Nat) : Int)] (0 * 1) = some (.int .u64 ((wd m 0 : Nat) : Int)) from ⟨⟨by decide, by decide⟩, by kernel_rfl⟩) .nil) (by kernel_rfl) (fun b6 => ?_)
  refine thn_n ?_
  refine WP.region _ rfl (by kernel_rfl) ?_
  refine OPS.batch 2 {} [] [11, 12, 15, 16] [.agg #[.int .u64 ((wd m 0 : Nat) : Int), .int .u64 ((wd m 1 : Nat) : Int), .int .u64 ((wd m 2 : Nat) : Int), .int .u64 ((wd m 3 : Nat) : Int)], .int .i64 0, .int .i64 0, .int .u64 ((wd m 0 : Nat) : Int)] .nil (by kernel_rfl) (fun b7 => ?_)
  refine OPS.cons (opStep.call (some 17) [.int .u64 ((wd m 0 : Nat) : Int)] (by kernel_rfl) (bits_Ones (wd m 0) (wd_lt _ _) _) ?_)
  rintro _ w10 ⟨rfl, hf11⟩
  refine ⟨_, rfl, ?_⟩
  have hp12 := hp0.step hf11
  refine OPS.batch 2 {} [] [3, 11, 12] [.int .i64 (0 + ((cntB (wd m 0) 64 : Nat) : Int)), .agg #[.int .u64 ((wd m 0 : Nat) : Int), .int .u64 ((wd m 1 : Nat) : Int), .int .u64 ((wd m 2 : Nat) : Int), .int .u64 ((wd m 3 : Nat) : Int)], .int .i64 0] (.cons (show Rng .i64 (0 + ((cntB (wd m 0) 64 : Nat) : Int)) from Rng.i64 (by omega)) .nil) (by kernel_rfl) (fun b13 => ?_)
  refine OPS.nil ?_
  refine blk_n ?_
  refine thn_n ?_
  refine WP.pure {} [] [3, 11, 12] [.int .i64 (0 + ((cntB (wd m 0) 64 : Nat) : Int)), .agg #[.int .u64 ((wd m 0 : Nat) : Int), .int .u64 ((wd m 1 : Nat) : Int), .int .u64 ((wd m 2 : Nat) : Int), .int .u64 ((wd m 3 : Nat) : Int)], .int .i64 1] (.cons (show Rng .i64 (1) from Rng.i64 (by omega)) .nil) (by kernel_rfl) (fun b14 => ?_)
  refine thn_n ?_
  refine RND.step ?_
  refine WP.seq ?_
  refine WP.pure {} [] [3, 11, 12, 13] [.int .i64 (0 + ((cntB (wd m 0) 64 : Nat) : Int)), .agg #[.int .u64 ((wd m 0 : Nat) : Int), .int .u64 ((wd m 1 : Nat) : Int), .int .u64 ((wd m 2 : Nat) : Int), .int .u64 ((wd m 3 : Nat) : Int)], .int .i64 1, .bool true] .nil (by kernel_rfl) (fun b15 => ?_)
  refine thn_n ?_
  refine WP.seq ?_
  refine WP.condT rfl ?_
  refine WP.skip ?_
  refine thn_n ?_
  refine WP.seq ?_
  refine WP.block ?_
  refine WP.seq ?_
  refine WP.pure {} [.int .u64 ((wd m 1 : Nat) : Int)] [3, 5, 11, 12] [.int .i64 (0 + ((cntB (wd m 0) 64 : Nat) : Int)), .int .u64 ((wd m 1 : Nat) : Int), .agg #[.int .u64 ((wd m 0 : Nat) : Int), .int .u64 ((wd m 1 : Nat) : Int), .int .u64 ((wd m 2 : Nat) : Int), .int .u64 ((wd m 3 : Nat) : Int)], .int .i64 1] (.cons (show InB 1 4 ∧ partV Try.prog 129 #[.int .u64 ((wd m 0 : Nat) : Int), .int .u64 ((wd m 1 : Nat) : Int), .int .u64 ((wd m 2 : Nat) : Int), .int .u64 ((wd m 3 : Nat) : Int)] (1 * 1) = some (.int .u64 ((wd m 1 : Nat) : Int)) from ⟨⟨by decide, by decide⟩, by kernel_rfl⟩) .nil) (by kernel_rfl) (fun b16 => ?_)
  refine thn_n ?_
  refine WP.region _ rfl (by kernel_rfl) ?_
  refine OPS.batch 2 {} [] [11, 12, 15, 16] [.agg #[.int .u64 ((wd m 0 : Nat) : Int), .int .u64 ((wd m 1 : Nat) : Int), .int .u64 ((wd m 2 : Nat) : Int), .int .u64 ((wd m 3 : Nat) : Int)], .int .i64 1, .int .i64 (0 + ((cntB (wd m 0) 64 : Nat) : Int)), .int .u64 ((wd m 1 : Nat) : Int)] .nil (by kernel_rfl) (fun b17 => ?_)
  refine OPS.cons (opStep.call (some 17) [.int .u64 ((wd m 1 : Nat) : Int)] (by kernel_rfl) (bits_Ones (wd m 1) (wd_lt _ _) _) ?_)
  rintro _ w20 ⟨rfl, hf21⟩
  refine ⟨_, rfl, ?_⟩
  have hp22 := hp12.step hf21
  refine OPS.batch 2 {} [] [3, 11, 12] [.int .i64 ((0 + ((cntB (wd m 0) 64 : Nat) : Int)) + ((cntB (wd m 1) 64 : Nat) : Int)), .agg #[.int .u64 ((wd m 0 : Nat) : Int), .int .u64 ((wd m 1 : Nat) : Int), .int .u64 ((wd m 2 : Nat) : Int), .int .u64 ((wd m 3 : Nat) : Int)], .int .i64 1] (.cons (show Rng .i64 ((0 + ((cntB (wd m 0) 64 : Nat) : Int)) + ((cntB (wd m 1) 64 : Nat) : Int)) from Rng.i64 (by omega)) .nil) (by kernel_rfl) (fun b23 => ?_)
  refine OPS.nil ?_
  refine blk_n ?_
  refine thn_n ?_
  refine WP.pure {} [] [3, 11, 12] [.int .i64 ((0 + ((cntB (wd m 0) 64 : Nat) : Int)) + ((cntB (wd m 1) 64 : Nat) : Int)), .agg #[.int .u64 ((wd m 0 : Nat) : Int), .int .u64 ((wd m 1 : Nat) : Int), .int .u64 ((wd m 2 : Nat) : Int), .int .u64 ((wd m 3 : Nat) : Int)], .int .i64 2] (.cons (show Rng .i64 (2) from Rng.i64 (by omega)) .nil) (by kernel_rfl) (fun b24 => ?_)
  refine thn_n ?_
  refine RND.step ?_
  refine WP.seq ?_
  refine WP.pure {} [] [3, 11, 12, 13] [.int .i64 ((0 + ((cntB (wd m 0) 64 : Nat) : Int)) + ((cntB (wd m 1) 64 : Nat) : Int)), .agg #[.int .u64 ((wd m 0 : Nat) : Int), .int .u64 ((wd m 1 : Nat) : Int), .int .u64 ((wd m 2 : Nat) : Int), .int .u64 ((wd m 3 : Nat) : Int)], .int .i64 2, .bool true] .nil (by kernel_rfl) (fun b25 => ?_)
  refine thn_n ?_
  refine WP.seq ?_
  refine WP.condT rfl ?_
  refine WP.skip ?_
  refine thn_n ?_
  refine WP.seq ?_
  refine WP.block ?_
  refine WP.seq ?_
  refine WP.pure {} [.int .u64 ((wd m 2 : Nat) : Int)] [3, 5, 11, 12] [.int .i64 ((0 + ((cntB (wd m 0) 64 : Nat) : Int)) + ((cntB (wd m 1) 64 : Nat) : Int)), .int .u64 ((wd m 2 : Nat) : Int), .agg #[.int .u64 ((wd m 0 : Nat) : Int), .int .u64 ((wd m 1 : Nat) : Int), .int .u64 ((wd m 2 : Nat) : Int), .int .u64 ((wd m 3 : Nat) : Int)], .int .i64 2] (.cons (show InB 2 4 ∧ partV Try.prog 129 #[.int .u64 ((wd m 0 : Nat) : Int), .int .u64 ((wd m 1 : Nat) : Int), .int .u64 ((wd m 2 : Nat) : Int), .int .u64 ((wd m 3 : Nat) : Int)] (2 * 1) = some (.int .u64 ((wd m 2 : Nat) : Int)) from ⟨⟨by decide, by decide⟩, by kernel_rfl⟩) .nil) (by kernel_rfl) (fun b26 => ?_)
  refine thn_n ?_
  refine WP.region _ rfl (by kernel_rfl) ?_
  refine OPS.batch 2 {} [] [11, 12, 15, 16] [.agg #[.int .u64 ((wd m 0 : Nat) : Int), .int .u64 ((wd m 1 : Nat) : Int), .int .u64 ((wd m 2 : Nat) : Int), .int .u64 ((wd m 3 : Nat) : Int)], .int .i64 2, .int .i64 ((0 + ((cntB (wd m 0) 64 : Nat) : Int)) + ((cntB (wd m 1) 64 : Nat) : Int)), .int .u64 ((wd m 2 : Nat) : Int)] .nil (by kernel_rfl) (fun b27 => ?_)
  refine OPS.cons (opStep.call (some 17) [.int .u64 ((wd m 2 : Nat) : Int)] (by kernel_rfl) (bits_Ones (wd m 2) (wd_lt _ _) _) ?_)
  rintro _ w30 ⟨rfl, hf31⟩
  refine ⟨_, rfl, ?_⟩
  have hp32 := hp22.step hf31
  refine OPS.batch 2 {} [] [3, 11, 12] [.int .i64 (((0 + ((cntB (wd m 0) 64 : Nat) : Int)) + ((cntB (wd m 1) 64 : Nat) : Int)) + ((cntB (wd m 2) 64 : Nat) : Int)), .agg #[.int .u64 ((wd m 0 : Nat) : Int), .int .u64 ((wd m 1 : Nat) : Int), .int .u64 ((wd m 2 : Nat) : Int), .int .u64 ((wd m 3 : Nat) : Int)], .int .i64 2] (.cons (show Rng .i64 (((0 + ((cntB (wd m 0) 64 : Nat) : Int)) + ((cntB (wd m 1) 64 : Nat) : Int)) + ((cntB (wd m 2) 64 : Nat) : Int)) from Rng.i64 (by omega)) .nil) (by kernel_rfl) (fun b33 => ?_)
  refine OPS.nil ?_
  refine blk_n ?_
  refine thn_n ?_
  refine WP.pure {} [] [3, 11, 12] [.int .i64 (((0 + ((cntB (wd m 0) 64 : Nat) : Int)) + ((cntB (wd m 1) 64 : Nat) : Int)) + ((cntB (wd m 2) 64 : Nat) : Int)), .agg #[.int .u64 ((wd m 0 : Nat) : Int), .int .u64 ((wd m 1 : Nat) : Int), .int .u64 ((wd m 2 : Nat) : Int), .int .u64 ((wd m 3 : Nat) : Int)], .int .i64 3] (.cons (show Rng .i64 (3) from Rng.i64 (by omega)) .nil) (by kernel_rfl) (fun b34 => ?_)
  refine thn_n ?_
  refine RND.step ?_
  refine WP.seq ?_
  refine WP.pure {} [] [3, 11, 12, 13] [.int .i64 (((0 + ((cntB (wd m 0) 64 : Nat) : Int)) + ((cntB (wd m 1) 64 : Nat) : Int)) + ((cntB (wd m 2) 64 : Nat) : Int)), .agg #[.int .u64 ((wd m 0 : Nat) : Int), .int .u64 ((wd m 1 : Nat) : Int), .int .u64 ((wd m 2 : Nat) : Int), .int .u64 ((wd m 3 : Nat) : Int)], .int .i64 3, .bool true] .nil (by kernel_rfl) (fun b35 => ?_)
  refine thn_n ?_
  refine WP.seq ?_
  refine WP.condT rfl ?_
  refine WP.skip ?_
  refine thn_n ?_
  refine WP.seq ?_
  refine WP.block ?_
  refine WP.seq ?_
  refine WP.pure {} [.int .u64 ((wd m 3 : Nat) : Int)] [3, 5, 11, 12] [.int .i64 (((0 + ((cntB (wd m 0) 64 : Nat) : Int)) + ((cntB (wd m 1) 64 : Nat) : Int)) + ((cntB (wd m 2) 64 : Nat) : Int)), .int .u64 ((wd m 3 : Nat) : Int), .agg #[.int .u64 ((wd m 0 : Nat) : Int), .int .u64 ((wd m 1 : Nat) : Int), .int .u64 ((wd m 2 : Nat) : Int), .int .u64 ((wd m 3 : Nat) : Int)], .int .i64 3] (.cons (show InB 3 4 ∧ partV Try.prog 129 #[.int .u64 ((wd m 0 : Nat) : Int), .int .u64 ((wd m 1 : Nat) : Int), .int .u64 ((wd m 2 : Nat) : Int), .int .u64 ((wd m 3 : Nat) : Int)] (3 * 1) = some (.int .u64 ((wd m 3 : Nat) : Int)) from ⟨⟨by decide, by decide⟩, by kernel_rfl⟩) .nil) (by kernel_rfl) (fun b36 => ?_)
  refine thn_n ?_
  refine WP.region _ rfl (by kernel_rfl) ?_
  refine OPS.batch 2 {} [] [11, 12, 15, 16] [.agg #[.int .u64 ((wd m 0 : Nat) : Int), .int .u64 ((wd m 1 : Nat) : Int), .int .u64 ((wd m 2 : Nat) : Int), .int .u64 ((wd m 3 : Nat) : Int)], .int .i64 3, .int .i64 (((0 + ((cntB (wd m 0) 64 : Nat) : Int)) + ((cntB (wd m 1) 64 : Nat) : Int)) + ((cntB (wd m 2) 64 : Nat) : Int)), .int .u64 ((wd m 3 : Nat) : Int)] .nil (by kernel_rfl) (fun b37 => ?_)
  refine OPS.cons (opStep.call (some 17) [.int .u64 ((wd m 3 : Nat) : Int)] (by kernel_rfl) (bits_Ones (wd m 3) (wd_lt _ _) _) ?_)
  rintro _ w40 ⟨rfl, hf41⟩
  refine ⟨_, rfl, ?_⟩
  have hp42 := hp32.step hf41
  refine OPS.batch 2 {} [] [3, 11, 12] [.int .i64 ((((0 + ((cntB (wd m 0) 64 : Nat) : Int)) + ((cntB (wd m 1) 64 : Nat) : Int)) + ((cntB (wd m 2) 64 : Nat) : Int)) + ((cntB (wd m 3) 64 : Nat) : Int)), .agg #[.int .u64 ((wd m 0 : Nat) : Int), .int .u64 ((wd m 1 : Nat) : Int), .int .u64 ((wd m 2 : Nat) : Int), .int .u64 ((wd m 3 : Nat) : Int)], .int .i64 3] (.cons (show Rng .i64 ((((0 + ((cntB (wd m 0) 64 : Nat) : Int)) + ((cntB (wd m 1) 64 : Nat) : Int)) + ((cntB (wd m 2) 64 : Nat) : Int)) + ((cntB (wd m 3) 64 : Nat) : Int)) from Rng.i64 (by omega)) .nil) (by kernel_rfl) (fun b43 => ?_)
  refine OPS.nil ?_
  refine blk_n ?_
  refine thn_n ?_
  refine WP.pure {} [] [3, 11, 12] [.int .i64 ((((0 + ((cntB (wd m 0) 64 : Nat) : Int)) + ((cntB (wd m 1) 64 : Nat) : Int)) + ((cntB (wd m 2) 64 : Nat) : Int)) + ((cntB (wd m 3) 64 : Nat) : Int)), .agg #[.int .u64 ((wd m 0 : Nat) : Int), .int .u64 ((wd m 1 : Nat) : Int), .int .u64 ((wd m 2 : Nat) : Int), .int .u64 ((wd m 3 : Nat) : Int)], .int .i64 4] (.cons (show Rng .i64 (4) from Rng.i64 (by omega)) .nil) (by kernel_rfl) (fun b44 => ?_)
  refine thn_n ?_
  refine RND.step ?_
  refine WP.seq ?_
  refine WP.pure {} [] [3, 11, 12, 13] [.int .i64 ((((0 + ((cntB (wd m 0) 64 : Nat) : Int)) + ((cntB (wd m 1) 64 : Nat) : Int)) + ((cntB (wd m 2) 64 : Nat) : Int)) + ((cntB (wd m 3) 64 : Nat) : Int)), .agg #[.int .u64 ((wd m 0 : Nat) : Int), .int .u64 ((wd m 1 : Nat) : Int), .int .u64 ((wd m 2 : Nat) : Int), .int .u64 ((wd m 3 : Nat) : Int)], .int .i64 4, .bool false] .nil (by kernel_rfl) (fun b45 => ?_)
  refine thn_n ?_
  refine WP.seq ?_
  refine WP.condF rfl ?_
  refine WP.exit ?_
  refine thn_x ?_
  refine thn_x ?_
  refine blk_hit ?_
  refine thn_n ?_
  refine WP.seq ?_
  refine WP.pure {} [] [2] [.int .i64 ((((0 + ((cntB (wd m 0) 64 : Nat) : Int)) + ((cntB (wd m 1) 64 : Nat) : Int)) + ((cntB (wd m 2) 64 : Nat) : Int)) + ((cntB (wd m 3) 64 : Nat) : Int))] .nil (by kernel_rfl) (fun b46 => ?_)
  refine thn_n ?_
  refine WP.ret ?_
  refine bodyQ.of _ rfl [.int .i64 ((((0 + ((cntB (wd m 0) 64 : Nat) : Int)) + ((cntB (wd m 1) 64 : Nat) : Int)) + ((cntB (wd m 2) 64 : Nat) : Int)) + ((cntB (wd m 3) 64 : Nat) : Int))] ⟨rfl, trivial⟩ ?_
  exact ⟨by simp only [pack]; rw [show ((((0 + ((cntB (wd m 0) 64 : Nat) : Int)) + ((cntB (wd m 1) 64 : Nat) : Int)) + ((cntB (wd m 2) 64 : Nat) : Int)) + ((cntB (wd m 3) 64 : Nat) : Int) : Int) = ((cntB m 256 : Nat) : Int) from by omega], hp42⟩

theorem q_Met (w0 : World) (L : List Res) (b : Nat) (c : GConfig) (m : Nat) (w : World) (hok : okCfg c)  (hp0 : Hp w0 Non (Res.row b [.int .i64 c.N, .int .i64 c.K, .int .i64 c.Delta, .int .u64 ((wd m 0 : Nat) : Int), .int .u64 ((wd m 1 : Nat) : Int), .int .u64 ((wd m 2 : Nat) : Int), .int .u64 ((wd m 3 : Nat) : Int)] 133 :: L) w) :
    Calls Try.prog 41 #[.pointer (some ⟨b, 0, none⟩)] w (fun r_ w' => ∃ f_, r_ = .returned (.bool f_) ∧ Bp f_ (qSize c ≤ ((cntB m 256 : Nat) : Int)) ∧ Hp w0 Non (Res.row b [.int .i64 c.N, .int .i64 c.K, .int .i64 c.Delta, .int .u64 ((wd m 0 : Nat) : Int), .int .u64 ((wd m 1 : Nat) : Int), .int .u64 ((wd m 2 : Nat) : Int), .int .u64 ((wd m 3 : Nat) : Int)] 133 :: L) w') := by
  have hok1 := hok
  unfold okCfg at hok1
  refine calls_of Try.func41 rfl 19 rfl (by simp) ?_
  have he0 : List.map (env0 [.pointer (some ⟨b, 0, none⟩)]) [0] = [.pointer (some ⟨b, 0, none⟩)] := by kernel_rfl
  obtain ⟨b0, he0⟩ := toMk he0
  rw [he0]
  clear he0
  refine WP.seq ?_
  refine WP.pure {} [] [0] [.pointer (some ⟨b, 0, none⟩)] .nil (by kernel_rfl) (fun b1 => ?_)
  refine thn_n ?_
  refine WP.seq ?_
  refine WP.seq ?_
  refine WP.pure {} [] [0, 6] [.pointer (some ⟨b, 0, none⟩), .bool false] .nil (by kernel_rfl) (fun b2 => ?_)
  refine thn_n ?_
  refine WP.condF rfl ?_
  refine WP.skip ?_
  refine thn_n ?_
  refine WP.seq ?_
  refine WP.region _ rfl (by kernel_rfl) ?_
  refine OPS.batch 4 {} [.agg #[.int .i64 c.N, .int .i64 c.K, .int .i64 c.Delta]] [0, 11] [.pointer (some ⟨b, 0, none⟩), .agg #[.int .i64 c.N, .int .i64 c.K, .int .i64 c.Delta]] (.cons (show Ld Try.prog w 60 ⟨b, 0, none⟩ (.agg #[.int .i64 c.N, .int .i64 c.K, .int .i64 c.Delta]) from Ld.rowN (cs := [.int .i64 c.N, .int .i64 c.K, .int .i64 c.Delta]) hp0.get0 (by kernel_rfl)) .nil) (by kernel_rfl) (fun b3 => ?_)
  refine OPS.cons (opStep.call (some 12) [.agg #[.int .i64 c.N, .int .i64 c.K, .int .i64 c.Delta]] (by kernel_rfl) (q_Size c _) ?_)
  rintro _ w6 ⟨rfl, hf7⟩
  refine ⟨_, rfl, ?_⟩
  have hp8 := hp0.step hf7
  refine OPS.batch 5 {} [] [0, 3] [.pointer (some ⟨b, 0, none⟩), .int .i64 (qSize c)] .nil (by kernel_rfl) (fun b9 => ?_)
  refine OPS.nil ?_
  refine thn_n ?_
  refine WP.seq ?_
  refine WP.region _ rfl (by kernel_rfl) ?_
  refine OPS.batch 1 {} [] [3, 15] [.int .i64 (qSize c), .pointer (some ⟨b, 0, none⟩)] .nil (by kernel_rfl) (fun b10 => ?_)
  have hp13 := hp8.pull0
  refine OPS.cons (opStep.call (some 16) [.pointer (some ⟨b, 0, none⟩)] (by kernel_rfl) (q_Len _ _ _ c m _ hok  hp13) ?_)
  rintro _ w14 ⟨rfl, hp15⟩
  refine ⟨_, rfl, ?_⟩
  refine OPS.batch 3 {} [] [2] [.bool (decide ((qSize c) ≤ ((cntB m 256 : Nat) : Int)))] .nil (by kernel_rfl) (fun b17 => ?_)
  refine OPS.nil ?_
  refine thn_n ?_
  refine WP.ret ?_
  refine bodyQ.of _ rfl [.bool (decide ((qSize c) ≤ ((cntB m 256 : Nat) : Int)))] ⟨rfl, trivial⟩ ?_
  exact ⟨_, rfl, Bp.of Bp.dec (by first | rfl | simp_all), hp15⟩

end Go.Proofs.Ythdkbbpiaeaojaa.K
