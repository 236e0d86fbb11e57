/- The walks of PhaA: what each function computes. -/
import Derived.Test.YtgpjpcemfaignaaProg
import Derived.Test.YtgpjpcemfaignaaCoreO
import Derived.Test.YtgpjpcemfaignaaCoreK
import Derived.Test.YtgpjpcemfaignaaCoreV
import Derived.Test.YtgpjpcemfaignaaCoreT
import Derived.Test.YtgpjpcemfaignaaCoreU
namespace Go.Proofs.Ytgpjpcemfaignaa.K
open Go Go.Proofs Go.RowKit
set_option linter.unusedVariables false
set_option linter.unusedSimpArgs false
set_option maxRecDepth 20000
set_option maxHeartbeats 4000000

abbrev kI : Int → Go.Value := fun y => .int .i64 y
abbrev vI : Int → Go.Value := fun y => .int .i64 y
abbrev vS : ByteArray → Go.Value := fun s => .string s

structure GConfig where
  N : Int
  K : Int
  Delta : Int
def GConfig.cells (x : GConfig) : List Go.Value := [.int .i64 x.N, .int .i64 x.K, .int .i64 x.Delta]
def GConfig.val (x : GConfig) : Go.Value := .agg x.cells.toArray
instance : Inhabited GConfig := ⟨⟨0, 0, 0⟩⟩
theorem GConfig.len (x : GConfig) : x.cells.length = 3 := rfl
def okCfg (c : GConfig) : Prop := 1 ≤ c.K ∧ c.K ≤ c.N ∧ c.N ≤ 255 ∧ 0 ≤ c.Delta ∧ c.Delta ≤ 4611686018427387903
instance (c : GConfig) : Decidable (okCfg c) := by unfold okCfg; exact inferInstance
def qChk (c : GConfig) : Int := if okCfg c then 0 else 40
def qSize (c : GConfig) : Int := if okCfg c then (c.N + c.K + 1).tdiv 2 else 0
def qDown (c : GConfig) : Int := if okCfg c then c.N - qSize c else 0
def qCom (c : GConfig) : Int := if okCfg c then 2 * qSize c - c.N else 0
theorem qSize_ok {c : GConfig} (h : okCfg c) : 2 * qSize c = c.N + c.K ∨ 2 * qSize c = c.N + c.K + 1 := by unfold qSize; rw [if_pos h]; unfold okCfg at h; rw [Int.tdiv_eq_ediv_of_nonneg (by omega)]; omega
theorem qSize_no {c : GConfig} (h : ¬ okCfg c) : qSize c = 0 := by unfold qSize; rw [if_neg h]
theorem qChk_ok {c : GConfig} (h : okCfg c) : qChk c = 0 := by unfold qChk; rw [if_pos h]
theorem qChk_no {c : GConfig} (h : ¬ okCfg c) : qChk c = 40 := by unfold qChk; rw [if_neg h]
def inN (c : GConfig) (x : Int) : Prop := 0 ≤ x ∧ x < c.N
instance (c : GConfig) (x : Int) : Decidable (inN c x) := by unfold inN; exact inferInstance
def qAdd (c : GConfig) (m : Nat) (x : Int) : Nat := if inN c x then m ||| 2 ^ x.toNat else m
def qErr (c : GConfig) (x : Int) : Int := if inN c x then 0 else 51
theorem q_cases (c : GConfig) : (okCfg c ∧ qChk c = 0 ∧ 1 ≤ c.K ∧ c.K ≤ c.N ∧ c.N ≤ 255 ∧ (2 * qSize c = c.N + c.K ∨ 2 * qSize c = c.N + c.K + 1)) ∨ (¬ okCfg c ∧ qChk c = 40 ∧ qSize c = 0) := by
  by_cases h : okCfg c
  · exact .inl ⟨h, qChk_ok h, h.1, h.2.1, h.2.2.1, qSize_ok h⟩
  · exact .inr ⟨h, qChk_no h, qSize_no h⟩
def cfgOf (c : GConfig) : GConfig := ⟨c.N, c.K, c.Delta⟩

theorem q_Check (c : GConfig) (w : World) :
    Calls Try.prog 45 #[GConfig.val c] w (fun r_ w' => r_ = .returned (.int .i64 (qChk c)) ∧ Fram Non w w') := by
  refine calls_of Try.func45 rfl 28 rfl (by simp) ?_
  have hp0 := Hp.init w
  have he0 : List.map (env0 [GConfig.val c]) [0] = [GConfig.val c] := by kernel_rfl
  obtain ⟨b0, he0⟩ := toMk he0
  rw [he0]
  clear he0
  refine WP.seq ?_
  refine WP.region _ rfl (by kernel_rfl) ?_
  refine OPS.cons (opStep.box hp0 [.int .i64 c.N, .int .i64 c.K, .int .i64 c.Delta] (by kernel_rfl) (fun g3 w1 hp2 => ?_))
  refine OPS.batch 1 {} [] [1] [.pointer (some ⟨g3, 0, none⟩)] .nil (by kernel_rfl) (fun b4 => ?_)
  refine OPS.nil ?_
  refine thn_n ?_
  refine WP.seq ?_
  refine WP.cut (fun e29 w30 => ∃ (x27 : Bool), (True) ∧ Bp x27 (((c.K < 1)) ∨ ((¬ (c.K < 1)) ∧ (c.N < c.K)) ∨ ((¬ (c.K < 1)) ∧ (¬ (c.N < c.K)) ∧ (255 < c.N)) ∨ ((¬ (c.K < 1)) ∧ (¬ (c.N < c.K)) ∧ (¬ (255 < c.N)) ∧ (c.Delta < 0)) ∨ ((¬ (c.K < 1)) ∧ (¬ (c.N < c.K)) ∧ (¬ (255 < c.N)) ∧ (¬ (c.Delta < 0)) ∧ (4611686018427387903 < c.Delta))) ∧ List.map e29 [27] = [.bool x27] ∧ Hp w Non [Res.row g3 [.int .i64 c.N, .int .i64 c.K, .int .i64 c.Delta] 23] w30) ?_ ?_
  · refine WP.region _ rfl (by kernel_rfl) ?_
    refine OPS.batch 4 {} [.int .i64 c.K] [1, 6] [.pointer (some ⟨g3, 0, none⟩), .bool (decide (c.K < 1))] (.cons (Ld.row1 (P := Try.prog) (t := 3) (o := 1) (v := .int .i64 c.K) hp2.get0 (by kernel_rfl)) .nil) (by kernel_rfl) (fun b6 => ?_)
    by_cases h7 : c.K < 1
    · refine OPS.batch 0 {} [] [1, 6] [.pointer (some ⟨g3, 0, none⟩), .bool (decide (c.K < 1))] .nil (by kernel_rfl) (fun b8 => ?_)
      refine OPS.re [.pointer (some ⟨g3, 0, none⟩), .bool true] (by rw [show (decide (c.K < 1)) = true from Bp.dec.tt h7]) ?_
      refine OPS.batch 21 { wraps := [12, 17, 22, 27] } [] [27] [.bool true] .nil (by kernel_rfl) (fun b9 => ?_)
      refine OPS.nil ?_
      refine thn_n ?_
      exact ⟨true, trivial, Bp.of Bp.t (by first | (simp only [h7, iff_false, false_iff, iff_true, true_iff, Classical.not_not, and_true, true_and, and_false, false_and, or_true, true_or, or_false, false_or, not_true_eq_false, not_false_eq_true, and_self, or_self, iff_self]; done) | (simp [h7]; done) | simp_all), by kernel_rfl, hp2⟩
    · refine OPS.batch 0 {} [] [1, 6] [.pointer (some ⟨g3, 0, none⟩), .bool (decide (c.K < 1))] .nil (by kernel_rfl) (fun b10 => ?_)
      refine OPS.re [.pointer (some ⟨g3, 0, none⟩), .bool false] (by rw [show (decide (c.K < 1)) = false from Bp.dec.ff h7]) ?_
      refine OPS.batch 7 { wraps := [12] } [.int .i64 c.K, .int .i64 c.N] [1, 13] [.pointer (some ⟨g3, 0, none⟩), .bool (decide (c.N < c.K))] (.cons (Ld.row1 (P := Try.prog) (t := 3) (o := 1) (v := .int .i64 c.K) hp2.get0 (by kernel_rfl)) (.cons (Ld.row1 (P := Try.prog) (t := 3) (o := 0) (v := .int .i64 c.N) hp2.get0 (by kernel_rfl)) .nil)) (by kernel_rfl) (fun b11 => ?_)
      by_cases h12 : c.N < c.K
      · refine OPS.batch 0 {} [] [1, 13] [.pointer (some ⟨g3, 0, none⟩), .bool (decide (c.N < c.K))] .nil (by kernel_rfl) (fun b13 => ?_)
        refine OPS.re [.pointer (some ⟨g3, 0, none⟩), .bool true] (by rw [show (decide (c.N < c.K)) = true from Bp.dec.tt h12]) ?_
        refine OPS.batch 14 { wraps := [17, 22, 27] } [] [27] [.bool true] .nil (by kernel_rfl) (fun b14 => ?_)
        refine OPS.nil ?_
        refine thn_n ?_
        exact ⟨true, trivial, Bp.of Bp.t (by first | (simp only [h7, h12, iff_false, false_iff, iff_true, true_iff, Classical.not_not, and_true, true_and, and_false, false_and, or_true, true_or, or_false, false_or, not_true_eq_false, not_false_eq_true, and_self, or_self, iff_self]; done) | (simp [h7, h12]; done) | simp_all), by kernel_rfl, hp2⟩
      · refine OPS.batch 0 {} [] [1, 13] [.pointer (some ⟨g3, 0, none⟩), .bool (decide (c.N < c.K))] .nil (by kernel_rfl) (fun b15 => ?_)
        refine OPS.re [.pointer (some ⟨g3, 0, none⟩), .bool false] (by rw [show (decide (c.N < c.K)) = false from Bp.dec.ff h12]) ?_
        refine OPS.batch 5 { wraps := [17] } [.int .i64 c.N] [1, 18] [.pointer (some ⟨g3, 0, none⟩), .bool (decide (255 < c.N))] (.cons (Ld.row1 (P := Try.prog) (t := 3) (o := 0) (v := .int .i64 c.N) hp2.get0 (by kernel_rfl)) .nil) (by kernel_rfl) (fun b16 => ?_)
        by_cases h17 : 255 < c.N
        · refine OPS.batch 0 {} [] [1, 18] [.pointer (some ⟨g3, 0, none⟩), .bool (decide (255 < c.N))] .nil (by kernel_rfl) (fun b18 => ?_)
          refine OPS.re [.pointer (some ⟨g3, 0, none⟩), .bool true] (by rw [show (decide (255 < c.N)) = true from Bp.dec.tt h17]) ?_
          refine OPS.batch 9 { wraps := [22, 27] } [] [27] [.bool true] .nil (by kernel_rfl) (fun b19 => ?_)
          refine OPS.nil ?_
          refine thn_n ?_
          exact ⟨true, trivial, Bp.of Bp.t (by first | (simp only [h7, h12, h17, iff_false, false_iff, iff_true, true_iff, Classical.not_not, and_true, true_and, and_false, false_and, or_true, true_or, or_false, false_or, not_true_eq_false, not_false_eq_true, and_self, or_self, iff_self]; done) | (simp [h7, h12, h17]; done) | simp_all), by kernel_rfl, hp2⟩
        · refine OPS.batch 0 {} [] [1, 18] [.pointer (some ⟨g3, 0, none⟩), .bool (decide (255 < c.N))] .nil (by kernel_rfl) (fun b20 => ?_)
          refine OPS.re [.pointer (some ⟨g3, 0, none⟩), .bool false] (by rw [show (decide (255 < c.N)) = false from Bp.dec.ff h17]) ?_
          refine OPS.batch 5 { wraps := [22] } [.int .i64 c.Delta] [1, 23] [.pointer (some ⟨g3, 0, none⟩), .bool (decide (c.Delta < 0))] (.cons (Ld.row1 (P := Try.prog) (t := 3) (o := 2) (v := .int .i64 c.Delta) hp2.get0 (by kernel_rfl)) .nil) (by kernel_rfl) (fun b21 => ?_)
          by_cases h22 : c.Delta < 0
          · refine OPS.batch 0 {} [] [1, 23] [.pointer (some ⟨g3, 0, none⟩), .bool (decide (c.Delta < 0))] .nil (by kernel_rfl) (fun b23 => ?_)
            refine OPS.re [.pointer (some ⟨g3, 0, none⟩), .bool true] (by rw [show (decide (c.Delta < 0)) = true from Bp.dec.tt h22]) ?_
            refine OPS.batch 4 { wraps := [27] } [] [27] [.bool true] .nil (by kernel_rfl) (fun b24 => ?_)
            refine OPS.nil ?_
            refine thn_n ?_
            exact ⟨true, trivial, Bp.of Bp.t (by first | (simp only [h7, h12, h17, h22, iff_false, false_iff, iff_true, true_iff, Classical.not_not, and_true, true_and, and_false, false_and, or_true, true_or, or_false, false_or, not_true_eq_false, not_false_eq_true, and_self, or_self, iff_self]; done) | (simp [h7, h12, h17, h22]; done) | simp_all), by kernel_rfl, hp2⟩
          · refine OPS.batch 0 {} [] [1, 23] [.pointer (some ⟨g3, 0, none⟩), .bool (decide (c.Delta < 0))] .nil (by kernel_rfl) (fun b25 => ?_)
            refine OPS.re [.pointer (some ⟨g3, 0, none⟩), .bool false] (by rw [show (decide (c.Delta < 0)) = false from Bp.dec.ff h22]) ?_
            refine OPS.batch 4 { wraps := [27] } [.int .i64 c.Delta] [27] [.bool (decide (4611686018427387903 < c.Delta))] (.cons (Ld.row1 (P := Try.prog) (t := 3) (o := 2) (v := .int .i64 c.Delta) hp2.get0 (by kernel_rfl)) .nil) (by kernel_rfl) (fun b26 => ?_)
            refine OPS.nil ?_
            refine thn_n ?_
            exact ⟨decide (4611686018427387903 < c.Delta), trivial, Bp.of Bp.dec (by first | (simp only [h7, h12, h17, h22, iff_false, false_iff, iff_true, true_iff, Classical.not_not, and_true, true_and, and_false, false_and, or_true, true_or, or_false, false_or, not_true_eq_false, not_false_eq_true, and_self, or_self, iff_self]; done) | (simp [h7, h12, h17, h22]; done) | simp_all), by kernel_rfl, hp2⟩
  rintro e29 w30 ⟨x27, hd32, hb28, hE33, hp31⟩
  obtain ⟨b34, rfl⟩ := toMk hE33
  clear hE33
  clear hd32
  refine WP.test (p := ((c.K < 1)) ∨ ((¬ (c.K < 1)) ∧ (c.N < c.K)) ∨ ((¬ (c.K < 1)) ∧ (¬ (c.N < c.K)) ∧ (255 < c.N)) ∨ ((¬ (c.K < 1)) ∧ (¬ (c.N < c.K)) ∧ (¬ (255 < c.N)) ∧ (c.Delta < 0)) ∨ ((¬ (c.K < 1)) ∧ (¬ (c.N < c.K)) ∧ (¬ (255 < c.N)) ∧ (¬ (c.Delta < 0)) ∧ (4611686018427387903 < c.Delta))) rfl hb28 (fun h35 => ?_) (fun h35 => ?_)
  · refine WP.seq ?_
    refine WP.pure {} [] [2] [.int .i64 40] .nil (by kernel_rfl) (fun b36 => ?_)
    refine thn_n ?_
    refine WP.ret ?_
    refine thn_r ?_
    refine bodyQ.of _ rfl [.int .i64 40] ⟨rfl, trivial⟩ ?_
    exact ⟨by simp only [pack, qChk]; rw [if_neg (by unfold okCfg; omega)], hp31.fr⟩
  · refine WP.skip ?_
    refine thn_n ?_
    refine WP.seq ?_
    refine WP.pure {} [] [2] [.int .i64 0] .nil (by kernel_rfl) (fun b37 => ?_)
    refine thn_n ?_
    refine WP.ret ?_
    refine bodyQ.of _ rfl [.int .i64 0] ⟨rfl, trivial⟩ ?_
    exact ⟨by simp only [pack, qChk]; rw [if_pos (by unfold okCfg; omega)], hp31.fr⟩

theorem q_Size (c : GConfig) (w : World) :
    Calls Try.prog 10 #[GConfig.val c] w (fun r_ w' => r_ = .returned (.tuple #[.int .i64 (qSize c), .int .i64 (qChk c)]) ∧ Fram Non w w') := by
  have hq0 := q_cases c
  have hq : (qChk c = 0 ∧ 1 ≤ c.K ∧ c.K ≤ c.N ∧ c.N ≤ 255 ∧ (2 * qSize c = c.N + c.K ∨ 2 * qSize c = c.N + c.K + 1)) ∨ (qChk c = 40 ∧ qSize c = 0) := by rcases hq0 with q | q; exact .inl q.2; exact .inr q.2
  have htd : 0 ≤ c.N + c.K + 1 → (c.N + c.K + 1).tdiv 2 = (c.N + c.K + 1) / 2 := fun h => Int.tdiv_eq_ediv_of_nonneg h
  refine calls_of Try.func10 rfl 14 rfl (by simp) ?_
  have hp0 := Hp.init w
  have he0 : List.map (env0 [GConfig.val c]) [0] = [GConfig.val c] := by kernel_rfl
  obtain ⟨b0, he0⟩ := toMk he0
  rw [he0]
  clear he0
  refine WP.seq ?_
  refine WP.region _ rfl (by kernel_rfl) ?_
  refine OPS.cons (opStep.box hp0 [.int .i64 c.N, .int .i64 c.K, .int .i64 c.Delta] (by kernel_rfl) (fun g3 w1 hp2 => ?_))
  refine OPS.batch 2 {} [] [1] [.pointer (some ⟨g3, 0, none⟩)] .nil (by kernel_rfl) (fun b4 => ?_)
  refine OPS.nil ?_
  refine thn_n ?_
  refine WP.seq ?_
  refine WP.seq ?_
  refine WP.region _ rfl (by kernel_rfl) ?_
  refine OPS.batch 1 {} [GConfig.val c] [1, 4] [.pointer (some ⟨g3, 0, none⟩), GConfig.val c] (.cons (show Ld Try.prog w1 23 ⟨g3, 0, none⟩ (GConfig.val c) from Ld.rowN (cs := [.int .i64 c.N, .int .i64 c.K, .int .i64 c.Delta]) hp2.get0 (by kernel_rfl)) .nil) (by kernel_rfl) (fun b5 => ?_)
  refine OPS.cons (opStep.call (some 5) [GConfig.val c] (by kernel_rfl) (q_Check c _) ?_)
  rintro _ w8 ⟨rfl, hf9⟩
  refine ⟨_, rfl, ?_⟩
  have hp10 := hp2.step hf9
  refine OPS.batch 1 {} [] [1, 6] [.pointer (some ⟨g3, 0, none⟩), .bool (decide (¬ ((qChk c) = 0)))] .nil (by kernel_rfl) (fun b11 => ?_)
  refine OPS.nil ?_
  refine thn_n ?_
  refine WP.test (p := ¬ ((qChk c) = 0)) rfl Bp.dec (fun h12 => ?_) (fun h12 => ?_)
  · refine WP.seq ?_
    refine WP.pure {} [] [2, 3] [.int .i64 0, .int .i64 40] .nil (by kernel_rfl) (fun b13 => ?_)
    refine thn_n ?_
    refine WP.ret ?_
    refine thn_r ?_
    refine bodyQ.of _ rfl [.int .i64 0, .int .i64 40] ⟨rfl, rfl, trivial⟩ ?_
    exact ⟨by rcases hq0 with ⟨hq1, hq2, hq3⟩ | ⟨hq1, hq2, hq3⟩ <;> first | omega | (simp [pack, qSize, hq1, hq2]; done) | (simp [pack, qSize, hq1, hq2, qSize]; done), hp10.fr⟩
  · replace h12 := Classical.not_not.1 h12
    refine WP.skip ?_
    refine thn_n ?_
    refine WP.seq ?_
    refine WP.pure {} [.int .i64 c.N, .int .i64 c.K] [2, 3] [.int .i64 (((c.N + c.K) + 1).tdiv 2), .int .i64 0] (.cons (Ld.row1 (P := Try.prog) (t := 3) (o := 0) (v := .int .i64 c.N) hp10.get0 (by kernel_rfl)) (.cons (Ld.row1 (P := Try.prog) (t := 3) (o := 1) (v := .int .i64 c.K) hp10.get0 (by kernel_rfl)) (.cons (show Rng .i64 (c.N + c.K) from Rng.i64 (by omega)) (.cons (show Rng .i64 ((c.N + c.K) + 1) from Rng.i64 (by omega)) (.cons (show (2 : Int) ≠ 0 from by omega) (.cons (show Rng .i64 (((c.N + c.K) + 1).tdiv 2) from Rng.i64 (by omega)) .nil)))))) (by kernel_rfl) (fun b14 => ?_)
    refine thn_n ?_
    refine WP.ret ?_
    refine bodyQ.of _ rfl [.int .i64 (((c.N + c.K) + 1).tdiv 2), .int .i64 0] ⟨rfl, rfl, trivial⟩ ?_
    exact ⟨by rcases hq0 with ⟨hq1, hq2, hq3⟩ | ⟨hq1, hq2, hq3⟩ <;> first | omega | (simp [pack, qSize, hq1, hq2]; done) | (simp [pack, qSize, hq1, hq2, qSize]; done), hp10.fr⟩

theorem q_Down (c : GConfig) (w : World) :
    Calls Try.prog 13 #[GConfig.val c] w (fun r_ w' => r_ = .returned (.tuple #[.int .i64 (qDown c), .int .i64 (qChk c)]) ∧ Fram Non w w') := by
  have hq0 := q_cases c
  have hq : (qChk c = 0 ∧ 1 ≤ c.K ∧ c.K ≤ c.N ∧ c.N ≤ 255 ∧ (2 * qSize c = c.N + c.K ∨ 2 * qSize c = c.N + c.K + 1)) ∨ (qChk c = 40 ∧ qSize c = 0) := by rcases hq0 with q | q; exact .inl q.2; exact .inr q.2
  have htd : 0 ≤ c.N + c.K + 1 → (c.N + c.K + 1).tdiv 2 = (c.N + c.K + 1) / 2 := fun h => Int.tdiv_eq_ediv_of_nonneg h
  refine calls_of Try.func13 rfl 18 rfl (by simp) ?_
  have hp0 := Hp.init w
  have he0 : List.map (env0 [GConfig.val c]) [0] = [GConfig.val c] := by kernel_rfl
  obtain ⟨b0, he0⟩ := toMk he0
  rw [he0]
  clear he0
  refine WP.seq ?_
  refine WP.region _ rfl (by kernel_rfl) ?_
  refine OPS.cons (opStep.box hp0 [.int .i64 c.N, .int .i64 c.K, .int .i64 c.Delta] (by kernel_rfl) (fun g3 w1 hp2 => ?_))
  refine OPS.batch 2 {} [] [1] [.pointer (some ⟨g3, 0, none⟩)] .nil (by kernel_rfl) (fun b4 => ?_)
  refine OPS.nil ?_
  refine thn_n ?_
  refine WP.seq ?_
  refine WP.region _ rfl (by kernel_rfl) ?_
  refine OPS.batch 1 {} [GConfig.val c] [1, 7] [.pointer (some ⟨g3, 0, none⟩), GConfig.val c] (.cons (show Ld Try.prog w1 23 ⟨g3, 0, none⟩ (GConfig.val c) from Ld.rowN (cs := [.int .i64 c.N, .int .i64 c.K, .int .i64 c.Delta]) hp2.get0 (by kernel_rfl)) .nil) (by kernel_rfl) (fun b5 => ?_)
  refine OPS.cons (opStep.call (some 8) [GConfig.val c] (by kernel_rfl) (q_Size c _) ?_)
  rintro _ w8 ⟨rfl, hf9⟩
  refine ⟨_, rfl, ?_⟩
  have hp10 := hp2.step hf9
  refine OPS.batch 5 {} [] [1, 4, 5] [.pointer (some ⟨g3, 0, none⟩), .int .i64 (qSize c), .int .i64 (qChk c)] .nil (by kernel_rfl) (fun b11 => ?_)
  refine OPS.nil ?_
  refine thn_n ?_
  refine WP.seq ?_
  refine WP.seq ?_
  refine WP.pure {} [] [1, 4, 5, 12] [.pointer (some ⟨g3, 0, none⟩), .int .i64 (qSize c), .int .i64 (qChk c), .bool (decide (¬ ((qChk c) = 0)))] .nil (by kernel_rfl) (fun b12 => ?_)
  refine thn_n ?_
  refine WP.test (p := ¬ ((qChk c) = 0)) rfl Bp.dec (fun h13 => ?_) (fun h13 => ?_)
  · refine WP.seq ?_
    refine WP.pure {} [] [2, 3] [.int .i64 0, .int .i64 (qChk c)] .nil (by kernel_rfl) (fun b14 => ?_)
    refine thn_n ?_
    refine WP.ret ?_
    refine thn_r ?_
    refine bodyQ.of _ rfl [.int .i64 0, .int .i64 (qChk c)] ⟨rfl, rfl, trivial⟩ ?_
    exact ⟨by rcases hq0 with ⟨hq1, hq2, hq3⟩ | ⟨hq1, hq2, hq3⟩ <;> first | omega | (simp [pack, qDown, hq1, hq2]; done) | (simp [pack, qDown, hq1, hq2, qSize]; done), hp10.fr⟩
  · replace h13 := Classical.not_not.1 h13
    refine WP.skip ?_
    refine thn_n ?_
    refine WP.seq ?_
    refine WP.pure {} [.int .i64 c.N] [2, 3] [.int .i64 (c.N - (qSize c)), .int .i64 0] (.cons (Ld.row1 (P := Try.prog) (t := 3) (o := 0) (v := .int .i64 c.N) hp10.get0 (by kernel_rfl)) (.cons (show Rng .i64 (c.N - (qSize c)) from Rng.i64 (by omega)) .nil)) (by kernel_rfl) (fun b15 => ?_)
    refine thn_n ?_
    refine WP.ret ?_
    refine bodyQ.of _ rfl [.int .i64 (c.N - (qSize c)), .int .i64 0] ⟨rfl, rfl, trivial⟩ ?_
    exact ⟨by rcases hq0 with ⟨hq1, hq2, hq3⟩ | ⟨hq1, hq2, hq3⟩ <;> first | omega | (simp [pack, qDown, hq1, hq2]; done) | (simp [pack, qDown, hq1, hq2, qSize]; done), hp10.fr⟩

theorem r_Check (c : GConfig) (w : World) :
    Calls Try.prog 51 #[GConfig.val c] w (fun r_ w' => r_ = .returned (.int .i64 (qChk c)) ∧ Fram Non w w') := by
  refine calls_of Try.func51 rfl 28 rfl (by simp) ?_
  have hp0 := Hp.init w
  have he0 : List.map (env0 [GConfig.val c]) [0] = [GConfig.val c] := by kernel_rfl
  obtain ⟨b0, he0⟩ := toMk he0
  rw [he0]
  clear he0
  refine WP.seq ?_
  refine WP.region _ rfl (by kernel_rfl) ?_
  refine OPS.cons (opStep.box hp0 [.int .i64 c.N, .int .i64 c.K, .int .i64 c.Delta] (by kernel_rfl) (fun g3 w1 hp2 => ?_))
  refine OPS.batch 1 {} [] [1] [.pointer (some ⟨g3, 0, none⟩)] .nil (by kernel_rfl) (fun b4 => ?_)
  refine OPS.nil ?_
  refine thn_n ?_
  refine WP.seq ?_
  refine WP.cut (fun e29 w30 => ∃ (x27 : Bool), (True) ∧ Bp x27 (((c.K < 1)) ∨ ((¬ (c.K < 1)) ∧ (c.N < c.K)) ∨ ((¬ (c.K < 1)) ∧ (¬ (c.N < c.K)) ∧ (255 < c.N)) ∨ ((¬ (c.K < 1)) ∧ (¬ (c.N < c.K)) ∧ (¬ (255 < c.N)) ∧ (c.Delta < 0)) ∨ ((¬ (c.K < 1)) ∧ (¬ (c.N < c.K)) ∧ (¬ (255 < c.N)) ∧ (¬ (c.Delta < 0)) ∧ (4611686018427387903 < c.Delta))) ∧ List.map e29 [27] = [.bool x27] ∧ Hp w Non [Res.row g3 [.int .i64 c.N, .int .i64 c.K, .int .i64 c.Delta] 23] w30) ?_ ?_
  · refine WP.region _ rfl (by kernel_rfl) ?_
    refine OPS.batch 4 {} [.int .i64 c.K] [1, 6] [.pointer (some ⟨g3, 0, none⟩), .bool (decide (c.K < 1))] (.cons (Ld.row1 (P := Try.prog) (t := 3) (o := 1) (v := .int .i64 c.K) hp2.get0 (by kernel_rfl)) .nil) (by kernel_rfl) (fun b6 => ?_)
    by_cases h7 : c.K < 1
    · refine OPS.batch 0 {} [] [1, 6] [.pointer (some ⟨g3, 0, none⟩), .bool (decide (c.K < 1))] .nil (by kernel_rfl) (fun b8 => ?_)
      refine OPS.re [.pointer (some ⟨g3, 0, none⟩), .bool true] (by rw [show (decide (c.K < 1)) = true from Bp.dec.tt h7]) ?_
      refine OPS.batch 21 { wraps := [12, 17, 22, 27] } [] [27] [.bool true] .nil (by kernel_rfl) (fun b9 => ?_)
      refine OPS.nil ?_
      refine thn_n ?_
      exact ⟨true, trivial, Bp.of Bp.t (by first | (simp only [h7, iff_false, false_iff, iff_true, true_iff, Classical.not_not, and_true, true_and, and_false, false_and, or_true, true_or, or_false, false_or, not_true_eq_false, not_false_eq_true, and_self, or_self, iff_self]; done) | (simp [h7]; done) | simp_all), by kernel_rfl, hp2⟩
    · refine OPS.batch 0 {} [] [1, 6] [.pointer (some ⟨g3, 0, none⟩), .bool (decide (c.K < 1))] .nil (by kernel_rfl) (fun b10 => ?_)
      refine OPS.re [.pointer (some ⟨g3, 0, none⟩), .bool false] (by rw [show (decide (c.K < 1)) = false from Bp.dec.ff h7]) ?_
      refine OPS.batch 7 { wraps := [12] } [.int .i64 c.K, .int .i64 c.N] [1, 13] [.pointer (some ⟨g3, 0, none⟩), .bool (decide (c.N < c.K))] (.cons (Ld.row1 (P := Try.prog) (t := 3) (o := 1) (v := .int .i64 c.K) hp2.get0 (by kernel_rfl)) (.cons (Ld.row1 (P := Try.prog) (t := 3) (o := 0) (v := .int .i64 c.N) hp2.get0 (by kernel_rfl)) .nil)) (by kernel_rfl) (fun b11 => ?_)
      by_cases h12 : c.N < c.K
      · refine OPS.batch 0 {} [] [1, 13] [.pointer (some ⟨g3, 0, none⟩), .bool (decide (c.N < c.K))] .nil (by kernel_rfl) (fun b13 => ?_)
        refine OPS.re [.pointer (some ⟨g3, 0, none⟩), .bool true] (by rw [show (decide (c.N < c.K)) = true from Bp.dec.tt h12]) ?_
        refine OPS.batch 14 { wraps := [17, 22, 27] } [] [27] [.bool true] .nil (by kernel_rfl) (fun b14 => ?_)
        refine OPS.nil ?_
        refine thn_n ?_
        exact ⟨true, trivial, Bp.of Bp.t (by first | (simp only [h7, h12, iff_false, false_iff, iff_true, true_iff, Classical.not_not, and_true, true_and, and_false, false_and, or_true, true_or, or_false, false_or, not_true_eq_false, not_false_eq_true, and_self, or_self, iff_self]; done) | (simp [h7, h12]; done) | simp_all), by kernel_rfl, hp2⟩
      · refine OPS.batch 0 {} [] [1, 13] [.pointer (some ⟨g3, 0, none⟩), .bool (decide (c.N < c.K))] .nil (by kernel_rfl) (fun b15 => ?_)
        refine OPS.re [.pointer (some ⟨g3, 0, none⟩), .bool false] (by rw [show (decide (c.N < c.K)) = false from Bp.dec.ff h12]) ?_
        refine OPS.batch 5 { wraps := [17] } [.int .i64 c.N] [1, 18] [.pointer (some ⟨g3, 0, none⟩), .bool (decide (255 < c.N))] (.cons (Ld.row1 (P := Try.prog) (t := 3) (o := 0) (v := .int .i64 c.N) hp2.get0 (by kernel_rfl)) .nil) (by kernel_rfl) (fun b16 => ?_)
        by_cases h17 : 255 < c.N
        · refine OPS.batch 0 {} [] [1, 18] [.pointer (some ⟨g3, 0, none⟩), .bool (decide (255 < c.N))] .nil (by kernel_rfl) (fun b18 => ?_)
          refine OPS.re [.pointer (some ⟨g3, 0, none⟩), .bool true] (by rw [show (decide (255 < c.N)) = true from Bp.dec.tt h17]) ?_
          refine OPS.batch 9 { wraps := [22, 27] } [] [27] [.bool true] .nil (by kernel_rfl) (fun b19 => ?_)
          refine OPS.nil ?_
          refine thn_n ?_
          exact ⟨true, trivial, Bp.of Bp.t (by first | (simp only [h7, h12, h17, iff_false, false_iff, iff_true, true_iff, Classical.not_not, and_true, true_and, and_false, false_and, or_true, true_or, or_false, false_or, not_true_eq_false, not_false_eq_true, and_self, or_self, iff_self]; done) | (simp [h7, h12, h17]; done) | simp_all), by kernel_rfl, hp2⟩
        · refine OPS.batch 0 {} [] [1, 18] [.pointer (some ⟨g3, 0, none⟩), .bool (decide (255 < c.N))] .nil (by kernel_rfl) (fun b20 => ?_)
          refine OPS.re [.pointer (some ⟨g3, 0, none⟩), .bool false] (by rw [show (decide (255 < c.N)) = false from Bp.dec.ff h17]) ?_
          refine OPS.batch 5 { wraps := [22] } [.int .i64 c.Delta] [1, 23] [.pointer (some ⟨g3, 0, none⟩), .bool (decide (c.Delta < 0))] (.cons (Ld.row1 (P := Try.prog) (t := 3) (o := 2) (v := .int .i64 c.Delta) hp2.get0 (by kernel_rfl)) .nil) (by kernel_rfl) (fun b21 => ?_)
          by_cases h22 : c.Delta < 0
          · refine OPS.batch 0 {} [] [1, 23] [.pointer (some ⟨g3, 0, none⟩), .bool (decide (c.Delta < 0))] .nil (by kernel_rfl) (fun b23 => ?_)
            refine OPS.re [.pointer (some ⟨g3, 0, none⟩), .bool true] (by rw [show (decide (c.Delta < 0)) = true from Bp.dec.tt h22]) ?_
            refine OPS.batch 4 { wraps := [27] } [] [27] [.bool true] .nil (by kernel_rfl) (fun b24 => ?_)
            refine OPS.nil ?_
            refine thn_n ?_
            exact ⟨true, trivial, Bp.of Bp.t (by first | (simp only [h7, h12, h17, h22, iff_false, false_iff, iff_true, true_iff, Classical.not_not, and_true, true_and, and_false, false_and, or_true, true_or, or_false, false_or, not_true_eq_false, not_false_eq_true, and_self, or_self, iff_self]; done) | (simp [h7, h12, h17, h22]; done) | simp_all), by kernel_rfl, hp2⟩
          · refine OPS.batch 0 {} [] [1, 23] [.pointer (some ⟨g3, 0, none⟩), .bool (decide (c.Delta < 0))] .nil (by kernel_rfl) (fun b25 => ?_)
            refine OPS.re [.pointer (some ⟨g3, 0, none⟩), .bool false] (by rw [show (decide (c.Delta < 0)) = false from Bp.dec.ff h22]) ?_
            refine OPS.batch 4 { wraps := [27] } [.int .i64 c.Delta] [27] [.bool (decide (4611686018427387903 < c.Delta))] (.cons (Ld.row1 (P := Try.prog) (t := 3) (o := 2) (v := .int .i64 c.Delta) hp2.get0 (by kernel_rfl)) .nil) (by kernel_rfl) (fun b26 => ?_)
            refine OPS.nil ?_
            refine thn_n ?_
            exact ⟨decide (4611686018427387903 < c.Delta), trivial, Bp.of Bp.dec (by first | (simp only [h7, h12, h17, h22, iff_false, false_iff, iff_true, true_iff, Classical.not_not, and_true, true_and, and_false, false_and, or_true, true_or, or_false, false_or, not_true_eq_false, not_false_eq_true, and_self, or_self, iff_self]; done) | (simp [h7, h12, h17, h22]; done) | simp_all), by kernel_rfl, hp2⟩
  rintro e29 w30 ⟨x27, hd32, hb28, hE33, hp31⟩
  obtain ⟨b34, rfl⟩ := toMk hE33
  clear hE33
  clear hd32
  refine WP.test (p := ((c.K < 1)) ∨ ((¬ (c.K < 1)) ∧ (c.N < c.K)) ∨ ((¬ (c.K < 1)) ∧ (¬ (c.N < c.K)) ∧ (255 < c.N)) ∨ ((¬ (c.K < 1)) ∧ (¬ (c.N < c.K)) ∧ (¬ (255 < c.N)) ∧ (c.Delta < 0)) ∨ ((¬ (c.K < 1)) ∧ (¬ (c.N < c.K)) ∧ (¬ (255 < c.N)) ∧ (¬ (c.Delta < 0)) ∧ (4611686018427387903 < c.Delta))) rfl hb28 (fun h35 => ?_) (fun h35 => ?_)
  · refine WP.seq ?_
    refine WP.pure {} [] [2] [.int .i64 40] .nil (by kernel_rfl) (fun b36 => ?_)
    refine thn_n ?_
    refine WP.ret ?_
    refine thn_r ?_
    refine bodyQ.of _ rfl [.int .i64 40] ⟨rfl, trivial⟩ ?_
    exact ⟨by simp only [pack, qChk]; rw [if_neg (by unfold okCfg; omega)], hp31.fr⟩
  · refine WP.skip ?_
    refine thn_n ?_
    refine WP.seq ?_
    refine WP.pure {} [] [2] [.int .i64 0] .nil (by kernel_rfl) (fun b37 => ?_)
    refine thn_n ?_
    refine WP.ret ?_
    refine bodyQ.of _ rfl [.int .i64 0] ⟨rfl, trivial⟩ ?_
    exact ⟨by simp only [pack, qChk]; rw [if_pos (by unfold okCfg; omega)], hp31.fr⟩

theorem r_Size (c : GConfig) (w : World) :
    Calls Try.prog 99 #[GConfig.val c] w (fun r_ w' => r_ = .returned (.tuple #[.int .i64 (qSize c), .int .i64 (qChk c)]) ∧ Fram Non w w') := by
  have hq0 := q_cases c
  have hq : (qChk c = 0 ∧ 1 ≤ c.K ∧ c.K ≤ c.N ∧ c.N ≤ 255 ∧ (2 * qSize c = c.N + c.K ∨ 2 * qSize c = c.N + c.K + 1)) ∨ (qChk c = 40 ∧ qSize c = 0) := by rcases hq0 with q | q; exact .inl q.2; exact .inr q.2
  have htd : 0 ≤ c.N + c.K + 1 → (c.N + c.K + 1).tdiv 2 = (c.N + c.K + 1) / 2 := fun h => Int.tdiv_eq_ediv_of_nonneg h
  refine calls_of Try.func99 rfl 19 rfl (by simp) ?_
  have hp0 := Hp.init w
  have he0 : List.map (env0 [GConfig.val c]) [0] = [GConfig.val c] := by kernel_rfl
  obtain ⟨b0, he0⟩ := toMk he0
  rw [he0]
  clear he0
  refine WP.seq ?_
  refine WP.region _ rfl (by kernel_rfl) ?_
  refine OPS.cons (opStep.box hp0 [.int .i64 c.N, .int .i64 c.K, .int .i64 c.Delta] (by kernel_rfl) (fun g3 w1 hp2 => ?_))
  refine OPS.batch 2 {} [] [1] [.pointer (some ⟨g3, 0, none⟩)] .nil (by kernel_rfl) (fun b4 => ?_)
  refine OPS.nil ?_
  refine thn_n ?_
  refine WP.seq ?_
  refine WP.seq ?_
  refine WP.region _ rfl (by kernel_rfl) ?_
  refine OPS.batch 1 {} [GConfig.val c] [1, 5] [.pointer (some ⟨g3, 0, none⟩), GConfig.val c] (.cons (show Ld Try.prog w1 23 ⟨g3, 0, none⟩ (GConfig.val c) from Ld.rowN (cs := [.int .i64 c.N, .int .i64 c.K, .int .i64 c.Delta]) hp2.get0 (by kernel_rfl)) .nil) (by kernel_rfl) (fun b5 => ?_)
  refine OPS.cons (opStep.call (some 6) [GConfig.val c] (by kernel_rfl) (r_Check c _) ?_)
  rintro _ w8 ⟨rfl, hf9⟩
  refine ⟨_, rfl, ?_⟩
  have hp10 := hp2.step hf9
  refine OPS.batch 1 {} [] [1, 7] [.pointer (some ⟨g3, 0, none⟩), .bool (decide (¬ ((qChk c) = 0)))] .nil (by kernel_rfl) (fun b11 => ?_)
  refine OPS.nil ?_
  refine thn_n ?_
  refine WP.test (p := ¬ ((qChk c) = 0)) rfl Bp.dec (fun h12 => ?_) (fun h12 => ?_)
  · refine WP.seq ?_
    refine WP.pure {} [] [2, 3] [.int .i64 0, .int .i64 40] .nil (by kernel_rfl) (fun b13 => ?_)
    refine thn_n ?_
    refine WP.ret ?_
    refine thn_r ?_
    refine bodyQ.of _ rfl [.int .i64 0, .int .i64 40] ⟨rfl, rfl, trivial⟩ ?_
    exact ⟨by rcases hq0 with ⟨hq1, hq2, hq3⟩ | ⟨hq1, hq2, hq3⟩ <;> first | omega | (rw [show (0 : Int) = qSize c from by omega]; simp only [pack, hq2]) | (simp [pack, qSize, hq1, hq2]; done), hp10.fr⟩
  · replace h12 := Classical.not_not.1 h12
    refine WP.skip ?_
    refine thn_n ?_
    refine WP.seq ?_
    refine WP.pure {} [] [1, 4] [.pointer (some ⟨g3, 0, none⟩), .int .i64 0] .nil (by kernel_rfl) (fun b14 => ?_)
    refine thn_n ?_
    refine WP.seq ?_
    refine WP.block ?_
    refine WP.loop (fun mz_ e15 w16 => ∃ (k : Nat), mz_ = (c.N + c.K + 2).toNat - 2 * k ∧ (2 * (k : Int) < c.N + c.K + 2) ∧ List.map e15 [1, 4] = [.pointer (some ⟨g3, 0, none⟩), .int .i64 (k : Int)] ∧ Hp w Non [Res.row g3 [.int .i64 c.N, .int .i64 c.K, .int .i64 c.Delta] 23] w16) ((c.N + c.K + 2).toNat - 2 * (0)) ⟨0, rfl, (by omega), by kernel_rfl, hp10⟩ ?_
    rintro _ e15 w16 ⟨k, rfl, hI18, hE19, hp17⟩
    obtain ⟨b20, rfl⟩ := toMk hE19
    clear hE19
    refine WP.seq ?_
    refine WP.seq ?_
    refine WP.pure {} [.int .i64 c.N, .int .i64 c.K] [1, 4, 15] [.pointer (some ⟨g3, 0, none⟩), .int .i64 (k : Int), .bool (decide ((2 * (k : Int)) < (c.N + c.K)))] (.cons (show Rng .i64 (2 * (k : Int)) from Rng.i64 (by omega)) (.cons (Ld.row1 (P := Try.prog) (t := 3) (o := 0) (v := .int .i64 c.N) hp17.get0 (by kernel_rfl)) (.cons (Ld.row1 (P := Try.prog) (t := 3) (o := 1) (v := .int .i64 c.K) hp17.get0 (by kernel_rfl)) (.cons (show Rng .i64 (c.N + c.K) from Rng.i64 (by omega)) .nil)))) (by kernel_rfl) (fun b21 => ?_)
    refine thn_n ?_
    refine WP.test (p := (2 * (k : Int)) < (c.N + c.K)) rfl Bp.dec (fun h22 => ?_) (fun h22 => ?_)
    · refine WP.skip ?_
      refine thn_n ?_
      refine WP.block ?_
      refine WP.pure {} [] [1, 4] [.pointer (some ⟨g3, 0, none⟩), .int .i64 ((k : Int) + 1)] (.cons (show Rng .i64 ((k : Int) + 1) from Rng.i64 (by omega)) .nil) (by kernel_rfl) (fun b23 => ?_)
      refine blk_n ?_
      refine thn_n ?_
      exact ⟨(c.N + c.K + 2).toNat - 2 * (k + 1), (by omega), k + 1, rfl, (by omega), by kernel_rfl, hp17⟩
    · refine WP.exit ?_
      refine thn_x ?_
      refine thn_x ?_
      refine blk_hit ?_
      refine thn_n ?_
      refine WP.seq ?_
      refine WP.pure {} [] [2, 3] [.int .i64 (k : Int), .int .i64 0] .nil (by kernel_rfl) (fun b24 => ?_)
      refine thn_n ?_
      refine WP.ret ?_
      refine bodyQ.of _ rfl [.int .i64 (k : Int), .int .i64 0] ⟨rfl, rfl, trivial⟩ ?_
      exact ⟨by rcases hq0 with ⟨hq1, hq2, hq3⟩ | ⟨hq1, hq2, hq3⟩ <;> first | omega | (rw [show ((k : Int) : Int) = qSize c from by omega]; simp only [pack, hq2]) | (simp [pack, qSize, hq1, hq2]; done), hp17.fr⟩

def inP (c : GConfig) (x : Int) : Prop := 0 ≤ x ∧ x < c.N
instance (c : GConfig) (x : Int) : Decidable (inP c x) := by unfold inP; exact inferInstance
def ansP {ν : Type} (c : GConfig) (l : List (Int × ν)) (s : Int) (v : ν) : List (Int × ν) := if inP c s then mapPut l s v else l
def errP (c : GConfig) (x : Int) : Int := if inP c x then 0 else 51
def missP {ν : Type} (l : List (Int × ν)) (n : Nat) : List Nat := (List.range n).filter fun i => !(mapV l (i : Int)).isSome
theorem missP_succ {ν : Type} {l : List (Int × ν)} {k : Nat} {xs : List Nat} (h : xs = missP l k) : (¬ (mapV l (k : Int)).isSome = true → xs ++ [k] = missP l (k + 1)) ∧ ((mapV l (k : Int)).isSome = true → xs = missP l (k + 1)) := by
  subst h
  unfold missP
  rw [List.range_succ, List.filter_append]
  constructor
  · intro q
    have q2 : (mapV l (k : Int)).isSome = false := Bool.eq_false_iff.2 q
    rw [show List.filter (fun i : Nat => !(mapV l (i : Int)).isSome) [k] = [k] from by simp only [List.filter, q2, Bool.not_false]]
  · intro q
    rw [show List.filter (fun i : Nat => !(mapV l (i : Int)).isSome) [k] = [] from by simp only [List.filter, q, Bool.not_true], List.append_nil]
theorem missP_le {ν : Type} (l : List (Int × ν)) (n : Nat) : (missP l n).length ≤ n := by unfold missP; exact Nat.le_trans (List.length_filter_le _ _) (by simp)

theorem pi_New (c : GConfig) (w : World) (hok : okCfg c) :
    Calls Try.prog 23 #[GConfig.val c] w (fun r_ w' => ∃ b mb, r_ = .returned (.tuple #[.pointer (some ⟨b, 0, none⟩), .int .i64 0]) ∧ Hp w Non [Res.row b [.int .i64 c.N, .int .i64 c.K, .int .i64 c.Delta, .map (some mb)] 98, Res.mp mb kI vI ([] : List (Int × Int))] w') := by
  have hz := qChk_ok hok
  refine calls_of Try.func23 rfl 14 rfl (by simp) ?_
  have hp0 := Hp.init w
  have he0 : List.map (env0 [GConfig.val c]) [0] = [GConfig.val c] := by kernel_rfl
  obtain ⟨b0, he0⟩ := toMk he0
  rw [he0]
  clear he0
  refine WP.seq ?_
  refine WP.region _ rfl (by kernel_rfl) ?_
  refine OPS.cons (opStep.box hp0 [.int .i64 c.N, .int .i64 c.K, .int .i64 c.Delta] (by kernel_rfl) (fun g3 w1 hp2 => ?_))
  refine OPS.batch 2 {} [] [1] [.pointer (some ⟨g3, 0, none⟩)] .nil (by kernel_rfl) (fun b4 => ?_)
  refine OPS.nil ?_
  refine thn_n ?_
  refine WP.seq ?_
  refine WP.seq ?_
  refine WP.region _ rfl (by kernel_rfl) ?_
  refine OPS.batch 1 {} [GConfig.val c] [1, 5] [.pointer (some ⟨g3, 0, none⟩), GConfig.val c] (.cons (show Ld Try.prog w1 23 ⟨g3, 0, none⟩ (GConfig.val c) from Ld.rowN (cs := [.int .i64 c.N, .int .i64 c.K, .int .i64 c.Delta]) hp2.get0 (by kernel_rfl)) .nil) (by kernel_rfl) (fun b5 => ?_)
  refine OPS.cons (opStep.call (some 6) [GConfig.val c] (by kernel_rfl) (q_Check c _) ?_)
  rintro _ w8 ⟨rfl, hf9⟩
  refine ⟨_, rfl, ?_⟩
  have hp10 := hp2.step hf9
  refine OPS.batch 1 {} [] [1, 4] [.pointer (some ⟨g3, 0, none⟩), .int .i64 (qChk c)] .nil (by kernel_rfl) (fun b11 => ?_)
  refine OPS.nil ?_
  refine thn_n ?_
  refine WP.seq ?_
  refine WP.pure {} [] [1, 4, 8] [.pointer (some ⟨g3, 0, none⟩), .int .i64 (qChk c), .bool (decide (¬ ((qChk c) = 0)))] .nil (by kernel_rfl) (fun b12 => ?_)
  refine thn_n ?_
  refine WP.test (p := ¬ ((qChk c) = 0)) rfl Bp.dec (fun h13 => ?_) (fun h13 => ?_)
  · refine WP.seq ?_
    refine WP.pure {} [] [2, 3] [.pointer none, .int .i64 (qChk c)] .nil (by kernel_rfl) (fun b14 => ?_)
    refine thn_n ?_
    refine WP.ret ?_
    refine thn_r ?_
    refine bodyQ.of _ rfl [.pointer none, .int .i64 (qChk c)] ⟨rfl, rfl, trivial⟩ ?_
    exfalso
    rw [hz] at h13
    exact absurd rfl h13
  · replace h13 := Classical.not_not.1 h13
    refine WP.skip ?_
    refine thn_n ?_
    refine WP.seq ?_
    refine WP.region _ rfl (by kernel_rfl) ?_
    refine OPS.batch 1 {} [GConfig.val c] [10] [GConfig.val c] (.cons (show Ld Try.prog w8 23 ⟨g3, 0, none⟩ (GConfig.val c) from Ld.rowN (cs := [.int .i64 c.N, .int .i64 c.K, .int .i64 c.Delta]) hp10.get0 (by kernel_rfl)) .nil) (by kernel_rfl) (fun b15 => ?_)
    refine OPS.cons (opStep.makeMapK kI vI hp10 (fun g18 w16 hp17 => ?_))
    refine OPS.batch 1 {} [] [12] [.agg #[.int .i64 c.N, .int .i64 c.K, .int .i64 c.Delta, .map (some g18)]] .nil (by kernel_rfl) (fun b19 => ?_)
    refine OPS.cons (opStep.box hp17 [.int .i64 c.N, .int .i64 c.K, .int .i64 c.Delta, .map (some g18)] (by kernel_rfl) (fun g22 w20 hp21 => ?_))
    refine OPS.batch 2 {} [] [2, 3] [.pointer (some ⟨g22, 0, none⟩), .int .i64 0] .nil (by kernel_rfl) (fun b23 => ?_)
    refine OPS.nil ?_
    refine thn_n ?_
    refine WP.ret ?_
    refine bodyQ.of _ rfl [.pointer (some ⟨g22, 0, none⟩), .int .i64 0] ⟨rfl, rfl, trivial⟩ ?_
    exact ⟨_, _, rfl, (hp21.sub (.cons_cons _ (.cons_cons _ (.cons _ (.slnil)))))⟩

theorem pi_Answer (w0 : World) (L : List Res) (b mb : Nat) (c : GConfig) (l : List (Int × Int)) (w : World) (s : Int) (v : Int) (hp0 : Hp w0 Non (Res.row b [.int .i64 c.N, .int .i64 c.K, .int .i64 c.Delta, .map (some mb)] 98 :: Res.mp mb kI vI l :: L) w) :
    Calls Try.prog 53 #[.pointer (some ⟨b, 0, none⟩), .int .i64 s, .int .i64 v] w (fun r_ w' => ∃ f_, r_ = .returned (.tuple #[.bool f_, .int .i64 (errP c s)]) ∧ Bp f_ (inP c s ∧ ¬ (mapV l s).isSome = true) ∧ Hp w0 Non (Res.row b [.int .i64 c.N, .int .i64 c.K, .int .i64 c.Delta, .map (some mb)] 98 :: Res.mp mb kI vI (ansP c l s v) :: L) w') := by
  refine calls_of Try.func53 rfl 40 rfl (by simp) ?_
  have he0 : List.map (env0 [.pointer (some ⟨b, 0, none⟩), .int .i64 s, .int .i64 v]) [0, 1, 2] = [.pointer (some ⟨b, 0, none⟩), .int .i64 s, .int .i64 v] := by kernel_rfl
  obtain ⟨b0, he0⟩ := toMk he0
  rw [he0]
  clear he0
  refine WP.seq ?_
  refine WP.pure {} [] [0, 1, 2] [.pointer (some ⟨b, 0, none⟩), .int .i64 s, .int .i64 v] .nil (by kernel_rfl) (fun b1 => ?_)
  refine thn_n ?_
  refine WP.seq ?_
  refine WP.seq ?_
  refine WP.pure {} [] [0, 1, 2, 11] [.pointer (some ⟨b, 0, none⟩), .int .i64 s, .int .i64 v, .bool false] .nil (by kernel_rfl) (fun b2 => ?_)
  refine thn_n ?_
  refine WP.condF rfl ?_
  refine WP.skip ?_
  refine thn_n ?_
  refine WP.seq ?_
  refine WP.cut (fun e12 w13 => ∃ (x10 : Bool), (True) ∧ Bp x10 (((s < 0)) ∨ ((¬ (s < 0)) ∧ (c.N ≤ s))) ∧ List.map e12 [0, 1, 2, 22] = [.pointer (some ⟨b, 0, none⟩), .int .i64 s, .int .i64 v, .bool x10] ∧ Hp w0 Non (Res.row b [.int .i64 c.N, .int .i64 c.K, .int .i64 c.Delta, .map (some mb)] 98 :: Res.mp mb kI vI l :: L) w13) ?_ ?_
  · refine WP.region _ rfl (by kernel_rfl) ?_
    refine OPS.batch 3 {} [] [0, 1, 2, 14] [.pointer (some ⟨b, 0, none⟩), .int .i64 s, .int .i64 v, .bool (decide (s < 0))] .nil (by kernel_rfl) (fun b4 => ?_)
    by_cases h5 : s < 0
    · refine OPS.batch 0 {} [] [0, 1, 2, 14] [.pointer (some ⟨b, 0, none⟩), .int .i64 s, .int .i64 v, .bool (decide (s < 0))] .nil (by kernel_rfl) (fun b6 => ?_)
      refine OPS.re [.pointer (some ⟨b, 0, none⟩), .int .i64 s, .int .i64 v, .bool true] (by rw [show (decide (s < 0)) = true from Bp.dec.tt h5]) ?_
      refine OPS.batch 8 { wraps := [22] } [] [0, 1, 2, 22] [.pointer (some ⟨b, 0, none⟩), .int .i64 s, .int .i64 v, .bool true] .nil (by kernel_rfl) (fun b7 => ?_)
      refine OPS.nil ?_
      refine thn_n ?_
      exact ⟨true, trivial, Bp.of Bp.t (by first | (simp only [h5, iff_false, false_iff, iff_true, true_iff, Classical.not_not, and_true, true_and, and_false, false_and, or_true, true_or, or_false, false_or, not_true_eq_false, not_false_eq_true, and_self, or_self, iff_self]; done) | (simp [h5]; done) | simp_all), by kernel_rfl, hp0⟩
    · refine OPS.batch 0 {} [] [0, 1, 2, 14] [.pointer (some ⟨b, 0, none⟩), .int .i64 s, .int .i64 v, .bool (decide (s < 0))] .nil (by kernel_rfl) (fun b8 => ?_)
      refine OPS.re [.pointer (some ⟨b, 0, none⟩), .int .i64 s, .int .i64 v, .bool false] (by rw [show (decide (s < 0)) = false from Bp.dec.ff h5]) ?_
      refine OPS.batch 8 { wraps := [22] } [.int .i64 c.N] [0, 1, 2, 22] [.pointer (some ⟨b, 0, none⟩), .int .i64 s, .int .i64 v, .bool (decide (c.N ≤ s))] (.cons (Ld.row1 (P := Try.prog) (t := 3) (o := 0) (v := .int .i64 c.N) hp0.get0 (by kernel_rfl)) .nil) (by kernel_rfl) (fun b9 => ?_)
      refine OPS.nil ?_
      refine thn_n ?_
      exact ⟨decide (c.N ≤ s), trivial, Bp.of Bp.dec (by first | (simp only [h5, iff_false, false_iff, iff_true, true_iff, Classical.not_not, and_true, true_and, and_false, false_and, or_true, true_or, or_false, false_or, not_true_eq_false, not_false_eq_true, and_self, or_self, iff_self]; done) | (simp [h5]; done) | simp_all), by kernel_rfl, hp0⟩
  rintro e12 w13 ⟨x10, hd15, hb11, hE16, hp14⟩
  obtain ⟨b17, rfl⟩ := toMk hE16
  clear hE16
  clear hd15
  refine WP.test (p := ((s < 0)) ∨ ((¬ (s < 0)) ∧ (c.N ≤ s))) rfl hb11 (fun h18 => ?_) (fun h18 => ?_)
  · refine WP.seq ?_
    refine WP.pure {} [] [6, 7] [.bool false, .int .i64 51] .nil (by kernel_rfl) (fun b19 => ?_)
    refine thn_n ?_
    refine WP.ret ?_
    refine thn_r ?_
    refine bodyQ.of _ rfl [.bool false, .int .i64 51] ⟨rfl, rfl, trivial⟩ ?_
    have hin_ : ¬ inP c s := by unfold inP; omega
    exact ⟨_, by simp only [pack, errP]; rw [if_neg hin_], Bp.of Bp.f (by simp [hin_]), by unfold ansP; rw [if_neg hin_]; exact hp14⟩
  · refine WP.skip ?_
    refine thn_n ?_
    refine WP.seq ?_
    refine WP.pure {} [.map (some mb), .tuple #[.int .i64 ((mapV l s).getD 0), .bool ((mapV l s).isSome)]] [0, 1, 2, 9] [.pointer (some ⟨b, 0, none⟩), .int .i64 s, .int .i64 v, .bool ((mapV l s).isSome)] (.cons (Ld.row1 (P := Try.prog) (t := 96) (o := 3) (v := .map (some mb)) hp14.get0 (by kernel_rfl)) (.cons (Lk.okD (vf := vI) (keyInt (by exact Try.underlying3)) (by exact Try.underlying96) hp14.get1 s 0 (by kernel_rfl)) .nil)) (by kernel_rfl) (fun b20 => ?_)
    refine thn_n ?_
    refine WP.seq ?_
    refine WP.region _ rfl (by kernel_rfl) ?_
    refine OPS.batch 6 {} [.map (some mb)] [9, 35, 36, 37] [.bool ((mapV l s).isSome), .map (some mb), .int .i64 s, .int .i64 v] (.cons (Ld.row1 (P := Try.prog) (t := 96) (o := 3) (v := .map (some mb)) hp14.get0 (by kernel_rfl)) .nil) (by kernel_rfl) (fun b21 => ?_)
    have hp24 := hp14.pull1
    refine OPS.cons (opStep.mapUpdateN (keyInt (by exact Try.underlying3)) (by exact Try.underlying96) hp24 s v (by kernel_rfl) (fun w22 hp23 => ?_))
    refine OPS.nil ?_
    refine thn_n ?_
    refine WP.seq ?_
    refine WP.pure {} [] [6, 7] [.bool (!((mapV l s).isSome)), .int .i64 0] .nil (by kernel_rfl) (fun b25 => ?_)
    refine thn_n ?_
    refine WP.ret ?_
    refine bodyQ.of _ rfl [.bool (!((mapV l s).isSome)), .int .i64 0] ⟨rfl, rfl, trivial⟩ ?_
    have hin_ : inP c s := by unfold inP; omega
    exact ⟨_, by simp only [pack, errP]; rw [if_pos hin_], Bp.of (Bp.not Bp.var) (by simp [hin_]), by unfold ansP; rw [if_pos hin_]; exact (((hp23.pull0).pull1).sub (.cons_cons _ (.cons_cons _ (.refl _))))⟩

theorem pi_Len (w0 : World) (L : List Res) (b mb : Nat) (c : GConfig) (l : List (Int × Int)) (w : World) (hp0 : Hp w0 Non (Res.row b [.int .i64 c.N, .int .i64 c.K, .int .i64 c.Delta, .map (some mb)] 98 :: Res.mp mb kI vI l :: L) w) :
    Calls Try.prog 62 #[.pointer (some ⟨b, 0, none⟩)] w (fun r_ w' => r_ = .returned (.int .i64 ((l.length : Nat) : Int)) ∧ Hp w0 Non (Res.row b [.int .i64 c.N, .int .i64 c.K, .int .i64 c.Delta, .map (some mb)] 98 :: Res.mp mb kI vI l :: L) w') := by
  refine calls_of Try.func62 rfl 10 rfl (by simp) ?_
  have he0 : List.map (env0 [.pointer (some ⟨b, 0, none⟩)]) [0] = [.pointer (some ⟨b, 0, none⟩)] := by kernel_rfl
  obtain ⟨b0, he0⟩ := toMk he0
  rw [he0]
  clear he0
  refine WP.seq ?_
  refine WP.pure {} [] [0] [.pointer (some ⟨b, 0, none⟩)] .nil (by kernel_rfl) (fun b1 => ?_)
  refine thn_n ?_
  refine WP.seq ?_
  refine WP.seq ?_
  refine WP.pure {} [] [0, 4] [.pointer (some ⟨b, 0, none⟩), .bool false] .nil (by kernel_rfl) (fun b2 => ?_)
  refine thn_n ?_
  refine WP.condF rfl ?_
  refine WP.skip ?_
  refine thn_n ?_
  refine WP.seq ?_
  refine WP.region _ rfl (by kernel_rfl) ?_
  refine OPS.batch 4 {} [.map (some mb)] [8] [.map (some mb)] (.cons (Ld.row1 (P := Try.prog) (t := 96) (o := 3) (v := .map (some mb)) hp0.get0 (by kernel_rfl)) .nil) (by kernel_rfl) (fun b3 => ?_)
  have hp6 := hp0.pull1
  refine OPS.cons (opStep.lenMap (by kernel_rfl) hp6 (by kernel_rfl) ?_)
  refine OPS.batch 1 {} [] [2] [.int .i64 ((l.length : Nat) : Int)] .nil (by kernel_rfl) (fun b7 => ?_)
  refine OPS.nil ?_
  refine thn_n ?_
  refine WP.ret ?_
  refine bodyQ.of _ rfl [.int .i64 ((l.length : Nat) : Int)] ⟨rfl, trivial⟩ ?_
  exact ⟨rfl, (((hp6.pull0).pull1).sub (.cons_cons _ (.cons_cons _ (.refl _))))⟩

theorem pi_Met (w0 : World) (L : List Res) (b mb : Nat) (c : GConfig) (l : List (Int × Int)) (w : World) (hp0 : Hp w0 Non (Res.row b [.int .i64 c.N, .int .i64 c.K, .int .i64 c.Delta, .map (some mb)] 98 :: Res.mp mb kI vI l :: L) w) :
    Calls Try.prog 60 #[.pointer (some ⟨b, 0, none⟩)] w (fun r_ w' => ∃ f_, r_ = .returned (.bool f_) ∧ Bp f_ (qSize c ≤ ((l.length : Nat) : Int)) ∧ Hp w0 Non (Res.row b [.int .i64 c.N, .int .i64 c.K, .int .i64 c.Delta, .map (some mb)] 98 :: Res.mp mb kI vI l :: L) w') := by
  refine calls_of Try.func60 rfl 22 rfl (by simp) ?_
  have he0 : List.map (env0 [.pointer (some ⟨b, 0, none⟩)]) [0] = [.pointer (some ⟨b, 0, none⟩)] := by kernel_rfl
  obtain ⟨b0, he0⟩ := toMk he0
  rw [he0]
  clear he0
  refine WP.seq ?_
  refine WP.pure {} [] [0] [.pointer (some ⟨b, 0, none⟩)] .nil (by kernel_rfl) (fun b1 => ?_)
  refine thn_n ?_
  refine WP.seq ?_
  refine WP.seq ?_
  refine WP.pure {} [] [0, 6] [.pointer (some ⟨b, 0, none⟩), .bool false] .nil (by kernel_rfl) (fun b2 => ?_)
  refine thn_n ?_
  refine WP.condF rfl ?_
  refine WP.skip ?_
  refine thn_n ?_
  refine WP.seq ?_
  refine WP.region _ rfl (by kernel_rfl) ?_
  refine OPS.batch 4 {} [.agg #[.int .i64 c.N, .int .i64 c.K, .int .i64 c.Delta]] [0, 11] [.pointer (some ⟨b, 0, none⟩), .agg #[.int .i64 c.N, .int .i64 c.K, .int .i64 c.Delta]] (.cons (show Ld Try.prog w 23 ⟨b, 0, none⟩ (.agg #[.int .i64 c.N, .int .i64 c.K, .int .i64 c.Delta]) from Ld.rowN (cs := [.int .i64 c.N, .int .i64 c.K, .int .i64 c.Delta]) hp0.get0 (by kernel_rfl)) .nil) (by kernel_rfl) (fun b3 => ?_)
  refine OPS.cons (opStep.call (some 12) [.agg #[.int .i64 c.N, .int .i64 c.K, .int .i64 c.Delta]] (by kernel_rfl) (q_Size c _) ?_)
  rintro _ w6 ⟨rfl, hf7⟩
  refine ⟨_, rfl, ?_⟩
  have hp8 := hp0.step hf7
  refine OPS.batch 5 {} [] [0, 3] [.pointer (some ⟨b, 0, none⟩), .int .i64 (qSize c)] .nil (by kernel_rfl) (fun b9 => ?_)
  refine OPS.nil ?_
  refine thn_n ?_
  refine WP.seq ?_
  refine WP.region _ rfl (by kernel_rfl) ?_
  refine OPS.batch 4 {} [.map (some mb)] [3, 18] [.int .i64 (qSize c), .map (some mb)] (.cons (Ld.row1 (P := Try.prog) (t := 96) (o := 3) (v := .map (some mb)) hp8.get0 (by kernel_rfl)) .nil) (by kernel_rfl) (fun b10 => ?_)
  have hp13 := hp8.pull1
  refine OPS.cons (opStep.lenMap (by kernel_rfl) hp13 (by kernel_rfl) ?_)
  refine OPS.batch 3 {} [] [2] [.bool (decide ((qSize c) ≤ ((l.length : Nat) : Int)))] .nil (by kernel_rfl) (fun b14 => ?_)
  refine OPS.nil ?_
  refine thn_n ?_
  refine WP.ret ?_
  refine bodyQ.of _ rfl [.bool (decide ((qSize c) ≤ ((l.length : Nat) : Int)))] ⟨rfl, trivial⟩ ?_
  exact ⟨_, rfl, Bp.of Bp.dec (by first | rfl | simp_all), (((hp13.pull0).pull1).sub (.cons_cons _ (.cons_cons _ (.refl _))))⟩

theorem pi_Get (w0 : World) (L : List Res) (b mb : Nat) (c : GConfig) (l : List (Int × Int)) (w : World) (s : Int) (hp0 : Hp w0 Non (Res.row b [.int .i64 c.N, .int .i64 c.K, .int .i64 c.Delta, .map (some mb)] 98 :: Res.mp mb kI vI l :: L) w) :
    Calls Try.prog 55 #[.pointer (some ⟨b, 0, none⟩), .int .i64 s] w (fun r_ w' => r_ = .returned (.tuple #[.int .i64 ((mapV l s).getD 0), .bool ((mapV l s).isSome)]) ∧ Hp w0 Non (Res.row b [.int .i64 c.N, .int .i64 c.K, .int .i64 c.Delta, .map (some mb)] 98 :: Res.mp mb kI vI l :: L) w') := by
  refine calls_of Try.func55 rfl 23 rfl (by simp) ?_
  have he0 : List.map (env0 [.pointer (some ⟨b, 0, none⟩), .int .i64 s]) [0, 1] = [.pointer (some ⟨b, 0, none⟩), .int .i64 s] := by kernel_rfl
  obtain ⟨b0, he0⟩ := toMk he0
  rw [he0]
  clear he0
  refine WP.seq ?_
  refine WP.pure {} [] [0, 1] [.pointer (some ⟨b, 0, none⟩), .int .i64 s] .nil (by kernel_rfl) (fun b1 => ?_)
  refine thn_n ?_
  refine WP.seq ?_
  refine WP.pure {} [] [0, 1, 6] [.pointer (some ⟨b, 0, none⟩), .int .i64 s, .int .i64 0] .nil (by kernel_rfl) (fun b2 => ?_)
  refine thn_n ?_
  refine WP.seq ?_
  refine WP.seq ?_
  refine WP.pure {} [] [0, 1, 6, 10] [.pointer (some ⟨b, 0, none⟩), .int .i64 s, .int .i64 0, .bool false] .nil (by kernel_rfl) (fun b3 => ?_)
  refine thn_n ?_
  refine WP.condF rfl ?_
  refine WP.skip ?_
  refine thn_n ?_
  refine WP.seq ?_
  refine WP.pure {} [.map (some mb), .tuple #[.int .i64 ((mapV l s).getD 0), .bool ((mapV l s).isSome)]] [7, 8] [.int .i64 ((mapV l s).getD 0), .bool ((mapV l s).isSome)] (.cons (Ld.row1 (P := Try.prog) (t := 96) (o := 3) (v := .map (some mb)) hp0.get0 (by kernel_rfl)) (.cons (Lk.okD (vf := vI) (keyInt (by exact Try.underlying3)) (by exact Try.underlying96) hp0.get1 s 0 (by kernel_rfl)) .nil)) (by kernel_rfl) (fun b4 => ?_)
  refine thn_n ?_
  refine WP.seq ?_
  refine WP.pure {} [] [4, 5] [.int .i64 ((mapV l s).getD 0), .bool ((mapV l s).isSome)] .nil (by kernel_rfl) (fun b5 => ?_)
  refine thn_n ?_
  refine WP.ret ?_
  refine bodyQ.of _ rfl [.int .i64 ((mapV l s).getD 0), .bool ((mapV l s).isSome)] ⟨rfl, rfl, trivial⟩ ?_
  exact ⟨rfl, hp0⟩

theorem pi_Missing (w0 : World) (L : List Res) (b mb : Nat) (c : GConfig) (l : List (Int × Int)) (w : World) (hN : c.N ≤ 100000) (hp0 : Hp w0 Non (Res.row b [.int .i64 c.N, .int .i64 c.K, .int .i64 c.Delta, .map (some mb)] 98 :: Res.mp mb kI vI l :: L) w) :
    Calls Try.prog 59 #[.pointer (some ⟨b, 0, none⟩)] w (fun r_ w' => ∃ ao co, r_ = .returned (.slice ao (missP l c.N.toNat).length co) ∧ Hp w0 Non (Res.own 3 1 (.slice ao (missP l c.N.toNat).length co) (missP l c.N.toNat).length (List.flatMap (fun (y : Nat) => [Go.Value.int .i64 (y : Int)]) (missP l c.N.toNat)) :: Res.row b [.int .i64 c.N, .int .i64 c.K, .int .i64 c.Delta, .map (some mb)] 98 :: Res.mp mb kI vI l :: L) w') := by
  refine calls_of Try.func59 rfl 34 rfl (by simp) ?_
  have he0 : List.map (env0 [.pointer (some ⟨b, 0, none⟩)]) [0] = [.pointer (some ⟨b, 0, none⟩)] := by kernel_rfl
  obtain ⟨b0, he0⟩ := toMk he0
  rw [he0]
  clear he0
  refine WP.seq ?_
  refine WP.pure {} [] [0] [.pointer (some ⟨b, 0, none⟩)] .nil (by kernel_rfl) (fun b1 => ?_)
  refine thn_n ?_
  refine WP.seq ?_
  refine WP.pure {} [] [0, 3] [.pointer (some ⟨b, 0, none⟩), .slice none 0 0] .nil (by kernel_rfl) (fun b2 => ?_)
  refine thn_n ?_
  refine WP.seq ?_
  refine WP.seq ?_
  refine WP.pure {} [] [0, 3, 8] [.pointer (some ⟨b, 0, none⟩), .slice none 0 0, .bool false] .nil (by kernel_rfl) (fun b3 => ?_)
  refine thn_n ?_
  refine WP.condF rfl ?_
  refine WP.skip ?_
  refine thn_n ?_
  refine WP.seq ?_
  refine WP.seq ?_
  refine WP.pure {} [.int .i64 c.N] [0, 3, 13, 14] [.pointer (some ⟨b, 0, none⟩), .slice none 0 0, .int .i64 c.N, .int .i64 0] (.cons (Ld.row1 (P := Try.prog) (t := 3) (o := 0) (v := .int .i64 c.N) hp0.get0 (by kernel_rfl)) .nil) (by kernel_rfl) (fun b4 => ?_)
  refine thn_n ?_
  refine WP.block ?_
  have hp5 := (show Hp w0 Non (Res.own 3 1 (.slice none 0 0) 0 (List.flatMap (fun (y : Nat) => [Go.Value.int .i64 (y : Int)]) ([] : List Nat)) :: Res.row b [.int .i64 c.N, .int .i64 c.K, .int .i64 c.Delta, .map (some mb)] 98 :: Res.mp mb kI vI l :: L) w from hp0.nilOwn 3 1)
  refine WP.loop (fun mz_ e6 w7 => ∃ (k : Nat) (xs : List Nat) (ao : Option Addr) (no : Nat) (co : Nat), mz_ = c.N.toNat - k ∧ (k ≤ c.N.toNat ∧ xs = missP l k) ∧ List.map e6 [0, 3, 13, 14] = [.pointer (some ⟨b, 0, none⟩), .slice ao no co, .int .i64 c.N, .int .i64 (k : Int)] ∧ Hp w0 Non (Res.own 3 1 (.slice ao no co) no (List.flatMap (fun (y : Nat) => [Go.Value.int .i64 (y : Int)]) xs) :: Res.row b [.int .i64 c.N, .int .i64 c.K, .int .i64 c.Delta, .map (some mb)] 98 :: Res.mp mb kI vI l :: L) w7) (c.N.toNat - (0)) ⟨0, [], none, 0, 0, rfl, ⟨by omega, rfl⟩, by kernel_rfl, hp5⟩ ?_
  rintro _ e6 w7 ⟨k, xs, ao, no, co, rfl, hI9, hE10, hp8⟩
  obtain ⟨b11, rfl⟩ := toMk hE10
  clear hE10
  obtain ⟨pa, pb⟩ := hI9
  have pe := own_flat (sz := 1) (fun _ => rfl) (by decide) hp8.get0
  have pl := missP_le l k
  rw [← pb] at pl
  refine WP.seq ?_
  refine WP.pure {} [] [0, 3, 13, 14, 15] [.pointer (some ⟨b, 0, none⟩), .slice ao no co, .int .i64 c.N, .int .i64 (k : Int), .bool (decide ((k : Int) < c.N))] .nil (by kernel_rfl) (fun b12 => ?_)
  refine thn_n ?_
  refine WP.seq ?_
  refine WP.test (p := (k : Int) < c.N) rfl Bp.dec (fun h13 => ?_) (fun h13 => ?_)
  · refine WP.skip ?_
    refine thn_n ?_
    refine WP.seq ?_
    refine WP.block ?_
    refine WP.seq ?_
    refine WP.pure {} [] [0, 3, 4, 13, 14] [.pointer (some ⟨b, 0, none⟩), .slice ao no co, .int .i64 (k : Int), .int .i64 c.N, .int .i64 (k : Int)] .nil (by kernel_rfl) (fun b14 => ?_)
    refine thn_n ?_
    refine WP.seq ?_
    refine WP.pure {} [.map (some mb), .tuple #[.int .i64 ((mapV l (k : Int)).getD 0), .bool ((mapV l (k : Int)).isSome)]] [0, 3, 4, 6, 13, 14] [.pointer (some ⟨b, 0, none⟩), .slice ao no co, .int .i64 (k : Int), .bool ((mapV l (k : Int)).isSome), .int .i64 c.N, .int .i64 (k : Int)] (.cons (Ld.row1 (P := Try.prog) (t := 96) (o := 3) (v := .map (some mb)) hp8.get1 (by kernel_rfl)) (.cons (Lk.okD (vf := vI) (keyInt (by exact Try.underlying3)) (by exact Try.underlying96) hp8.get2 (k : Int) 0 (by kernel_rfl)) .nil)) (by kernel_rfl) (fun b15 => ?_)
    refine thn_n ?_
    refine WP.seq ?_
    refine WP.pure {} [] [0, 3, 4, 13, 14, 27] [.pointer (some ⟨b, 0, none⟩), .slice ao no co, .int .i64 (k : Int), .int .i64 c.N, .int .i64 (k : Int), .bool (!((mapV l (k : Int)).isSome))] .nil (by kernel_rfl) (fun b16 => ?_)
    refine thn_n ?_
    refine WP.test (p := ¬ (((mapV l (k : Int)).isSome) = true)) rfl (Bp.not Bp.var) (fun h17 => ?_) (fun h17 => ?_)
    · refine WP.region _ rfl (by kernel_rfl) ?_
      refine OPS.batch 2 {} [] [0, 13, 14, 28, 29] [.pointer (some ⟨b, 0, none⟩), .int .i64 c.N, .int .i64 (k : Int), .slice ao no co, .int .i64 (k : Int)] .nil (by kernel_rfl) (fun b18 => ?_)
      refine OPS.cons (opStep.buildSlice (E := 3) hp8 [.int .i64 (k : Int)] (by kernel_rfl) (fun g21 w19 hp20 => ?_))
      refine OPS.cons (opStep.append1 [.int .i64 (k : Int)] hp20 8 (by kernel_rfl) rfl rfl rfl (SlR.row (n := 1) hp20.get0 rfl).rd (List.all_eq_true.1 (by kernel_rfl)) (by decide) (by omega) (by omega) (fun a24 c25 w26 hp27 hn28 => ?_))
      rw [(show List.flatMap (fun (y : Nat) => [Go.Value.int .i64 (y : Int)]) xs ++ [.int .i64 (k : Int)] = List.flatMap (fun (y : Nat) => [Go.Value.int .i64 (y : Int)]) (xs ++ [k]) from (List.flatMap_append (xs := xs) (ys := [k])).symm)] at hp27
      refine OPS.batch 1 {} [] [0, 3, 13, 14] [.pointer (some ⟨b, 0, none⟩), .slice a24 (no + 1) c25, .int .i64 c.N, .int .i64 (k : Int)] .nil (by kernel_rfl) (fun b29 => ?_)
      refine OPS.nil ?_
      refine blk_n ?_
      refine thn_n ?_
      refine WP.pure {} [] [0, 3, 13, 14] [.pointer (some ⟨b, 0, none⟩), .slice a24 (no + 1) c25, .int .i64 c.N, .int .i64 ((k : Int) + 1)] (.cons (show Rng .i64 ((k : Int) + 1) from Rng.i64 (by omega)) .nil) (by kernel_rfl) (fun b30 => ?_)
      refine thn_n ?_
      exact ⟨c.N.toNat - (k + 1), (by omega), k + 1, xs ++ [k], a24, no + 1, c25, rfl, ⟨by omega, (missP_succ pb).1 h17⟩, by kernel_rfl, (hp27.sub (.cons _ (.cons_cons _ (.cons_cons _ (.cons_cons _ (.refl _))))))⟩
    · replace h17 := Classical.not_not.1 h17
      refine WP.skip ?_
      refine blk_n ?_
      refine thn_n ?_
      refine WP.pure {} [] [0, 3, 13, 14] [.pointer (some ⟨b, 0, none⟩), .slice ao no co, .int .i64 c.N, .int .i64 ((k : Int) + 1)] (.cons (show Rng .i64 ((k : Int) + 1) from Rng.i64 (by omega)) .nil) (by kernel_rfl) (fun b31 => ?_)
      refine thn_n ?_
      exact ⟨c.N.toNat - (k + 1), (by omega), k + 1, xs, ao, no, co, rfl, ⟨by omega, (missP_succ pb).2 h17⟩, by kernel_rfl, hp8⟩
  · refine WP.exit ?_
    refine thn_x ?_
    refine thn_x ?_
    refine blk_hit ?_
    refine thn_n ?_
    refine WP.seq ?_
    refine WP.pure {} [] [2] [.slice ao no co] .nil (by kernel_rfl) (fun b32 => ?_)
    refine thn_n ?_
    refine WP.ret ?_
    refine bodyQ.of _ rfl [.slice ao no co] ⟨rfl, trivial⟩ ?_
    have hkn : k = c.N.toNat := by omega
    rw [hkn] at pb
    obtain rfl : no = (missP l c.N.toNat).length := by rw [← pb]; omega
    subst pb
    exact ⟨_, _, rfl, hp8⟩

theorem ps_New (c : GConfig) (w : World) (hok : okCfg c) :
    Calls Try.prog 64 #[GConfig.val c] w (fun r_ w' => ∃ b mb, r_ = .returned (.tuple #[.pointer (some ⟨b, 0, none⟩), .int .i64 0]) ∧ Hp w Non [Res.row b [.int .i64 c.N, .int .i64 c.K, .int .i64 c.Delta, .map (some mb)] 143, Res.mp mb kI vS ([] : List (Int × ByteArray))] w') := by
  have hz := qChk_ok hok
  refine calls_of Try.func64 rfl 14 rfl (by simp) ?_
  have hp0 := Hp.init w
  have he0 : List.map (env0 [GConfig.val c]) [0] = [GConfig.val c] := by kernel_rfl
  obtain ⟨b0, he0⟩ := toMk he0
  rw [he0]
  clear he0
  refine WP.seq ?_
  refine WP.region _ rfl (by kernel_rfl) ?_
  refine OPS.cons (opStep.box hp0 [.int .i64 c.N, .int .i64 c.K, .int .i64 c.Delta] (by kernel_rfl) (fun g3 w1 hp2 => ?_))
  refine OPS.batch 2 {} [] [1] [.pointer (some ⟨g3, 0, none⟩)] .nil (by kernel_rfl) (fun b4 => ?_)
  refine OPS.nil ?_
  refine thn_n ?_
  refine WP.seq ?_
  refine WP.seq ?_
  refine WP.region _ rfl (by kernel_rfl) ?_
  refine OPS.batch 1 {} [GConfig.val c] [1, 5] [.pointer (some ⟨g3, 0, none⟩), GConfig.val c] (.cons (show Ld Try.prog w1 23 ⟨g3, 0, none⟩ (GConfig.val c) from Ld.rowN (cs := [.int .i64 c.N, .int .i64 c.K, .int .i64 c.Delta]) hp2.get0 (by kernel_rfl)) .nil) (by kernel_rfl) (fun b5 => ?_)
  refine OPS.cons (opStep.call (some 6) [GConfig.val c] (by kernel_rfl) (q_Check c _) ?_)
  rintro _ w8 ⟨rfl, hf9⟩
  refine ⟨_, rfl, ?_⟩
  have hp10 := hp2.step hf9
  refine OPS.batch 1 {} [] [1, 4] [.pointer (some ⟨g3, 0, none⟩), .int .i64 (qChk c)] .nil (by kernel_rfl) (fun b11 => ?_)
  refine OPS.nil ?_
  refine thn_n ?_
  refine WP.seq ?_
  refine WP.pure {} [] [1, 4, 8] [.pointer (some ⟨g3, 0, none⟩), .int .i64 (qChk c), .bool (decide (¬ ((qChk c) = 0)))] .nil (by kernel_rfl) (fun b12 => ?_)
  refine thn_n ?_
  refine WP.test (p := ¬ ((qChk c) = 0)) rfl Bp.dec (fun h13 => ?_) (fun h13 => ?_)
  · refine WP.seq ?_
    refine WP.pure {} [] [2, 3] [.pointer none, .int .i64 (qChk c)] .nil (by kernel_rfl) (fun b14 => ?_)
    refine thn_n ?_
    refine WP.ret ?_
    refine thn_r ?_
    refine bodyQ.of _ rfl [.pointer none, .int .i64 (qChk c)] ⟨rfl, rfl, trivial⟩ ?_
    exfalso
    rw [hz] at h13
    exact absurd rfl h13
  · replace h13 := Classical.not_not.1 h13
    refine WP.skip ?_
    refine thn_n ?_
    refine WP.seq ?_
    refine WP.region _ rfl (by kernel_rfl) ?_
    refine OPS.batch 1 {} [GConfig.val c] [10] [GConfig.val c] (.cons (show Ld Try.prog w8 23 ⟨g3, 0, none⟩ (GConfig.val c) from Ld.rowN (cs := [.int .i64 c.N, .int .i64 c.K, .int .i64 c.Delta]) hp10.get0 (by kernel_rfl)) .nil) (by kernel_rfl) (fun b15 => ?_)
    refine OPS.cons (opStep.makeMapK kI vS hp10 (fun g18 w16 hp17 => ?_))
    refine OPS.batch 1 {} [] [12] [.agg #[.int .i64 c.N, .int .i64 c.K, .int .i64 c.Delta, .map (some g18)]] .nil (by kernel_rfl) (fun b19 => ?_)
    refine OPS.cons (opStep.box hp17 [.int .i64 c.N, .int .i64 c.K, .int .i64 c.Delta, .map (some g18)] (by kernel_rfl) (fun g22 w20 hp21 => ?_))
    refine OPS.batch 2 {} [] [2, 3] [.pointer (some ⟨g22, 0, none⟩), .int .i64 0] .nil (by kernel_rfl) (fun b23 => ?_)
    refine OPS.nil ?_
    refine thn_n ?_
    refine WP.ret ?_
    refine bodyQ.of _ rfl [.pointer (some ⟨g22, 0, none⟩), .int .i64 0] ⟨rfl, rfl, trivial⟩ ?_
    exact ⟨_, _, rfl, (hp21.sub (.cons_cons _ (.cons_cons _ (.cons _ (.slnil)))))⟩

theorem ps_Answer (w0 : World) (L : List Res) (b mb : Nat) (c : GConfig) (l : List (Int × ByteArray)) (w : World) (s : Int) (v : ByteArray) (hp0 : Hp w0 Non (Res.row b [.int .i64 c.N, .int .i64 c.K, .int .i64 c.Delta, .map (some mb)] 143 :: Res.mp mb kI vS l :: L) w) :
    Calls Try.prog 65 #[.pointer (some ⟨b, 0, none⟩), .int .i64 s, .string v] w (fun r_ w' => ∃ f_, r_ = .returned (.tuple #[.bool f_, .int .i64 (errP c s)]) ∧ Bp f_ (inP c s ∧ ¬ (mapV l s).isSome = true) ∧ Hp w0 Non (Res.row b [.int .i64 c.N, .int .i64 c.K, .int .i64 c.Delta, .map (some mb)] 143 :: Res.mp mb kI vS (ansP c l s v) :: L) w') := by
  refine calls_of Try.func65 rfl 40 rfl (by simp) ?_
  have he0 : List.map (env0 [.pointer (some ⟨b, 0, none⟩), .int .i64 s, .string v]) [0, 1, 2] = [.pointer (some ⟨b, 0, none⟩), .int .i64 s, .string v] := by kernel_rfl
  obtain ⟨b0, he0⟩ := toMk he0
  rw [he0]
  clear he0
  refine WP.seq ?_
  refine WP.pure {} [] [0, 1, 2] [.pointer (some ⟨b, 0, none⟩), .int .i64 s, .string v] .nil (by kernel_rfl) (fun b1 => ?_)
  refine thn_n ?_
  refine WP.seq ?_
  refine WP.seq ?_
  refine WP.pure {} [] [0, 1, 2, 11] [.pointer (some ⟨b, 0, none⟩), .int .i64 s, .string v, .bool false] .nil (by kernel_rfl) (fun b2 => ?_)
  refine thn_n ?_
  refine WP.condF rfl ?_
  refine WP.skip ?_
  refine thn_n ?_
  refine WP.seq ?_
  refine WP.cut (fun e12 w13 => ∃ (x10 : Bool), (True) ∧ Bp x10 (((s < 0)) ∨ ((¬ (s < 0)) ∧ (c.N ≤ s))) ∧ List.map e12 [0, 1, 2, 22] = [.pointer (some ⟨b, 0, none⟩), .int .i64 s, .string v, .bool x10] ∧ Hp w0 Non (Res.row b [.int .i64 c.N, .int .i64 c.K, .int .i64 c.Delta, .map (some mb)] 143 :: Res.mp mb kI vS l :: L) w13) ?_ ?_
  · refine WP.region _ rfl (by kernel_rfl) ?_
    refine OPS.batch 3 {} [] [0, 1, 2, 14] [.pointer (some ⟨b, 0, none⟩), .int .i64 s, .string v, .bool (decide (s < 0))] .nil (by kernel_rfl) (fun b4 => ?_)
    by_cases h5 : s < 0
    · refine OPS.batch 0 {} [] [0, 1, 2, 14] [.pointer (some ⟨b, 0, none⟩), .int .i64 s, .string v, .bool (decide (s < 0))] .nil (by kernel_rfl) (fun b6 => ?_)
      refine OPS.re [.pointer (some ⟨b, 0, none⟩), .int .i64 s, .string v, .bool true] (by rw [show (decide (s < 0)) = true from Bp.dec.tt h5]) ?_
      refine OPS.batch 8 { wraps := [22] } [] [0, 1, 2, 22] [.pointer (some ⟨b, 0, none⟩), .int .i64 s, .string v, .bool true] .nil (by kernel_rfl) (fun b7 => ?_)
      refine OPS.nil ?_
      refine thn_n ?_
      exact ⟨true, trivial, Bp.of Bp.t (by first | (simp only [h5, iff_false, false_iff, iff_true, true_iff, Classical.not_not, and_true, true_and, and_false, false_and, or_true, true_or, or_false, false_or, not_true_eq_false, not_false_eq_true, and_self, or_self, iff_self]; done) | (simp [h5]; done) | simp_all), by kernel_rfl, hp0⟩
    · refine OPS.batch 0 {} [] [0, 1, 2, 14] [.pointer (some ⟨b, 0, none⟩), .int .i64 s, .string v, .bool (decide (s < 0))] .nil (by kernel_rfl) (fun b8 => ?_)
      refine OPS.re [.pointer (some ⟨b, 0, none⟩), .int .i64 s, .string v, .bool false] (by rw [show (decide (s < 0)) = false from Bp.dec.ff h5]) ?_
      refine OPS.batch 8 { wraps := [22] } [.int .i64 c.N] [0, 1, 2, 22] [.pointer (some ⟨b, 0, none⟩), .int .i64 s, .string v, .bool (decide (c.N ≤ s))] (.cons (Ld.row1 (P := Try.prog) (t := 3) (o := 0) (v := .int .i64 c.N) hp0.get0 (by kernel_rfl)) .nil) (by kernel_rfl) (fun b9 => ?_)
      refine OPS.nil ?_
      refine thn_n ?_
      exact ⟨decide (c.N ≤ s), trivial, Bp.of Bp.dec (by first | (simp only [h5, iff_false, false_iff, iff_true, true_iff, Classical.not_not, and_true, true_and, and_false, false_and, or_true, true_or, or_false, false_or, not_true_eq_false, not_false_eq_true, and_self, or_self, iff_self]; done) | (simp [h5]; done) | simp_all), by kernel_rfl, hp0⟩
  rintro e12 w13 ⟨x10, hd15, hb11, hE16, hp14⟩
  obtain ⟨b17, rfl⟩ := toMk hE16
  clear hE16
  clear hd15
  refine WP.test (p := ((s < 0)) ∨ ((¬ (s < 0)) ∧ (c.N ≤ s))) rfl hb11 (fun h18 => ?_) (fun h18 => ?_)
  · refine WP.seq ?_
    refine WP.pure {} [] [6, 7] [.bool false, .int .i64 51] .nil (by kernel_rfl) (fun b19 => ?_)
    refine thn_n ?_
    refine WP.ret ?_
    refine thn_r ?_
    refine bodyQ.of _ rfl [.bool false, .int .i64 51] ⟨rfl, rfl, trivial⟩ ?_
    have hin_ : ¬ inP c s := by unfold inP; omega
    exact ⟨_, by simp only [pack, errP]; rw [if_neg hin_], Bp.of Bp.f (by simp [hin_]), by unfold ansP; rw [if_neg hin_]; exact hp14⟩
  · refine WP.skip ?_
    refine thn_n ?_
    refine WP.seq ?_
    refine WP.pure {} [.map (some mb), .tuple #[.string ((mapV l s).getD ByteArray.empty), .bool ((mapV l s).isSome)]] [0, 1, 2, 9] [.pointer (some ⟨b, 0, none⟩), .int .i64 s, .string v, .bool ((mapV l s).isSome)] (.cons (Ld.row1 (P := Try.prog) (t := 141) (o := 3) (v := .map (some mb)) hp14.get0 (by kernel_rfl)) (.cons (Lk.okD (vf := vS) (keyInt (by exact Try.underlying3)) (by exact Try.underlying141) hp14.get1 s ByteArray.empty (by kernel_rfl)) .nil)) (by kernel_rfl) (fun b20 => ?_)
    refine thn_n ?_
    refine WP.seq ?_
    refine WP.region _ rfl (by kernel_rfl) ?_
    refine OPS.batch 6 {} [.map (some mb)] [9, 35, 36, 37] [.bool ((mapV l s).isSome), .map (some mb), .int .i64 s, .string v] (.cons (Ld.row1 (P := Try.prog) (t := 141) (o := 3) (v := .map (some mb)) hp14.get0 (by kernel_rfl)) .nil) (by kernel_rfl) (fun b21 => ?_)
    have hp24 := hp14.pull1
    refine OPS.cons (opStep.mapUpdateN (keyInt (by exact Try.underlying3)) (by exact Try.underlying141) hp24 s v (by kernel_rfl) (fun w22 hp23 => ?_))
    refine OPS.nil ?_
    refine thn_n ?_
    refine WP.seq ?_
    refine WP.pure {} [] [6, 7] [.bool (!((mapV l s).isSome)), .int .i64 0] .nil (by kernel_rfl) (fun b25 => ?_)
    refine thn_n ?_
    refine WP.ret ?_
    refine bodyQ.of _ rfl [.bool (!((mapV l s).isSome)), .int .i64 0] ⟨rfl, rfl, trivial⟩ ?_
    have hin_ : inP c s := by unfold inP; omega
    exact ⟨_, by simp only [pack, errP]; rw [if_pos hin_], Bp.of (Bp.not Bp.var) (by simp [hin_]), by unfold ansP; rw [if_pos hin_]; exact (((hp23.pull0).pull1).sub (.cons_cons _ (.cons_cons _ (.refl _))))⟩

theorem ps_Met (w0 : World) (L : List Res) (b mb : Nat) (c : GConfig) (l : List (Int × ByteArray)) (w : World) (hp0 : Hp w0 Non (Res.row b [.int .i64 c.N, .int .i64 c.K, .int .i64 c.Delta, .map (some mb)] 143 :: Res.mp mb kI vS l :: L) w) :
    Calls Try.prog 67 #[.pointer (some ⟨b, 0, none⟩)] w (fun r_ w' => ∃ f_, r_ = .returned (.bool f_) ∧ Bp f_ (qSize c ≤ ((l.length : Nat) : Int)) ∧ Hp w0 Non (Res.row b [.int .i64 c.N, .int .i64 c.K, .int .i64 c.Delta, .map (some mb)] 143 :: Res.mp mb kI vS l :: L) w') := by
  refine calls_of Try.func67 rfl 22 rfl (by simp) ?_
  have he0 : List.map (env0 [.pointer (some ⟨b, 0, none⟩)]) [0] = [.pointer (some ⟨b, 0, none⟩)] := by kernel_rfl
  obtain ⟨b0, he0⟩ := toMk he0
  rw [he0]
  clear he0
  refine WP.seq ?_
  refine WP.pure {} [] [0] [.pointer (some ⟨b, 0, none⟩)] .nil (by kernel_rfl) (fun b1 => ?_)
  refine thn_n ?_
  refine WP.seq ?_
  refine WP.seq ?_
  refine WP.pure {} [] [0, 6] [.pointer (some ⟨b, 0, none⟩), .bool false] .nil (by kernel_rfl) (fun b2 => ?_)
  refine thn_n ?_
  refine WP.condF rfl ?_
  refine WP.skip ?_
  refine thn_n ?_
  refine WP.seq ?_
  refine WP.region _ rfl (by kernel_rfl) ?_
  refine OPS.batch 4 {} [.agg #[.int .i64 c.N, .int .i64 c.K, .int .i64 c.Delta]] [0, 11] [.pointer (some ⟨b, 0, none⟩), .agg #[.int .i64 c.N, .int .i64 c.K, .int .i64 c.Delta]] (.cons (show Ld Try.prog w 23 ⟨b, 0, none⟩ (.agg #[.int .i64 c.N, .int .i64 c.K, .int .i64 c.Delta]) from Ld.rowN (cs := [.int .i64 c.N, .int .i64 c.K, .int .i64 c.Delta]) hp0.get0 (by kernel_rfl)) .nil) (by kernel_rfl) (fun b3 => ?_)
  refine OPS.cons (opStep.call (some 12) [.agg #[.int .i64 c.N, .int .i64 c.K, .int .i64 c.Delta]] (by kernel_rfl) (q_Size c _) ?_)
  rintro _ w6 ⟨rfl, hf7⟩
  refine ⟨_, rfl, ?_⟩
  have hp8 := hp0.step hf7
  refine OPS.batch 5 {} [] [0, 3] [.pointer (some ⟨b, 0, none⟩), .int .i64 (qSize c)] .nil (by kernel_rfl) (fun b9 => ?_)
  refine OPS.nil ?_
  refine thn_n ?_
  refine WP.seq ?_
  refine WP.region _ rfl (by kernel_rfl) ?_
  refine OPS.batch 4 {} [.map (some mb)] [3, 18] [.int .i64 (qSize c), .map (some mb)] (.cons (Ld.row1 (P := Try.prog) (t := 141) (o := 3) (v := .map (some mb)) hp8.get0 (by kernel_rfl)) .nil) (by kernel_rfl) (fun b10 => ?_)
  have hp13 := hp8.pull1
  refine OPS.cons (opStep.lenMap (by kernel_rfl) hp13 (by kernel_rfl) ?_)
  refine OPS.batch 3 {} [] [2] [.bool (decide ((qSize c) ≤ ((l.length : Nat) : Int)))] .nil (by kernel_rfl) (fun b14 => ?_)
  refine OPS.nil ?_
  refine thn_n ?_
  refine WP.ret ?_
  refine bodyQ.of _ rfl [.bool (decide ((qSize c) ≤ ((l.length : Nat) : Int)))] ⟨rfl, trivial⟩ ?_
  exact ⟨_, rfl, Bp.of Bp.dec (by first | rfl | simp_all), (((hp13.pull0).pull1).sub (.cons_cons _ (.cons_cons _ (.refl _))))⟩

theorem ps_Get (w0 : World) (L : List Res) (b mb : Nat) (c : GConfig) (l : List (Int × ByteArray)) (w : World) (s : Int) (hp0 : Hp w0 Non (Res.row b [.int .i64 c.N, .int .i64 c.K, .int .i64 c.Delta, .map (some mb)] 143 :: Res.mp mb kI vS l :: L) w) :
    Calls Try.prog 66 #[.pointer (some ⟨b, 0, none⟩), .int .i64 s] w (fun r_ w' => r_ = .returned (.tuple #[.string ((mapV l s).getD ByteArray.empty), .bool ((mapV l s).isSome)]) ∧ Hp w0 Non (Res.row b [.int .i64 c.N, .int .i64 c.K, .int .i64 c.Delta, .map (some mb)] 143 :: Res.mp mb kI vS l :: L) w') := by
  refine calls_of Try.func66 rfl 23 rfl (by simp) ?_
  have he0 : List.map (env0 [.pointer (some ⟨b, 0, none⟩), .int .i64 s]) [0, 1] = [.pointer (some ⟨b, 0, none⟩), .int .i64 s] := by kernel_rfl
  obtain ⟨b0, he0⟩ := toMk he0
  rw [he0]
  clear he0
  refine WP.seq ?_
  refine WP.pure {} [] [0, 1] [.pointer (some ⟨b, 0, none⟩), .int .i64 s] .nil (by kernel_rfl) (fun b1 => ?_)
  refine thn_n ?_
  refine WP.seq ?_
  refine WP.pure {} [] [0, 1, 6] [.pointer (some ⟨b, 0, none⟩), .int .i64 s, .string ⟨#[]⟩] .nil (by kernel_rfl) (fun b2 => ?_)
  refine thn_n ?_
  refine WP.seq ?_
  refine WP.seq ?_
  refine WP.pure {} [] [0, 1, 6, 10] [.pointer (some ⟨b, 0, none⟩), .int .i64 s, .string ⟨#[]⟩, .bool false] .nil (by kernel_rfl) (fun b3 => ?_)
  refine thn_n ?_
  refine WP.condF rfl ?_
  refine WP.skip ?_
  refine thn_n ?_
  refine WP.seq ?_
  refine WP.pure {} [.map (some mb), .tuple #[.string ((mapV l s).getD ByteArray.empty), .bool ((mapV l s).isSome)]] [7, 8] [.string ((mapV l s).getD ByteArray.empty), .bool ((mapV l s).isSome)] (.cons (Ld.row1 (P := Try.prog) (t := 141) (o := 3) (v := .map (some mb)) hp0.get0 (by kernel_rfl)) (.cons (Lk.okD (vf := vS) (keyInt (by exact Try.underlying3)) (by exact Try.underlying141) hp0.get1 s ByteArray.empty (by kernel_rfl)) .nil)) (by kernel_rfl) (fun b4 => ?_)
  refine thn_n ?_
  refine WP.seq ?_
  refine WP.pure {} [] [4, 5] [.string ((mapV l s).getD ByteArray.empty), .bool ((mapV l s).isSome)] .nil (by kernel_rfl) (fun b5 => ?_)
  refine thn_n ?_
  refine WP.ret ?_
  refine bodyQ.of _ rfl [.string ((mapV l s).getD ByteArray.empty), .bool ((mapV l s).isSome)] ⟨rfl, rfl, trivial⟩ ?_
  exact ⟨rfl, hp0⟩

theorem ps_Missing (w0 : World) (L : List Res) (b mb : Nat) (c : GConfig) (l : List (Int × ByteArray)) (w : World) (hN : c.N ≤ 100000) (hp0 : Hp w0 Non (Res.row b [.int .i64 c.N, .int .i64 c.K, .int .i64 c.Delta, .map (some mb)] 143 :: Res.mp mb kI vS l :: L) w) :
    Calls Try.prog 68 #[.pointer (some ⟨b, 0, none⟩)] w (fun r_ w' => ∃ ao co, r_ = .returned (.slice ao (missP l c.N.toNat).length co) ∧ Hp w0 Non (Res.own 3 1 (.slice ao (missP l c.N.toNat).length co) (missP l c.N.toNat).length (List.flatMap (fun (y : Nat) => [Go.Value.int .i64 (y : Int)]) (missP l c.N.toNat)) :: Res.row b [.int .i64 c.N, .int .i64 c.K, .int .i64 c.Delta, .map (some mb)] 143 :: Res.mp mb kI vS l :: L) w') := by
  refine calls_of Try.func68 rfl 34 rfl (by simp) ?_
  have he0 : List.map (env0 [.pointer (some ⟨b, 0, none⟩)]) [0] = [.pointer (some ⟨b, 0, none⟩)] := by kernel_rfl
  obtain ⟨b0, he0⟩ := toMk he0
  rw [he0]
  clear he0
  refine WP.seq ?_
  refine WP.pure {} [] [0] [.pointer (some ⟨b, 0, none⟩)] .nil (by kernel_rfl) (fun b1 => ?_)
  refine thn_n ?_
  refine WP.seq ?_
  refine WP.pure {} [] [0, 3] [.pointer (some ⟨b, 0, none⟩), .slice none 0 0] .nil (by kernel_rfl) (fun b2 => ?_)
  refine thn_n ?_
  refine WP.seq ?_
  refine WP.seq ?_
  refine WP.pure {} [] [0, 3, 8] [.pointer (some ⟨b, 0, none⟩), .slice none 0 0, .bool false] .nil (by kernel_rfl) (fun b3 => ?_)
  refine thn_n ?_
  refine WP.condF rfl ?_
  refine WP.skip ?_
  refine thn_n ?_
  refine WP.seq ?_
  refine WP.seq ?_
  refine WP.pure {} [.int .i64 c.N] [0, 3, 13, 14] [.pointer (some ⟨b, 0, none⟩), .slice none 0 0, .int .i64 c.N, .int .i64 0] (.cons (Ld.row1 (P := Try.prog) (t := 3) (o := 0) (v := .int .i64 c.N) hp0.get0 (by kernel_rfl)) .nil) (by kernel_rfl) (fun b4 => ?_)
  refine thn_n ?_
  refine WP.block ?_
  have hp5 := (show Hp w0 Non (Res.own 3 1 (.slice none 0 0) 0 (List.flatMap (fun (y : Nat) => [Go.Value.int .i64 (y : Int)]) ([] : List Nat)) :: Res.row b [.int .i64 c.N, .int .i64 c.K, .int .i64 c.Delta, .map (some mb)] 143 :: Res.mp mb kI vS l :: L) w from hp0.nilOwn 3 1)
  refine WP.loop (fun mz_ e6 w7 => ∃ (k : Nat) (xs : List Nat) (ao : Option Addr) (no : Nat) (co : Nat), mz_ = c.N.toNat - k ∧ (k ≤ c.N.toNat ∧ xs = missP l k) ∧ List.map e6 [0, 3, 13, 14] = [.pointer (some ⟨b, 0, none⟩), .slice ao no co, .int .i64 c.N, .int .i64 (k : Int)] ∧ Hp w0 Non (Res.own 3 1 (.slice ao no co) no (List.flatMap (fun (y : Nat) => [Go.Value.int .i64 (y : Int)]) xs) :: Res.row b [.int .i64 c.N, .int .i64 c.K, .int .i64 c.Delta, .map (some mb)] 143 :: Res.mp mb kI vS l :: L) w7) (c.N.toNat - (0)) ⟨0, [], none, 0, 0, rfl, ⟨by omega, rfl⟩, by kernel_rfl, hp5⟩ ?_
  rintro _ e6 w7 ⟨k, xs, ao, no, co, rfl, hI9, hE10, hp8⟩
  obtain ⟨b11, rfl⟩ := toMk hE10
  clear hE10
  obtain ⟨pa, pb⟩ := hI9
  have pe := own_flat (sz := 1) (fun _ => rfl) (by decide) hp8.get0
  have pl := missP_le l k
  rw [← pb] at pl
  refine WP.seq ?_
  refine WP.pure {} [] [0, 3, 13, 14, 15] [.pointer (some ⟨b, 0, none⟩), .slice ao no co, .int .i64 c.N, .int .i64 (k : Int), .bool (decide ((k : Int) < c.N))] .nil (by kernel_rfl) (fun b12 => ?_)
  refine thn_n ?_
  refine WP.seq ?_
  refine WP.test (p := (k : Int) < c.N) rfl Bp.dec (fun h13 => ?_) (fun h13 => ?_)
  · refine WP.skip ?_
    refine thn_n ?_
    refine WP.seq ?_
    refine WP.block ?_
    refine WP.seq ?_
    refine WP.pure {} [] [0, 3, 4, 13, 14] [.pointer (some ⟨b, 0, none⟩), .slice ao no co, .int .i64 (k : Int), .int .i64 c.N, .int .i64 (k : Int)] .nil (by kernel_rfl) (fun b14 => ?_)
    refine thn_n ?_
    refine WP.seq ?_
    refine WP.pure {} [.map (some mb), .tuple #[.string ((mapV l (k : Int)).getD ByteArray.empty), .bool ((mapV l (k : Int)).isSome)]] [0, 3, 4, 6, 13, 14] [.pointer (some ⟨b, 0, none⟩), .slice ao no co, .int .i64 (k : Int), .bool ((mapV l (k : Int)).isSome), .int .i64 c.N, .int .i64 (k : Int)] (.cons (Ld.row1 (P := Try.prog) (t := 141) (o := 3) (v := .map (some mb)) hp8.get1 (by kernel_rfl)) (.cons (Lk.okD (vf := vS) (keyInt (by exact Try.underlying3)) (by exact Try.underlying141) hp8.get2 (k : Int) ByteArray.empty (by kernel_rfl)) .nil)) (by kernel_rfl) (fun b15 => ?_)
    refine thn_n ?_
    refine WP.seq ?_
    refine WP.pure {} [] [0, 3, 4, 13, 14, 27] [.pointer (some ⟨b, 0, none⟩), .slice ao no co, .int .i64 (k : Int), .int .i64 c.N, .int .i64 (k : Int), .bool (!((mapV l (k : Int)).isSome))] .nil (by kernel_rfl) (fun b16 => ?_)
    refine thn_n ?_
    refine WP.test (p := ¬ (((mapV l (k : Int)).isSome) = true)) rfl (Bp.not Bp.var) (fun h17 => ?_) (fun h17 => ?_)
    · refine WP.region _ rfl (by kernel_rfl) ?_
      refine OPS.batch 2 {} [] [0, 13, 14, 28, 29] [.pointer (some ⟨b, 0, none⟩), .int .i64 c.N, .int .i64 (k : Int), .slice ao no co, .int .i64 (k : Int)] .nil (by kernel_rfl) (fun b18 => ?_)
      refine OPS.cons (opStep.buildSlice (E := 3) hp8 [.int .i64 (k : Int)] (by kernel_rfl) (fun g21 w19 hp20 => ?_))
      refine OPS.cons (opStep.append1 [.int .i64 (k : Int)] hp20 8 (by kernel_rfl) rfl rfl rfl (SlR.row (n := 1) hp20.get0 rfl).rd (List.all_eq_true.1 (by kernel_rfl)) (by decide) (by omega) (by omega) (fun a24 c25 w26 hp27 hn28 => ?_))
      rw [(show List.flatMap (fun (y : Nat) => [Go.Value.int .i64 (y : Int)]) xs ++ [.int .i64 (k : Int)] = List.flatMap (fun (y : Nat) => [Go.Value.int .i64 (y : Int)]) (xs ++ [k]) from (List.flatMap_append (xs := xs) (ys := [k])).symm)] at hp27
      refine OPS.batch 1 {} [] [0, 3, 13, 14] [.pointer (some ⟨b, 0, none⟩), .slice a24 (no + 1) c25, .int .i64 c.N, .int .i64 (k : Int)] .nil (by kernel_rfl) (fun b29 => ?_)
      refine OPS.nil ?_
      refine blk_n ?_
      refine thn_n ?_
      refine WP.pure {} [] [0, 3, 13, 14] [.pointer (some ⟨b, 0, none⟩), .slice a24 (no + 1) c25, .int .i64 c.N, .int .i64 ((k : Int) + 1)] (.cons (show Rng .i64 ((k : Int) + 1) from Rng.i64 (by omega)) .nil) (by kernel_rfl) (fun b30 => ?_)
      refine thn_n ?_
      exact ⟨c.N.toNat - (k + 1), (by omega), k + 1, xs ++ [k], a24, no + 1, c25, rfl, ⟨by omega, (missP_succ pb).1 h17⟩, by kernel_rfl, (hp27.sub (.cons _ (.cons_cons _ (.cons_cons _ (.cons_cons _ (.refl _))))))⟩
    · replace h17 := Classical.not_not.1 h17
      refine WP.skip ?_
      refine blk_n ?_
      refine thn_n ?_
      refine WP.pure {} [] [0, 3, 13, 14] [.pointer (some ⟨b, 0, none⟩), .slice ao no co, .int .i64 c.N, .int .i64 ((k : Int) + 1)] (.cons (show Rng .i64 ((k : Int) + 1) from Rng.i64 (by omega)) .nil) (by kernel_rfl) (fun b31 => ?_)
      refine thn_n ?_
      exact ⟨c.N.toNat - (k + 1), (by omega), k + 1, xs, ao, no, co, rfl, ⟨by omega, (missP_succ pb).2 h17⟩, by kernel_rfl, hp8⟩
  · refine WP.exit ?_
    refine thn_x ?_
    refine thn_x ?_
    refine blk_hit ?_
    refine thn_n ?_
    refine WP.seq ?_
    refine WP.pure {} [] [2] [.slice ao no co] .nil (by kernel_rfl) (fun b32 => ?_)
    refine thn_n ?_
    refine WP.ret ?_
    refine bodyQ.of _ rfl [.slice ao no co] ⟨rfl, trivial⟩ ?_
    have hkn : k = c.N.toNat := by omega
    rw [hkn] at pb
    obtain rfl : no = (missP l c.N.toNat).length := by rw [← pb]; omega
    subst pb
    exact ⟨_, _, rfl, hp8⟩

end Go.Proofs.Ytgpjpcemfaignaa.K
