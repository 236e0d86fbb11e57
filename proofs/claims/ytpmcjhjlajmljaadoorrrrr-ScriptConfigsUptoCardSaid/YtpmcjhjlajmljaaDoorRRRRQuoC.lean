/- The walks of QuoC: what each function computes. -/
import Derived.Test.YtpmcjhjlajmljaaDoorRRRRProg
import Derived.Test.YtpmcjhjlajmljaaDoorRRRRCoreO
namespace Go.Proofs.YtpmcjhjlajmljaaDoorRRRR.K
open Go Go.Proofs Go.RowKit
set_option linter.unusedVariables false
set_option linter.unusedSimpArgs false
set_option maxRecDepth 20000
set_option maxHeartbeats 4000000

structure GConfig where
  N : Int
  K : Int
  Delta : Int
def GConfig.cells (x : GConfig) : List Go.Value := [.int .i64 x.N, .int .i64 x.K, .int .i64 x.Delta]
def GConfig.val (x : GConfig) : Go.Value := .agg x.cells.toArray
instance : Inhabited GConfig := ⟨⟨0, 0, 0⟩⟩
theorem GConfig.len (x : GConfig) : x.cells.length = 3 := rfl
def okCfg (c : GConfig) : Prop := 1 ≤ c.K ∧ c.K ≤ c.N ∧ c.N ≤ 255 ∧ 0 ≤ c.Delta ∧ c.Delta ≤ 4611686018427387903
instance (c : GConfig) : Decidable (okCfg c) := by unfold okCfg; exact inferInstance
def qChk (c : GConfig) : Int := if okCfg c then 0 else 40
def qSize (c : GConfig) : Int := if okCfg c then (c.N + c.K + 1).tdiv 2 else 0
def qDown (c : GConfig) : Int := if okCfg c then c.N - qSize c else 0
def qCom (c : GConfig) : Int := if okCfg c then 2 * qSize c - c.N else 0
theorem qSize_ok {c : GConfig} (h : okCfg c) : 2 * qSize c = c.N + c.K ∨ 2 * qSize c = c.N + c.K + 1 := by unfold qSize; rw [if_pos h]; unfold okCfg at h; rw [Int.tdiv_eq_ediv_of_nonneg (by omega)]; omega
theorem qSize_no {c : GConfig} (h : ¬ okCfg c) : qSize c = 0 := by unfold qSize; rw [if_neg h]
theorem qChk_ok {c : GConfig} (h : okCfg c) : qChk c = 0 := by unfold qChk; rw [if_pos h]
theorem qChk_no {c : GConfig} (h : ¬ okCfg c) : qChk c = 40 := by unfold qChk; rw [if_neg h]
def inN (c : GConfig) (x : Int) : Prop := 0 ≤ x ∧ x < c.N
instance (c : GConfig) (x : Int) : Decidable (inN c x) := by unfold inN; exact inferInstance
def qAdd (c : GConfig) (m : Nat) (x : Int) : Nat := if inN c x then m ||| 2 ^ x.toNat else m
def qErr (c : GConfig) (x : Int) : Int := if inN c x then 0 else 51
theorem q_cases (c : GConfig) : (okCfg c ∧ qChk c = 0 ∧ 1 ≤ c.K ∧ c.K ≤ c.N ∧ c.N ≤ 255 ∧ (2 * qSize c = c.N + c.K ∨ 2 * qSize c = c.N + c.K + 1)) ∨ (¬ okCfg c ∧ qChk c = 40 ∧ qSize c = 0) := by
  by_cases h : okCfg c
  · exact .inl ⟨h, qChk_ok h, h.1, h.2.1, h.2.2.1, qSize_ok h⟩
  · exact .inr ⟨h, qChk_no h, qSize_no h⟩
def cfgOf (c : GConfig) : GConfig := ⟨c.N, c.K, c.Delta⟩

theorem q_Check (c : GConfig) (w : World) :
    Calls Tryd.prog 26 #[GConfig.val c] w (fun r_ w' => r_ = .returned (.int .i64 (qChk c)) ∧ Fram Non w w') := by
  refine calls_of Tryd.func26 rfl 28 rfl (by simp) ?_
  have hp0 := Hp.init w
  have he0 : List.map (env0 [GConfig.val c]) [0] = [GConfig.val c] := by kernel_rfl
  obtain ⟨b0, he0⟩ := toMk he0
  rw [he0]
  clear he0
  refine WP.seq ?_
  refine WP.region _ rfl (by kernel_rfl) ?_
  refine OPS.cons (opStep.box hp0 [.int .i64 c.N, .int .i64 c.K, .int .i64 c.Delta] (by kernel_rfl) (fun g3 w1 hp2 => ?_))
  refine OPS.batch 1 {} [] [1] [.pointer (some ⟨g3, 0, none⟩)] .nil (by kernel_rfl) (fun b4 => ?_)
  refine OPS.nil ?_
  refine thn_n ?_
  refine WP.seq ?_
  refine WP.cut (fun e29 w30 => ∃ (x27 : Bool), (True) ∧ Bp x27 (((c.K < 1)) ∨ ((¬ (c.K < 1)) ∧ (c.N < c.K)) ∨ ((¬ (c.K < 1)) ∧ (¬ (c.N < c.K)) ∧ (255 < c.N)) ∨ ((¬ (c.K < 1)) ∧ (¬ (c.N < c.K)) ∧ (¬ (255 < c.N)) ∧ (c.Delta < 0)) ∨ ((¬ (c.K < 1)) ∧ (¬ (c.N < c.K)) ∧ (¬ (255 < c.N)) ∧ (¬ (c.Delta < 0)) ∧ (4611686018427387903 < c.Delta))) ∧ List.map e29 [27] = [.bool x27] ∧ Hp w Non [Res.row g3 [.int .i64 c.N, .int .i64 c.K, .int .i64 c.Delta] 40] w30) ?_ ?_
  · refine WP.region _ rfl (by kernel_rfl) ?_
    refine OPS.batch 4 {} [.int .i64 c.K] [1, 6] [.pointer (some ⟨g3, 0, none⟩), .bool (decide (c.K < 1))] (.cons (Ld.row1 (P := Tryd.prog) (t := 3) (o := 1) (v := .int .i64 c.K) hp2.get0 (by kernel_rfl)) .nil) (by kernel_rfl) (fun b6 => ?_)
    by_cases h7 : c.K < 1
    · refine OPS.batch 0 {} [] [1, 6] [.pointer (some ⟨g3, 0, none⟩), .bool (decide (c.K < 1))] .nil (by kernel_rfl) (fun b8 => ?_)
      refine OPS.re [.pointer (some ⟨g3, 0, none⟩), .bool true] (by rw [show (decide (c.K < 1)) = true from Bp.dec.tt h7]) ?_
      refine OPS.batch 21 { wraps := [12, 17, 22, 27] } [] [27] [.bool true] .nil (by kernel_rfl) (fun b9 => ?_)
      refine OPS.nil ?_
      refine thn_n ?_
      exact ⟨true, trivial, Bp.of Bp.t (by first | (simp only [h7, iff_false, false_iff, iff_true, true_iff, Classical.not_not, and_true, true_and, and_false, false_and, or_true, true_or, or_false, false_or, not_true_eq_false, not_false_eq_true, and_self, or_self, iff_self]; done) | (simp [h7]; done) | simp_all), by kernel_rfl, hp2⟩
    · refine OPS.batch 0 {} [] [1, 6] [.pointer (some ⟨g3, 0, none⟩), .bool (decide (c.K < 1))] .nil (by kernel_rfl) (fun b10 => ?_)
      refine OPS.re [.pointer (some ⟨g3, 0, none⟩), .bool false] (by rw [show (decide (c.K < 1)) = false from Bp.dec.ff h7]) ?_
      refine OPS.batch 7 { wraps := [12] } [.int .i64 c.K, .int .i64 c.N] [1, 13] [.pointer (some ⟨g3, 0, none⟩), .bool (decide (c.N < c.K))] (.cons (Ld.row1 (P := Tryd.prog) (t := 3) (o := 1) (v := .int .i64 c.K) hp2.get0 (by kernel_rfl)) (.cons (Ld.row1 (P := Tryd.prog) (t := 3) (o := 0) (v := .int .i64 c.N) hp2.get0 (by kernel_rfl)) .nil)) (by kernel_rfl) (fun b11 => ?_)
      by_cases h12 : c.N < c.K
      · refine OPS.batch 0 {} [] [1, 13] [.pointer (some ⟨g3, 0, none⟩), .bool (decide (c.N < c.K))] .nil (by kernel_rfl) (fun b13 => ?_)
        refine OPS.re [.pointer (some ⟨g3, 0, none⟩), .bool true] (by rw [show (decide (c.N < c.K)) = true from Bp.dec.tt h12]) ?_
        refine OPS.batch 14 { wraps := [17, 22, 27] } [] [27] [.bool true] .nil (by kernel_rfl) (fun b14 => ?_)
        refine OPS.nil ?_
        refine thn_n ?_
        exact ⟨true, trivial, Bp.of Bp.t (by first | (simp only [h7, h12, iff_false, false_iff, iff_true, true_iff, Classical.not_not, and_true, true_and, and_false, false_and, or_true, true_or, or_false, false_or, not_true_eq_false, not_false_eq_true, and_self, or_self, iff_self]; done) | (simp [h7, h12]; done) | simp_all), by kernel_rfl, hp2⟩
      · refine OPS.batch 0 {} [] [1, 13] [.pointer (some ⟨g3, 0, none⟩), .bool (decide (c.N < c.K))] .nil (by kernel_rfl) (fun b15 => ?_)
        refine OPS.re [.pointer (some ⟨g3, 0, none⟩), .bool false] (by rw [show (decide (c.N < c.K)) = false from Bp.dec.ff h12]) ?_
        refine OPS.batch 5 { wraps := [17] } [.int .i64 c.N] [1, 18] [.pointer (some ⟨g3, 0, none⟩), .bool (decide (255 < c.N))] (.cons (Ld.row1 (P := Tryd.prog) (t := 3) (o := 0) (v := .int .i64 c.N) hp2.get0 (by kernel_rfl)) .nil) (by kernel_rfl) (fun b16 => ?_)
        by_cases h17 : 255 < c.N
        · refine OPS.batch 0 {} [] [1, 18] [.pointer (some ⟨g3, 0, none⟩), .bool (decide (255 < c.N))] .nil (by kernel_rfl) (fun b18 => ?_)
          refine OPS.re [.pointer (some ⟨g3, 0, none⟩), .bool true] (by rw [show (decide (255 < c.N)) = true from Bp.dec.tt h17]) ?_
          refine OPS.batch 9 { wraps := [22, 27] } [] [27] [.bool true] .nil (by kernel_rfl) (fun b19 => ?_)
          refine OPS.nil ?_
          refine thn_n ?_
          exact ⟨true, trivial, Bp.of Bp.t (by first | (simp only [h7, h12, h17, iff_false, false_iff, iff_true, true_iff, Classical.not_not, and_true, true_and, and_false, false_and, or_true, true_or, or_false, false_or, not_true_eq_false, not_false_eq_true, and_self, or_self, iff_self]; done) | (simp [h7, h12, h17]; done) | simp_all), by kernel_rfl, hp2⟩
        · refine OPS.batch 0 {} [] [1, 18] [.pointer (some ⟨g3, 0, none⟩), .bool (decide (255 < c.N))] .nil (by kernel_rfl) (fun b20 => ?_)
          refine OPS.re [.pointer (some ⟨g3, 0, none⟩), .bool false] (by rw [show (decide (255 < c.N)) = false from Bp.dec.ff h17]) ?_
          refine OPS.batch 5 { wraps := [22] } [.int .i64 c.Delta] [1, 23] [.pointer (some ⟨g3, 0, none⟩), .bool (decide (c.Delta < 0))] (.cons (Ld.row1 (P := Tryd.prog) (t := 3) (o := 2) (v := .int .i64 c.Delta) hp2.get0 (by kernel_rfl)) .nil) (by kernel_rfl) (fun b21 => ?_)
          by_cases h22 : c.Delta < 0
          · refine OPS.batch 0 {} [] [1, 23] [.pointer (some ⟨g3, 0, none⟩), .bool (decide (c.Delta < 0))] .nil (by kernel_rfl) (fun b23 => ?_)
            refine OPS.re [.pointer (some ⟨g3, 0, none⟩), .bool true] (by rw [show (decide (c.Delta < 0)) = true from Bp.dec.tt h22]) ?_
            refine OPS.batch 4 { wraps := [27] } [] [27] [.bool true] .nil (by kernel_rfl) (fun b24 => ?_)
            refine OPS.nil ?_
            refine thn_n ?_
            exact ⟨true, trivial, Bp.of Bp.t (by first | (simp only [h7, h12, h17, h22, iff_false, false_iff, iff_true, true_iff, Classical.not_not, and_true, true_and, and_false, false_and, or_true, true_or, or_false, false_or, not_true_eq_false, not_false_eq_true, and_self, or_self, iff_self]; done) | (simp [h7, h12, h17, h22]; done) | simp_all), by kernel_rfl, hp2⟩
          · refine OPS.batch 0 {} [] [1, 23] [.pointer (some ⟨g3, 0, none⟩), .bool (decide (c.Delta < 0))] .nil (by kernel_rfl) (fun b25 => ?_)
            refine OPS.re [.pointer (some ⟨g3, 0, none⟩), .bool false] (by rw [show (decide (c.Delta < 0)) = false from Bp.dec.ff h22]) ?_
            refine OPS.batch 4 { wraps := [27] } [.int .i64 c.Delta] [27] [.bool (decide (4611686018427387903 < c.Delta))] (.cons (Ld.row1 (P := Tryd.prog) (t := 3) (o := 2) (v := .int .i64 c.Delta) hp2.get0 (by kernel_rfl)) .nil) (by kernel_rfl) (fun b26 => ?_)
            refine OPS.nil ?_
            refine thn_n ?_
            exact ⟨decide (4611686018427387903 < c.Delta), trivial, Bp.of Bp.dec (by first | (simp only [h7, h12, h17, h22, iff_false, false_iff, iff_true, true_iff, Classical.not_not, and_true, true_and, and_false, false_and, or_true, true_or, or_false, false_or, not_true_eq_false, not_false_eq_true, and_self, or_self, iff_self]; done) | (simp [h7, h12, h17, h22]; done) | simp_all), by kernel_rfl, hp2⟩
  rintro e29 w30 ⟨x27, hd32, hb28, hE33, hp31⟩
  obtain ⟨b34, rfl⟩ := toMk hE33
  clear hE33
  clear hd32
  refine WP.test (p := ((c.K < 1)) ∨ ((¬ (c.K < 1)) ∧ (c.N < c.K)) ∨ ((¬ (c.K < 1)) ∧ (¬ (c.N < c.K)) ∧ (255 < c.N)) ∨ ((¬ (c.K < 1)) ∧ (¬ (c.N < c.K)) ∧ (¬ (255 < c.N)) ∧ (c.Delta < 0)) ∨ ((¬ (c.K < 1)) ∧ (¬ (c.N < c.K)) ∧ (¬ (255 < c.N)) ∧ (¬ (c.Delta < 0)) ∧ (4611686018427387903 < c.Delta))) rfl hb28 (fun h35 => ?_) (fun h35 => ?_)
  · refine WP.seq ?_
    refine WP.pure {} [] [2] [.int .i64 40] .nil (by kernel_rfl) (fun b36 => ?_)
    refine thn_n ?_
    refine WP.ret ?_
    refine thn_r ?_
    refine bodyQ.of _ rfl [.int .i64 40] ⟨rfl, trivial⟩ ?_
    exact ⟨by simp only [pack, qChk]; rw [if_neg (by unfold okCfg; omega)], hp31.fr⟩
  · refine WP.skip ?_
    refine thn_n ?_
    refine WP.seq ?_
    refine WP.pure {} [] [2] [.int .i64 0] .nil (by kernel_rfl) (fun b37 => ?_)
    refine thn_n ?_
    refine WP.ret ?_
    refine bodyQ.of _ rfl [.int .i64 0] ⟨rfl, trivial⟩ ?_
    exact ⟨by simp only [pack, qChk]; rw [if_pos (by unfold okCfg; omega)], hp31.fr⟩

end Go.Proofs.YtpmcjhjlajmljaaDoorRRRR.K
