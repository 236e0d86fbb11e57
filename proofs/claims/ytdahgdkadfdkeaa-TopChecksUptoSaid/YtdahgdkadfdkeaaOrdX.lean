/- The walks of OrdX: what each function computes. -/
import Derived.Test.YtdahgdkadfdkeaaProg
import Derived.Test.YtdahgdkadfdkeaaCoreO
import Derived.Test.YtdahgdkadfdkeaaCoreI
import Derived.Test.YtdahgdkadfdkeaaOrdW
import Derived.Test.YtdahgdkadfdkeaaOrdH
import Derived.Test.YtdahgdkadfdkeaaOpen
namespace Go.Proofs.Ytdahgdkadfdkeaa.K
open Go Go.Proofs Go.RowKit
set_option linter.unusedVariables false
set_option linter.unusedSimpArgs false
set_option maxRecDepth 20000
set_option maxHeartbeats 4000000

theorem t_part (c : GCall) (w : World) :
    Calls Try.prog 42 #[GCall.val c] w (fun r_ w' => r_ = .returned (.int .i64 (partI c)) ∧ Fram Non w w') := by
  refine calls_of Try.func42 rfl 27 rfl (by simp) ?_
  have hp0 := Hp.init w
  have he0 : List.map (env0 [GCall.val c]) [0] = [GCall.val c] := by kernel_rfl
  obtain ⟨b0, he0⟩ := toMk he0
  rw [he0]
  clear he0
  refine WP.seq ?_
  refine WP.region _ rfl (by kernel_rfl) ?_
  refine OPS.cons (opStep.box hp0 [.int .i64 c.Client, .int .i64 c.Op, .bool c.Put, .string c.Key, .slice c.Value.a c.Value.n c.Value.c, .int .i64 c.Status, .int .i64 c.From, .int .i64 c.To, .bool c.Open, .int .i64 c.Tag.Count, .int .i64 c.Tag.Client] (by kernel_rfl) (fun g3 w1 hp2 => ?_))
  refine OPS.batch 1 {} [] [1] [.pointer (some ⟨g3, 0, none⟩)] .nil (by kernel_rfl) (fun b4 => ?_)
  refine OPS.nil ?_
  refine thn_n ?_
  refine WP.seq ?_
  refine WP.block ?_
  refine WP.cut (fun e14 w15 => ∃ (x12 : Bool), (True) ∧ Bp x12 ((c.Put = true) ∧ (c.Open = true)) ∧ List.map e14 [1, 3] = [.pointer (some ⟨g3, 0, none⟩), .bool x12] ∧ Hp w Non [Res.row g3 [.int .i64 c.Client, .int .i64 c.Op, .bool c.Put, .string c.Key, .slice c.Value.a c.Value.n c.Value.c, .int .i64 c.Status, .int .i64 c.From, .int .i64 c.To, .bool c.Open, .int .i64 c.Tag.Count, .int .i64 c.Tag.Client] 73] w15) ?_ ?_
  · refine WP.region _ rfl (by kernel_rfl) ?_
    refine OPS.batch 3 {} [.bool c.Put] [1, 6] [.pointer (some ⟨g3, 0, none⟩), .bool c.Put] (.cons (Ld.row1 (P := Try.prog) (t := 4) (o := 2) (v := .bool c.Put) hp2.get0 (by kernel_rfl)) .nil) (by kernel_rfl) (fun b6 => ?_)
    by_cases h7 : c.Put = true
    · refine OPS.batch 0 {} [] [1, 6] [.pointer (some ⟨g3, 0, none⟩), .bool c.Put] .nil (by kernel_rfl) (fun b8 => ?_)
      refine OPS.re [.pointer (some ⟨g3, 0, none⟩), .bool true] (by rw [show c.Put = true from Bp.var.tt h7]) ?_
      refine OPS.batch 4 { wraps := [9] } [.bool c.Open] [1, 3] [.pointer (some ⟨g3, 0, none⟩), .bool c.Open] (.cons (Ld.row1 (P := Try.prog) (t := 4) (o := 8) (v := .bool c.Open) hp2.get0 (by kernel_rfl)) .nil) (by kernel_rfl) (fun b9 => ?_)
      refine OPS.nil ?_
      refine thn_n ?_
      exact ⟨c.Open, trivial, Bp.of Bp.var (by first | (simp only [h7, iff_false, false_iff, iff_true, true_iff, Classical.not_not, and_true, true_and, and_false, false_and, or_true, true_or, or_false, false_or, not_true_eq_false, not_false_eq_true, and_self, or_self, iff_self]; done) | (simp [h7]; done) | grind | (simp_all; done)), by kernel_rfl, hp2⟩
    · refine OPS.batch 0 {} [] [1, 6] [.pointer (some ⟨g3, 0, none⟩), .bool c.Put] .nil (by kernel_rfl) (fun b10 => ?_)
      refine OPS.re [.pointer (some ⟨g3, 0, none⟩), .bool false] (by rw [show c.Put = false from Bp.var.ff h7]) ?_
      refine OPS.batch 4 { wraps := [9] } [] [1, 3] [.pointer (some ⟨g3, 0, none⟩), .bool false] .nil (by kernel_rfl) (fun b11 => ?_)
      refine OPS.nil ?_
      refine thn_n ?_
      exact ⟨false, trivial, Bp.of Bp.f (by first | (simp only [h7, iff_false, false_iff, iff_true, true_iff, Classical.not_not, and_true, true_and, and_false, false_and, or_true, true_or, or_false, false_or, not_true_eq_false, not_false_eq_true, and_self, or_self, iff_self]; done) | (simp [h7]; done) | grind | (simp_all; done)), by kernel_rfl, hp2⟩
  rintro e14 w15 ⟨x12, hd17, hb13, hE18, hp16⟩
  obtain ⟨b19, rfl⟩ := toMk hE18
  clear hE18
  clear hd17
  refine WP.test (p := (c.Put = true) ∧ (c.Open = true)) rfl hb13 (fun h20 => ?_) (fun h20 => ?_)
  · refine WP.seq ?_
    refine WP.pure {} [] [2] [.int .i64 1] .nil (by kernel_rfl) (fun b21 => ?_)
    refine thn_n ?_
    refine WP.ret ?_
    refine blk_r ?_
    refine thn_r ?_
    refine bodyQ.of _ rfl [.int .i64 1] ⟨rfl, trivial⟩ ?_
    exact ⟨by simp only [pack, partI]; first | grind | (simp_all; done) | (simp_all; grind), hp16.fr⟩
  · refine WP.seq ?_
    refine WP.pure {} [.bool c.Put] [1, 10] [.pointer (some ⟨g3, 0, none⟩), .bool c.Put] (.cons (Ld.row1 (P := Try.prog) (t := 4) (o := 2) (v := .bool c.Put) hp16.get0 (by kernel_rfl)) .nil) (by kernel_rfl) (fun b22 => ?_)
    refine thn_n ?_
    refine WP.test (p := c.Put = true) rfl Bp.var (fun h23 => ?_) (fun h23 => ?_)
    · refine WP.seq ?_
      refine WP.pure {} [] [2] [.int .i64 2] .nil (by kernel_rfl) (fun b24 => ?_)
      refine thn_n ?_
      refine WP.ret ?_
      refine blk_r ?_
      refine thn_r ?_
      refine bodyQ.of _ rfl [.int .i64 2] ⟨rfl, trivial⟩ ?_
      exact ⟨by simp only [pack, partI]; first | grind | (simp_all; done) | (simp_all; grind), hp16.fr⟩
    · refine WP.cut (fun e39 w40 => ∃ (x37 : Bool), (True) ∧ Bp x37 (((0 ≤ c.To) ∧ (c.Status = 0)) ∨ ((0 ≤ c.To) ∧ (¬ (c.Status = 0)) ∧ (c.Status = 76))) ∧ List.map e39 [13] = [.bool x37] ∧ Hp w Non [Res.row g3 [.int .i64 c.Client, .int .i64 c.Op, .bool c.Put, .string c.Key, .slice c.Value.a c.Value.n c.Value.c, .int .i64 c.Status, .int .i64 c.From, .int .i64 c.To, .bool c.Open, .int .i64 c.Tag.Count, .int .i64 c.Tag.Client] 73] w40) ?_ ?_
      · refine WP.region _ rfl (by kernel_rfl) ?_
        refine OPS.batch 4 {} [.int .i64 c.To] [1, 17] [.pointer (some ⟨g3, 0, none⟩), .bool (decide (0 ≤ c.To))] (.cons (Ld.row1 (P := Try.prog) (t := 3) (o := 7) (v := .int .i64 c.To) hp16.get0 (by kernel_rfl)) .nil) (by kernel_rfl) (fun b26 => ?_)
        by_cases h27 : 0 ≤ c.To
        · refine OPS.batch 0 {} [] [1, 17] [.pointer (some ⟨g3, 0, none⟩), .bool (decide (0 ≤ c.To))] .nil (by kernel_rfl) (fun b28 => ?_)
          refine OPS.re [.pointer (some ⟨g3, 0, none⟩), .bool true] (by rw [show (decide (0 ≤ c.To)) = true from Bp.dec.tt h27]) ?_
          refine OPS.batch 4 {} [.int .i64 c.Status] [1, 17, 21] [.pointer (some ⟨g3, 0, none⟩), .bool true, .bool (decide (c.Status = 0))] (.cons (Ld.row1 (P := Try.prog) (t := 25) (o := 5) (v := .int .i64 c.Status) hp16.get0 (by kernel_rfl)) .nil) (by kernel_rfl) (fun b29 => ?_)
          by_cases h30 : c.Status = 0
          · refine OPS.batch 0 {} [] [1, 17, 21] [.pointer (some ⟨g3, 0, none⟩), .bool true, .bool (decide (c.Status = 0))] .nil (by kernel_rfl) (fun b31 => ?_)
            refine OPS.re [.pointer (some ⟨g3, 0, none⟩), .bool true, .bool true] (by rw [show (decide (c.Status = 0)) = true from Bp.dec.tt h30]) ?_
            refine OPS.batch 6 { wraps := [25, 26] } [] [13] [.bool true] .nil (by kernel_rfl) (fun b32 => ?_)
            refine OPS.nil ?_
            refine thn_n ?_
            exact ⟨true, trivial, Bp.of Bp.t (by first | (simp only [h27, h30, iff_false, false_iff, iff_true, true_iff, Classical.not_not, and_true, true_and, and_false, false_and, or_true, true_or, or_false, false_or, not_true_eq_false, not_false_eq_true, and_self, or_self, iff_self]; done) | (simp [h27, h30]; done) | grind | (simp_all; done)), by kernel_rfl, hp16⟩
          · refine OPS.batch 0 {} [] [1, 17, 21] [.pointer (some ⟨g3, 0, none⟩), .bool true, .bool (decide (c.Status = 0))] .nil (by kernel_rfl) (fun b33 => ?_)
            refine OPS.re [.pointer (some ⟨g3, 0, none⟩), .bool true, .bool false] (by rw [show (decide (c.Status = 0)) = false from Bp.dec.ff h30]) ?_
            refine OPS.batch 6 { wraps := [25, 26] } [.int .i64 c.Status] [13] [.bool (decide (c.Status = 76))] (.cons (Ld.row1 (P := Try.prog) (t := 25) (o := 5) (v := .int .i64 c.Status) hp16.get0 (by kernel_rfl)) .nil) (by kernel_rfl) (fun b34 => ?_)
            refine OPS.nil ?_
            refine thn_n ?_
            exact ⟨decide (c.Status = 76), trivial, Bp.of Bp.dec (by first | (simp only [h27, h30, iff_false, false_iff, iff_true, true_iff, Classical.not_not, and_true, true_and, and_false, false_and, or_true, true_or, or_false, false_or, not_true_eq_false, not_false_eq_true, and_self, or_self, iff_self]; done) | (simp [h27, h30]; done) | grind | (simp_all; done)), by kernel_rfl, hp16⟩
        · refine OPS.batch 0 {} [] [1, 17] [.pointer (some ⟨g3, 0, none⟩), .bool (decide (0 ≤ c.To))] .nil (by kernel_rfl) (fun b35 => ?_)
          refine OPS.re [.pointer (some ⟨g3, 0, none⟩), .bool false] (by rw [show (decide (0 ≤ c.To)) = false from Bp.dec.ff h27]) ?_
          refine OPS.batch 10 { wraps := [26] } [] [13] [.bool false] .nil (by kernel_rfl) (fun b36 => ?_)
          refine OPS.nil ?_
          refine thn_n ?_
          exact ⟨false, trivial, Bp.of Bp.f (by first | (simp only [h27, iff_false, false_iff, iff_true, true_iff, Classical.not_not, and_true, true_and, and_false, false_and, or_true, true_or, or_false, false_or, not_true_eq_false, not_false_eq_true, and_self, or_self, iff_self]; done) | (simp [h27]; done) | grind | (simp_all; done)), by kernel_rfl, hp16⟩
      rintro e39 w40 ⟨x37, hd42, hb38, hE43, hp41⟩
      obtain ⟨b44, rfl⟩ := toMk hE43
      clear hE43
      clear hd42
      refine WP.test (p := ((0 ≤ c.To) ∧ (c.Status = 0)) ∨ ((0 ≤ c.To) ∧ (¬ (c.Status = 0)) ∧ (c.Status = 76))) rfl hb38 (fun h45 => ?_) (fun h45 => ?_)
      · refine WP.seq ?_
        refine WP.pure {} [] [2] [.int .i64 2] .nil (by kernel_rfl) (fun b46 => ?_)
        refine thn_n ?_
        refine WP.ret ?_
        refine blk_r ?_
        refine thn_r ?_
        refine bodyQ.of _ rfl [.int .i64 2] ⟨rfl, trivial⟩ ?_
        exact ⟨by simp only [pack, partI]; first | grind | (simp_all; done) | (simp_all; grind), hp41.fr⟩
      · refine WP.skip ?_
        refine blk_n ?_
        refine thn_n ?_
        refine WP.seq ?_
        refine WP.pure {} [] [2] [.int .i64 0] .nil (by kernel_rfl) (fun b47 => ?_)
        refine thn_n ?_
        refine WP.ret ?_
        refine bodyQ.of _ rfl [.int .i64 0] ⟨rfl, trivial⟩ ?_
        exact ⟨by simp only [pack, partI]; first | grind | (simp_all; done) | (simp_all; grind), hp41.fr⟩

theorem t_before (a b : GTag) (w : World) :
    Calls Try.prog 43 #[GTag.val a, GTag.val b] w (fun r_ w' => ∃ f_, r_ = .returned (.bool f_) ∧ Bp f_ (tagCmp a b < 0) ∧ Fram Non w w') := by
  refine calls_of Try.func43 rfl 24 rfl (by simp) ?_
  have hp0 := Hp.init w
  have he0 : List.map (env0 [GTag.val a, GTag.val b]) [0, 1] = [GTag.val a, GTag.val b] := by kernel_rfl
  obtain ⟨b0, he0⟩ := toMk he0
  rw [he0]
  clear he0
  refine WP.seq ?_
  refine WP.region _ rfl (by kernel_rfl) ?_
  refine OPS.cons (opStep.box hp0 [.int .i64 a.Count, .int .i64 a.Client] (by kernel_rfl) (fun g3 w1 hp2 => ?_))
  refine OPS.cons (opStep.box hp2 [.int .i64 b.Count, .int .i64 b.Client] (by kernel_rfl) (fun g6 w4 hp5 => ?_))
  refine OPS.batch 1 {} [] [2, 3] [.pointer (some ⟨g3, 0, none⟩), .pointer (some ⟨g6, 0, none⟩)] .nil (by kernel_rfl) (fun b7 => ?_)
  refine OPS.nil ?_
  refine thn_n ?_
  refine WP.cut (fun e22 w23 => ∃ (x20 : Bool), (True) ∧ Bp x20 (((a.Count < b.Count)) ∨ ((¬ (a.Count < b.Count)) ∧ (a.Count = b.Count) ∧ (a.Client < b.Client))) ∧ List.map e22 [4] = [.bool x20] ∧ Hp w Non [Res.row g6 [.int .i64 b.Count, .int .i64 b.Client] 70, Res.row g3 [.int .i64 a.Count, .int .i64 a.Client] 70] w23) ?_ ?_
  · refine WP.region _ rfl (by kernel_rfl) ?_
    refine OPS.batch 6 {} [.int .i64 a.Count, .int .i64 b.Count] [2, 3, 10] [.pointer (some ⟨g3, 0, none⟩), .pointer (some ⟨g6, 0, none⟩), .bool (decide (a.Count < b.Count))] (.cons (Ld.row1 (P := Try.prog) (t := 2) (o := 0) (v := .int .i64 a.Count) hp5.get1 (by kernel_rfl)) (.cons (Ld.row1 (P := Try.prog) (t := 2) (o := 0) (v := .int .i64 b.Count) hp5.get0 (by kernel_rfl)) .nil)) (by kernel_rfl) (fun b9 => ?_)
    by_cases h10 : a.Count < b.Count
    · refine OPS.batch 0 {} [] [2, 3, 10] [.pointer (some ⟨g3, 0, none⟩), .pointer (some ⟨g6, 0, none⟩), .bool (decide (a.Count < b.Count))] .nil (by kernel_rfl) (fun b11 => ?_)
      refine OPS.re [.pointer (some ⟨g3, 0, none⟩), .pointer (some ⟨g6, 0, none⟩), .bool true] (by rw [show (decide (a.Count < b.Count)) = true from Bp.dec.tt h10]) ?_
      refine OPS.batch 14 { wraps := [23] } [] [4] [.bool true] .nil (by kernel_rfl) (fun b12 => ?_)
      refine OPS.nil ?_
      refine thn_n ?_
      exact ⟨true, trivial, Bp.of Bp.t (by first | (simp only [h10, iff_false, false_iff, iff_true, true_iff, Classical.not_not, and_true, true_and, and_false, false_and, or_true, true_or, or_false, false_or, not_true_eq_false, not_false_eq_true, and_self, or_self, iff_self]; done) | (simp [h10]; done) | grind | (simp_all; done)), by kernel_rfl, hp5⟩
    · refine OPS.batch 0 {} [] [2, 3, 10] [.pointer (some ⟨g3, 0, none⟩), .pointer (some ⟨g6, 0, none⟩), .bool (decide (a.Count < b.Count))] .nil (by kernel_rfl) (fun b13 => ?_)
      refine OPS.re [.pointer (some ⟨g3, 0, none⟩), .pointer (some ⟨g6, 0, none⟩), .bool false] (by rw [show (decide (a.Count < b.Count)) = false from Bp.dec.ff h10]) ?_
      refine OPS.batch 6 {} [.int .i64 a.Count, .int .i64 b.Count] [2, 3, 10, 16] [.pointer (some ⟨g3, 0, none⟩), .pointer (some ⟨g6, 0, none⟩), .bool false, .bool (decide (a.Count = b.Count))] (.cons (Ld.row1 (P := Try.prog) (t := 2) (o := 0) (v := .int .i64 a.Count) hp5.get1 (by kernel_rfl)) (.cons (Ld.row1 (P := Try.prog) (t := 2) (o := 0) (v := .int .i64 b.Count) hp5.get0 (by kernel_rfl)) .nil)) (by kernel_rfl) (fun b14 => ?_)
      by_cases h15 : a.Count = b.Count
      · refine OPS.batch 0 {} [] [2, 3, 10, 16] [.pointer (some ⟨g3, 0, none⟩), .pointer (some ⟨g6, 0, none⟩), .bool false, .bool (decide (a.Count = b.Count))] .nil (by kernel_rfl) (fun b16 => ?_)
        refine OPS.re [.pointer (some ⟨g3, 0, none⟩), .pointer (some ⟨g6, 0, none⟩), .bool false, .bool true] (by rw [show (decide (a.Count = b.Count)) = true from Bp.dec.tt h15]) ?_
        refine OPS.batch 8 { wraps := [22, 23] } [.int .i64 a.Client, .int .i64 b.Client] [4] [.bool (decide (a.Client < b.Client))] (.cons (Ld.row1 (P := Try.prog) (t := 3) (o := 1) (v := .int .i64 a.Client) hp5.get1 (by kernel_rfl)) (.cons (Ld.row1 (P := Try.prog) (t := 3) (o := 1) (v := .int .i64 b.Client) hp5.get0 (by kernel_rfl)) .nil)) (by kernel_rfl) (fun b17 => ?_)
        refine OPS.nil ?_
        refine thn_n ?_
        exact ⟨decide (a.Client < b.Client), trivial, Bp.of Bp.dec (by first | (simp only [h10, h15, iff_false, false_iff, iff_true, true_iff, Classical.not_not, and_true, true_and, and_false, false_and, or_true, true_or, or_false, false_or, not_true_eq_false, not_false_eq_true, and_self, or_self, iff_self]; done) | (simp [h10, h15]; done) | grind | (simp_all; done)), by kernel_rfl, hp5⟩
      · refine OPS.batch 0 {} [] [2, 3, 10, 16] [.pointer (some ⟨g3, 0, none⟩), .pointer (some ⟨g6, 0, none⟩), .bool false, .bool (decide (a.Count = b.Count))] .nil (by kernel_rfl) (fun b18 => ?_)
        refine OPS.re [.pointer (some ⟨g3, 0, none⟩), .pointer (some ⟨g6, 0, none⟩), .bool false, .bool false] (by rw [show (decide (a.Count = b.Count)) = false from Bp.dec.ff h15]) ?_
        refine OPS.batch 8 { wraps := [22, 23] } [] [4] [.bool false] .nil (by kernel_rfl) (fun b19 => ?_)
        refine OPS.nil ?_
        refine thn_n ?_
        exact ⟨false, trivial, Bp.of Bp.f (by first | (simp only [h10, h15, iff_false, false_iff, iff_true, true_iff, Classical.not_not, and_true, true_and, and_false, false_and, or_true, true_or, or_false, false_or, not_true_eq_false, not_false_eq_true, and_self, or_self, iff_self]; done) | (simp [h10, h15]; done) | grind | (simp_all; done)), by kernel_rfl, hp5⟩
  rintro e22 w23 ⟨x20, hd25, hb21, hE26, hp24⟩
  obtain ⟨b27, rfl⟩ := toMk hE26
  clear hE26
  clear hd25
  refine WP.ret ?_
  refine bodyQ.of _ rfl [.bool x20] ⟨rfl, trivial⟩ ?_
  exact ⟨_, rfl, Bp.of hb21 (by rw [cmp_lt]; first | grind | (simp_all; done) | omega), hp24.fr⟩

theorem t_same (x1 x2 : List Int) (a1 a2 : Option Addr) (n1 n2 c1 c2 : Nat) (w : World) (m1 : x1.length = n1) (m2 : x2.length = n2) (hb : x1.length ≤ 8796093022207000) (h1 : SlR w a1 n1 (x1.flatMap u8c)) (h2 : SlR w a2 n2 (x2.flatMap u8c)) :
    Calls Try.prog 115 #[.slice a1 n1 c1, .slice a2 n2 c2] w (fun r_ w' => ∃ f_, r_ = .returned (.bool f_) ∧ Bp f_ (x1 = x2) ∧ Fram Non w w') := by
  refine calls_of Try.func115 rfl 26 rfl (by simp) ?_
  have hp0 := Hp.init w
  have he0 : List.map (env0 [.slice a1 n1 c1, .slice a2 n2 c2]) [0, 1] = [.slice a1 n1 c1, .slice a2 n2 c2] := by kernel_rfl
  obtain ⟨b0, he0⟩ := toMk he0
  rw [he0]
  clear he0
  refine WP.seq ?_
  refine WP.pure {} [] [0, 1] [.slice a1 n1 c1, .slice a2 n2 c2] .nil (by kernel_rfl) (fun b1 => ?_)
  refine thn_n ?_
  refine WP.seq ?_
  refine WP.seq ?_
  refine WP.pure {} [] [0, 1, 10] [.slice a1 n1 c1, .slice a2 n2 c2, .bool (decide (¬ (((n1 : Nat) : Int) = ((n2 : Nat) : Int))))] .nil (by kernel_rfl) (fun b2 => ?_)
  refine thn_n ?_
  refine WP.test (p := ¬ (((n1 : Nat) : Int) = ((n2 : Nat) : Int))) rfl Bp.dec (fun h3 => ?_) (fun h3 => ?_)
  · refine WP.seq ?_
    refine WP.pure {} [] [4] [.bool false] .nil (by kernel_rfl) (fun b4 => ?_)
    refine thn_n ?_
    refine WP.ret ?_
    refine thn_r ?_
    refine bodyQ.of _ rfl [.bool false] ⟨rfl, trivial⟩ ?_
    exact ⟨_, rfl, Bp.of Bp.f (by exact ⟨fun h => h.elim, fun h => h3 (by rw [h] at m1; omega)⟩), hp0.fr⟩
  · replace h3 := Classical.not_not.1 h3
    refine WP.skip ?_
    refine thn_n ?_
    refine WP.seq ?_
    refine WP.seq ?_
    refine WP.pure {} [] [0, 1, 12, 13] [.slice a1 n1 c1, .slice a2 n2 c2, .int .i64 ((n1 : Nat) : Int), .int .i64 0] .nil (by kernel_rfl) (fun b5 => ?_)
    refine thn_n ?_
    refine WP.block ?_
    refine WP.loop (fun mz_ e6 w7 => ∃ (k : Nat), mz_ = x1.length - k ∧ (k ≤ x1.length ∧ x1.take k = x2.take k) ∧ List.map e6 [0, 1, 12, 13] = [.slice a1 n1 c1, .slice a2 n2 c2, .int .i64 ((n1 : Nat) : Int), .int .i64 (k : Int)] ∧ Hp w Non [] w7) (x1.length - (0)) ⟨0, rfl, ⟨by omega, rfl⟩, by kernel_rfl, hp0⟩ ?_
    rintro _ e6 w7 ⟨k, rfl, hI9, hE10, hp8⟩
    obtain ⟨b11, rfl⟩ := toMk hE10
    clear hE10
    obtain ⟨q1, q2⟩ := hI9
    refine WP.seq ?_
    refine WP.pure {} [] [0, 1, 12, 13, 14] [.slice a1 n1 c1, .slice a2 n2 c2, .int .i64 ((n1 : Nat) : Int), .int .i64 (k : Int), .bool (decide ((k : Int) < ((n1 : Nat) : Int)))] .nil (by kernel_rfl) (fun b12 => ?_)
    refine thn_n ?_
    refine WP.seq ?_
    refine WP.test (p := (k : Int) < ((n1 : Nat) : Int)) rfl Bp.dec (fun h13 => ?_) (fun h13 => ?_)
    · refine WP.skip ?_
      refine thn_n ?_
      refine WP.seq ?_
      refine WP.block ?_
      refine WP.seq ?_
      refine WP.pure {} [] [0, 1, 5, 12, 13] [.slice a1 n1 c1, .slice a2 n2 c2, .int .i64 (k : Int), .int .i64 ((n1 : Nat) : Int), .int .i64 (k : Int)] .nil (by kernel_rfl) (fun b14 => ?_)
      refine thn_n ?_
      refine WP.seq ?_
      have hp17 := hp8.drew
      refine WP.quiet (fun w15 => Hp w Non [] w15) (by kernel_rfl) hp17 ?_
      have hnehp17 : ∃ wz_, (fun w15 => Hp w Non [] w15) wz_ := ⟨_, hp17⟩
      have hy21 : (x1)[k]? = some x1[k]! := get_bang (by first | (omega) | (simp only [List.length_append, List.length_cons, List.length_nil]; omega) | (simp only [List.length_take, List.length_append, List.length_cons, List.length_nil]; omega))
      have hy23 : (x2)[k]? = some x2[k]! := get_bang (by first | (omega) | (simp only [List.length_append, List.length_cons, List.length_nil]; omega) | (simp only [List.length_take, List.length_append, List.length_cons, List.length_nil]; omega))
      refine QOPS.batch 9 {} [.int .u8 (x1[k]!), .int .u8 (x2[k]!)] [0, 1, 12, 13, 24] [.slice a1 n1 c1, .slice a2 n2 c2, .int .i64 ((n1 : Nat) : Int), .int .i64 (k : Int), .bool (decide (¬ ((x1[k]!) = (x2[k]!))))] hnehp17 (fun w18 hp19 => QB.mk (.cons (show InB ((k : Int)) (n1) from ⟨by omega, by omega⟩) (.cons ((h1.at hp19).some (by omega)) (.cons (Ld.add0 (Ld.el1 (P := Try.prog) (t := 5) (h1.at hp19).rd 1 (fun _ => rfl) hy21 (o := 0) (v := .int .u8 (x1[k]!)) (by kernel_rfl))) (.cons (show InB ((k : Int)) (n2) from ⟨by omega, by omega⟩) (.cons ((h2.at hp19).some (by omega)) (.cons (Ld.add0 (Ld.el1 (P := Try.prog) (t := 5) (h2.at hp19).rd 1 (fun _ => rfl) hy23 (o := 0) (v := .int .u8 (x2[k]!)) (by kernel_rfl))) .nil)))))) (by kernel_rfl)) (fun b24 => ?_)
      refine QOPS.nil (fun w25 hp26 => ?_)
      refine thn_n ?_
      refine WP.test (p := ¬ ((x1[k]!) = (x2[k]!))) rfl Bp.dec (fun h27 => ?_) (fun h27 => ?_)
      · refine WP.seq ?_
        refine WP.pure {} [] [4] [.bool false] .nil (by kernel_rfl) (fun b28 => ?_)
        refine thn_n ?_
        refine WP.ret ?_
        refine blk_r ?_
        refine thn_r ?_
        refine thn_r ?_
        refine blk_r ?_
        refine thn_r ?_
        refine bodyQ.of _ rfl [.bool false] ⟨rfl, trivial⟩ ?_
        exact ⟨_, rfl, Bp.of Bp.f (by exact ⟨fun h => h.elim, fun h => h27 (by rw [h])⟩), hp26.fr⟩
      · replace h27 := Classical.not_not.1 h27
        refine WP.skip ?_
        refine blk_n ?_
        refine thn_n ?_
        refine WP.pure {} [] [0, 1, 12, 13] [.slice a1 n1 c1, .slice a2 n2 c2, .int .i64 ((n1 : Nat) : Int), .int .i64 ((k : Int) + 1)] (.cons (show Rng .i64 ((k : Int) + 1) from Rng.i64 (by omega)) .nil) (by kernel_rfl) (fun b29 => ?_)
        refine thn_n ?_
        exact ⟨x1.length - (k + 1), (by omega), k + 1, rfl, ⟨by omega, take_same (by omega) (by omega) q2 h27⟩, by kernel_rfl, hp26⟩
    · refine WP.exit ?_
      refine thn_x ?_
      refine thn_x ?_
      refine blk_hit ?_
      refine thn_n ?_
      refine WP.seq ?_
      refine WP.pure {} [] [4] [.bool true] .nil (by kernel_rfl) (fun b30 => ?_)
      refine thn_n ?_
      refine WP.ret ?_
      refine bodyQ.of _ rfl [.bool true] ⟨rfl, trivial⟩ ?_
      exact ⟨_, rfl, Bp.of Bp.t (by exact ⟨fun _ => by rw [List.take_of_length_le (by omega), List.take_of_length_le (by omega)] at q2; exact q2, fun _ => trivial⟩), hp8.fr⟩

theorem t_next (l : List GCall) (a : Option Addr) (n c : Nat) (w : World) (hn : n = l.length) (hb : l.length ≤ 8796093022207) (hs : SlR w a n (l.flatMap GCall.cells)) (la i : Int) (hla : -1 ≤ la ∧ (0 ≤ la → la < (l.length : Int))) (hi : 0 ≤ i ∧ i < (l.length : Int)) (hv : ∀ y ∈ l, VB w y.Value) (hvn : ∀ y ∈ l, y.Value.n ≤ 8796093022207000) :
    Calls Try.prog 92 #[.slice a n c, .int .i64 la, .int .i64 i] w (fun r_ w' => ∃ f_, r_ = .returned (.bool f_) ∧ Bp f_ (fnC w l la i.toNat) ∧ Fram Non w w') := by
  refine calls_of Try.func92 rfl 31 rfl (by simp) ?_
  have hp0 := Hp.init w
  have he0 : List.map (env0 [.slice a n c, .int .i64 la, .int .i64 i]) [0, 1, 2] = [.slice a n c, .int .i64 la, .int .i64 i] := by kernel_rfl
  obtain ⟨b0, he0⟩ := toMk he0
  rw [he0]
  clear he0
  refine WP.seq ?_
  refine WP.pure {} [] [0, 1, 2] [.slice a n c, .int .i64 la, .int .i64 i] .nil (by kernel_rfl) (fun b1 => ?_)
  refine thn_n ?_
  refine WP.seq ?_
  refine WP.region _ rfl (by kernel_rfl) ?_
  have hy5 : (l)[(i : Int).toNat]? = some l[(i : Int).toNat]! := get_bang (by first | (omega) | (simp only [List.length_append, List.length_cons, List.length_nil]; omega) | (simp only [List.length_take, List.length_append, List.length_cons, List.length_nil]; omega))
  refine OPS.batch 4 {} [GCall.val (l[(i : Int).toNat]!)] [0, 1, 11] [.slice a n c, .int .i64 la, GCall.val (l[(i : Int).toNat]!)] (.cons (show InB (i) (n) from ⟨by omega, by omega⟩) (.cons ((hs.at hp0).some (by omega)) (.cons (Ld.add0 (Ld.elN (P := Try.prog) (t := 73) (hs.at hp0).rd 11 (fun _ => rfl) hy5 (o := 0) (cs := [.int .i64 (l[(i : Int).toNat]!.Client), .int .i64 (l[(i : Int).toNat]!.Op), .bool (l[(i : Int).toNat]!.Put), .string (l[(i : Int).toNat]!.Key), .slice (l[(i : Int).toNat]!.Value.a) (l[(i : Int).toNat]!.Value.n) (l[(i : Int).toNat]!.Value.c), .int .i64 (l[(i : Int).toNat]!.Status), .int .i64 (l[(i : Int).toNat]!.From), .int .i64 (l[(i : Int).toNat]!.To), .bool (l[(i : Int).toNat]!.Open), .int .i64 (l[(i : Int).toNat]!.Tag.Count), .int .i64 (l[(i : Int).toNat]!.Tag.Client)]) (by kernel_rfl))) .nil))) (by kernel_rfl) (fun b6 => ?_)
  refine OPS.cons (opStep.alloc hp0 [.int .i64 0, .int .i64 0, .bool false, .string ByteArray.empty, .slice none 0 0, .int .i64 0, .int .i64 0, .int .i64 0, .bool false, .int .i64 0, .int .i64 0] (by kernel_rfl) (fun g9 w7 hp8 => ?_))
  refine OPS.cons (opStep.store0 hp8 rfl [.int .i64 (l[(i : Int).toNat]!.Client), .int .i64 (l[(i : Int).toNat]!.Op), .bool (l[(i : Int).toNat]!.Put), .string (l[(i : Int).toNat]!.Key), .slice (l[(i : Int).toNat]!.Value.a) (l[(i : Int).toNat]!.Value.n) (l[(i : Int).toNat]!.Value.c), .int .i64 (l[(i : Int).toNat]!.Status), .int .i64 (l[(i : Int).toNat]!.From), .int .i64 (l[(i : Int).toNat]!.To), .bool (l[(i : Int).toNat]!.Open), .int .i64 (l[(i : Int).toNat]!.Tag.Count), .int .i64 (l[(i : Int).toNat]!.Tag.Client)] [.int .i64 (l[(i : Int).toNat]!.Client), .int .i64 (l[(i : Int).toNat]!.Op), .bool (l[(i : Int).toNat]!.Put), .string (l[(i : Int).toNat]!.Key), .slice (l[(i : Int).toNat]!.Value.a) (l[(i : Int).toNat]!.Value.n) (l[(i : Int).toNat]!.Value.c), .int .i64 (l[(i : Int).toNat]!.Status), .int .i64 (l[(i : Int).toNat]!.From), .int .i64 (l[(i : Int).toNat]!.To), .bool (l[(i : Int).toNat]!.Open), .int .i64 (l[(i : Int).toNat]!.Tag.Count), .int .i64 (l[(i : Int).toNat]!.Tag.Client)] (by kernel_rfl) (fun w10 hp11 => ?_))
  refine OPS.nil ?_
  refine thn_n ?_
  refine WP.seq ?_
  refine WP.seq ?_
  refine WP.pure {} [.bool (l[(i : Int).toNat]!.Put)] [0, 1, 7, 13] [.slice a n c, .int .i64 la, .pointer (some ⟨g9, 0, none⟩), .bool (l[(i : Int).toNat]!.Put)] (.cons (Ld.row1 (P := Try.prog) (t := 4) (o := 2) (v := .bool (l[(i : Int).toNat]!.Put)) hp11.get0 (by kernel_rfl)) .nil) (by kernel_rfl) (fun b12 => ?_)
  refine thn_n ?_
  refine WP.test (p := (l[(i : Int).toNat]!.Put) = true) rfl Bp.var (fun h13 => ?_) (fun h13 => ?_)
  · refine WP.seq ?_
    refine WP.pure {} [] [6] [.bool true] .nil (by kernel_rfl) (fun b14 => ?_)
    refine thn_n ?_
    refine WP.ret ?_
    refine thn_r ?_
    refine bodyQ.of _ rfl [.bool true] ⟨rfl, trivial⟩ ?_
    exact ⟨_, rfl, Bp.of Bp.t (by simp only [fnC]; first | grind | (simp_all; done) | (simp_all; grind)), hp11.fr⟩
  · refine WP.skip ?_
    refine thn_n ?_
    refine WP.seq ?_
    refine WP.seq ?_
    refine WP.pure {} [.int .i64 (l[(i : Int).toNat]!.Status)] [0, 1, 7, 16] [.slice a n c, .int .i64 la, .pointer (some ⟨g9, 0, none⟩), .bool (decide ((l[(i : Int).toNat]!.Status) = 76))] (.cons (Ld.row1 (P := Try.prog) (t := 25) (o := 5) (v := .int .i64 (l[(i : Int).toNat]!.Status)) hp11.get0 (by kernel_rfl)) .nil) (by kernel_rfl) (fun b15 => ?_)
    refine thn_n ?_
    refine WP.test (p := (l[(i : Int).toNat]!.Status) = 76) rfl Bp.dec (fun h16 => ?_) (fun h16 => ?_)
    · refine WP.seq ?_
      refine WP.pure {} [] [6] [.bool (decide (la < 0))] .nil (by kernel_rfl) (fun b17 => ?_)
      refine thn_n ?_
      refine WP.ret ?_
      refine thn_r ?_
      refine bodyQ.of _ rfl [.bool (decide (la < 0))] ⟨rfl, trivial⟩ ?_
      exact ⟨_, rfl, Bp.of Bp.dec (by simp only [fnC]; first | grind | (simp_all; done) | (simp_all; grind)), hp11.fr⟩
    · refine WP.skip ?_
      refine thn_n ?_
      refine WP.cut (fun e47 w48 => ∃ (x45 : Bool), (True) ∧ Bp x45 ((0 ≤ la) ∧ (bytesAt w (l[(la : Int).toNat]!.Value) = bytesAt w (l[(i : Int).toNat]!.Value))) ∧ List.map e47 [6] = [.bool x45] ∧ Hp w Non [Res.row g9 [.int .i64 (l[(i : Int).toNat]!.Client), .int .i64 (l[(i : Int).toNat]!.Op), .bool (l[(i : Int).toNat]!.Put), .string (l[(i : Int).toNat]!.Key), .slice (l[(i : Int).toNat]!.Value.a) (l[(i : Int).toNat]!.Value.n) (l[(i : Int).toNat]!.Value.c), .int .i64 (l[(i : Int).toNat]!.Status), .int .i64 (l[(i : Int).toNat]!.From), .int .i64 (l[(i : Int).toNat]!.To), .bool (l[(i : Int).toNat]!.Open), .int .i64 (l[(i : Int).toNat]!.Tag.Count), .int .i64 (l[(i : Int).toNat]!.Tag.Client)] 73] w48) ?_ ?_
      · have hp21 := hp11.drew
        refine WP.quiet (fun w19 => Hp w Non [Res.row g9 [.int .i64 (l[(i : Int).toNat]!.Client), .int .i64 (l[(i : Int).toNat]!.Op), .bool (l[(i : Int).toNat]!.Put), .string (l[(i : Int).toNat]!.Key), .slice (l[(i : Int).toNat]!.Value.a) (l[(i : Int).toNat]!.Value.n) (l[(i : Int).toNat]!.Value.c), .int .i64 (l[(i : Int).toNat]!.Status), .int .i64 (l[(i : Int).toNat]!.From), .int .i64 (l[(i : Int).toNat]!.To), .bool (l[(i : Int).toNat]!.Open), .int .i64 (l[(i : Int).toNat]!.Tag.Count), .int .i64 (l[(i : Int).toNat]!.Tag.Client)] 73] w19) (by kernel_rfl) hp21 ?_
        have hnehp21 : ∃ wz_, (fun w19 => Hp w Non [Res.row g9 [.int .i64 (l[(i : Int).toNat]!.Client), .int .i64 (l[(i : Int).toNat]!.Op), .bool (l[(i : Int).toNat]!.Put), .string (l[(i : Int).toNat]!.Key), .slice (l[(i : Int).toNat]!.Value.a) (l[(i : Int).toNat]!.Value.n) (l[(i : Int).toNat]!.Value.c), .int .i64 (l[(i : Int).toNat]!.Status), .int .i64 (l[(i : Int).toNat]!.From), .int .i64 (l[(i : Int).toNat]!.To), .bool (l[(i : Int).toNat]!.Open), .int .i64 (l[(i : Int).toNat]!.Tag.Count), .int .i64 (l[(i : Int).toNat]!.Tag.Client)] 73] w19) wz_ := ⟨_, hp21⟩
        refine QOPS.batch 3 {} [] [0, 1, 7, 21] [.slice a n c, .int .i64 la, .pointer (some ⟨g9, 0, none⟩), .bool (decide (0 ≤ la))] hnehp21 (fun w22 hp23 => QB.mk .nil (by kernel_rfl)) (fun b24 => ?_)
        by_cases h25 : 0 ≤ la
        · refine QOPS.batch 0 {} [] [0, 1, 7, 21] [.slice a n c, .int .i64 la, .pointer (some ⟨g9, 0, none⟩), .bool (decide (0 ≤ la))] hnehp21 (fun _ _ => QB.mk .nil (by kernel_rfl)) (fun b26 => ?_)
          refine QOPS.re [.slice a n c, .int .i64 la, .pointer (some ⟨g9, 0, none⟩), .bool true] (by rw [show (decide (0 ≤ la)) = true from Bp.dec.tt h25]) ?_
          have hy30 : (l)[(la : Int).toNat]? = some l[(la : Int).toNat]! := get_bang (by first | (omega) | (simp only [List.length_append, List.length_cons, List.length_nil]; omega) | (simp only [List.length_take, List.length_append, List.length_cons, List.length_nil]; omega))
          refine QOPS.batch 7 {} [.slice (l[(la : Int).toNat]!.Value.a) (l[(la : Int).toNat]!.Value.n) (l[(la : Int).toNat]!.Value.c), .slice (l[(i : Int).toNat]!.Value.a) (l[(i : Int).toNat]!.Value.n) (l[(i : Int).toNat]!.Value.c)] [21, 26, 28] [.bool true, .slice (l[(la : Int).toNat]!.Value.a) (l[(la : Int).toNat]!.Value.n) (l[(la : Int).toNat]!.Value.c), .slice (l[(i : Int).toNat]!.Value.a) (l[(i : Int).toNat]!.Value.n) (l[(i : Int).toNat]!.Value.c)] hnehp21 (fun w27 hp28 => QB.mk (.cons (show InB (la) (n) from ⟨by omega, by omega⟩) (.cons ((hs.at hp28).some (by omega)) (.cons (Ld.el1 (P := Try.prog) (t := 71) (hs.at hp28).rd 11 (fun _ => rfl) hy30 (o := 4) (v := .slice (l[(la : Int).toNat]!.Value.a) (l[(la : Int).toNat]!.Value.n) (l[(la : Int).toNat]!.Value.c)) (by kernel_rfl)) (.cons (Ld.row1 (P := Try.prog) (t := 71) (o := 4) (v := .slice (l[(i : Int).toNat]!.Value.a) (l[(i : Int).toNat]!.Value.n) (l[(i : Int).toNat]!.Value.c)) hp28.get0 (by kernel_rfl)) .nil)))) (by kernel_rfl)) (fun b31 => ?_)
          refine QOPS.call (some 29) [.slice (l[(la : Int).toNat]!.Value.a) (l[(la : Int).toNat]!.Value.n) (l[(la : Int).toNat]!.Value.c), .slice (l[(i : Int).toNat]!.Value.a) (l[(i : Int).toNat]!.Value.n) (l[(i : Int).toNat]!.Value.c)] (by kernel_rfl) (fun w32 hp33 => (t_same (bytesAt w (l[(la : Int).toNat]!.Value)) (bytesAt w (l[(i : Int).toNat]!.Value)) _ _ _ _ _ _ _ (bytesAt_len _ _) (bytesAt_len _ _) (by rw [bytesAt_len]; exact hvn _ (List.mem_of_getElem? (get_bang (by omega)))) (SlR.at (hv l[(la : Int).toNat]! (List.mem_of_getElem? hy30)) hp33) (SlR.at (hv l[(i : Int).toNat]! (List.mem_of_getElem? hy5)) hp33)).mono fun _ _ h => by obtain ⟨b, h1, h2, h3⟩ := h; exact ⟨by rw [h1, h2.eq_bo], hp33.step h3⟩) ?_
          refine QOPS.batch 2 { wraps := [30] } [] [6] [.bool (bo (bytesAt w (l[(la : Int).toNat]!.Value) = bytesAt w (l[(i : Int).toNat]!.Value)))] hnehp21 (fun w34 hp35 => QB.mk .nil (by kernel_rfl)) (fun b36 => ?_)
          refine QOPS.nil (fun w37 hp38 => ?_)
          refine thn_n ?_
          exact ⟨bo (bytesAt w (l[(la : Int).toNat]!.Value) = bytesAt w (l[(i : Int).toNat]!.Value)), trivial, Bp.of Bp.bo (by first | (simp only [h25, iff_false, false_iff, iff_true, true_iff, Classical.not_not, and_true, true_and, and_false, false_and, or_true, true_or, or_false, false_or, not_true_eq_false, not_false_eq_true, and_self, or_self, iff_self]; done) | (simp [h25]; done) | grind | (simp_all; done)), by kernel_rfl, hp38⟩
        · refine QOPS.batch 0 {} [] [0, 1, 7, 21] [.slice a n c, .int .i64 la, .pointer (some ⟨g9, 0, none⟩), .bool (decide (0 ≤ la))] hnehp21 (fun _ _ => QB.mk .nil (by kernel_rfl)) (fun b39 => ?_)
          refine QOPS.re [.slice a n c, .int .i64 la, .pointer (some ⟨g9, 0, none⟩), .bool false] (by rw [show (decide (0 ≤ la)) = false from Bp.dec.ff h25]) ?_
          refine QOPS.batch 10 { wraps := [30] } [] [6] [.bool false] hnehp21 (fun w40 hp41 => QB.mk .nil (by kernel_rfl)) (fun b42 => ?_)
          refine QOPS.nil (fun w43 hp44 => ?_)
          refine thn_n ?_
          exact ⟨false, trivial, Bp.of Bp.f (by first | (simp only [h25, iff_false, false_iff, iff_true, true_iff, Classical.not_not, and_true, true_and, and_false, false_and, or_true, true_or, or_false, false_or, not_true_eq_false, not_false_eq_true, and_self, or_self, iff_self]; done) | (simp [h25]; done) | grind | (simp_all; done)), by kernel_rfl, hp44⟩
      rintro e47 w48 ⟨x45, hd50, hb46, hE51, hp49⟩
      obtain ⟨b52, rfl⟩ := toMk hE51
      clear hE51
      clear hd50
      refine WP.ret ?_
      refine bodyQ.of _ rfl [.bool x45] ⟨rfl, trivial⟩ ?_
      exact ⟨_, rfl, Bp.of hb46 (by simp only [fnC]; first | grind | (simp_all; done) | (simp_all; grind)), hp49.fr⟩

theorem t_next2 (l : List GCall) (a : Option Addr) (n c : Nat) (w : World) (hn : n = l.length) (hb : l.length ≤ 8796093022207) (hs : SlR w a n (l.flatMap GCall.cells)) (la i : Int) (hla : -1 ≤ la ∧ (0 ≤ la → la < (l.length : Int))) (hi : 0 ≤ i ∧ i < (l.length : Int)) (w0 : World) (hf : Fram Non w0 w) (hv : ∀ y ∈ l, VB w0 y.Value) (hvn : ∀ y ∈ l, y.Value.n ≤ 8796093022207000) : Calls Try.prog 92 #[.slice a n c, .int .i64 la, .int .i64 i] w (fun r_ w' => ∃ f_, r_ = .returned (.bool f_) ∧ Bp f_ (fnC w0 l la i.toNat) ∧ Fram Non w w') :=
  (t_next l a n c w hn hb hs la i hla hi (fun y hy => (hv y hy).at' hf) hvn).mono fun _ _ ⟨f, e1, e2, e3⟩ => ⟨f, e1, Bp.of e2 (fnC_fram hf hv hla.2 (by omega)), e3⟩
theorem t_ahead (l : List GCall) (a : Option Addr) (n c : Nat) (w : World) (hn : n = l.length) (hb : l.length ≤ 8796093022207) (hs : SlR w a n (l.flatMap GCall.cells)) (i j : Int) (hi : 0 ≤ i ∧ i < (l.length : Int)) (hj : 0 ≤ j ∧ j < (l.length : Int)) :
    Calls Try.prog 91 #[.slice a n c, .int .i64 i, .int .i64 j] w (fun r_ w' => ∃ f_, r_ = .returned (.bool f_) ∧ Bp f_ (aheadP l[i.toNat]! l[j.toNat]!) ∧ Fram Non w w') := by
  refine calls_of Try.func91 rfl 46 rfl (by simp) ?_
  have hp0 := Hp.init w
  have he0 : List.map (env0 [.slice a n c, .int .i64 i, .int .i64 j]) [0, 1, 2] = [.slice a n c, .int .i64 i, .int .i64 j] := by kernel_rfl
  obtain ⟨b0, he0⟩ := toMk he0
  rw [he0]
  clear he0
  refine WP.seq ?_
  refine WP.pure {} [] [0, 1, 2] [.slice a n c, .int .i64 i, .int .i64 j] .nil (by kernel_rfl) (fun b1 => ?_)
  refine thn_n ?_
  refine WP.seq ?_
  have hp2 := hp0.drew
  have hy4 : (l)[(i : Int).toNat]? = some l[(i : Int).toNat]! := get_bang (by first | (omega) | (simp only [List.length_append, List.length_cons, List.length_nil]; omega) | (simp only [List.length_take, List.length_append, List.length_cons, List.length_nil]; omega))
  have hy6 : (l)[(j : Int).toNat]? = some l[(j : Int).toNat]! := get_bang (by first | (omega) | (simp only [List.length_append, List.length_cons, List.length_nil]; omega) | (simp only [List.length_take, List.length_append, List.length_cons, List.length_nil]; omega))
  refine WP.tree (fun w7 => Ld Try.prog w7 73 ((adr a).add ((i : Int).toNat * 11)) (GCall.val (l[(i : Int).toNat]!)) ∧ Ld Try.prog w7 73 ((adr a).add ((j : Int).toNat * 11)) (GCall.val (l[(j : Int).toNat]!)) ∧ True) [] 12 (np_thn np_body) (by kernel_rfl) ?_
  refine HT.pre (l := [(0, true), (1, true), (2, true), (3, true), (4, true), (5, true), (6, true), (7, true)]) (n := 4) (by kernel_rfl) ?_
  refine HOPS.take 8 {} [GCall.val (l[(i : Int).toNat]!), GCall.val (l[(j : Int).toNat]!)] [12, 16] [GCall.val (l[(i : Int).toNat]!), GCall.val (l[(j : Int).toNat]!)] (by kernel_rfl) ⟨(show Ld Try.prog w.drew 73 ((adr a).add ((i : Int).toNat * 11)) (GCall.val (l[(i : Int).toNat]!)) from (Ld.add0 (Ld.elN (P := Try.prog) (t := 73) (hs.at hp2).rd 11 (fun _ => rfl) hy4 (o := 0) (cs := [.int .i64 (l[(i : Int).toNat]!.Client), .int .i64 (l[(i : Int).toNat]!.Op), .bool (l[(i : Int).toNat]!.Put), .string (l[(i : Int).toNat]!.Key), .slice (l[(i : Int).toNat]!.Value.a) (l[(i : Int).toNat]!.Value.n) (l[(i : Int).toNat]!.Value.c), .int .i64 (l[(i : Int).toNat]!.Status), .int .i64 (l[(i : Int).toNat]!.From), .int .i64 (l[(i : Int).toNat]!.To), .bool (l[(i : Int).toNat]!.Open), .int .i64 (l[(i : Int).toNat]!.Tag.Count), .int .i64 (l[(i : Int).toNat]!.Tag.Client)]) (by kernel_rfl)))), (show Ld Try.prog w.drew 73 ((adr a).add ((j : Int).toNat * 11)) (GCall.val (l[(j : Int).toNat]!)) from (Ld.add0 (Ld.elN (P := Try.prog) (t := 73) (hs.at hp2).rd 11 (fun _ => rfl) hy6 (o := 0) (cs := [.int .i64 (l[(j : Int).toNat]!.Client), .int .i64 (l[(j : Int).toNat]!.Op), .bool (l[(j : Int).toNat]!.Put), .string (l[(j : Int).toNat]!.Key), .slice (l[(j : Int).toNat]!.Value.a) (l[(j : Int).toNat]!.Value.n) (l[(j : Int).toNat]!.Value.c), .int .i64 (l[(j : Int).toNat]!.Status), .int .i64 (l[(j : Int).toNat]!.From), .int .i64 (l[(j : Int).toNat]!.To), .bool (l[(j : Int).toNat]!.Open), .int .i64 (l[(j : Int).toNat]!.Tag.Count), .int .i64 (l[(j : Int).toNat]!.Tag.Client)]) (by kernel_rfl)))), trivial⟩ (fun w8 hS9 => QB.mk (.cons (show InB (i) (n) from ⟨by omega, by omega⟩) (.cons ((hs.at hp2).some (by omega)) (.cons (hS9.1) (.cons (show InB (j) (n) from ⟨by omega, by omega⟩) (.cons ((hs.at hp2).some (by omega)) (.cons (hS9.2.1) .nil)))))) (by kernel_rfl)) (fun b10 => ?_)
  refine HOPS.nil (QN.n ?_)
  refine HT.br (n := 3) [8, 9] (by kernel_rfl) (by simp) ?_
  refine AllR.cons _ rfl ?_ ?_
  · refine (opStep.alloc hp2 [.int .i64 0, .int .i64 0, .bool false, .string ByteArray.empty, .slice none 0 0, .int .i64 0, .int .i64 0, .int .i64 0, .bool false, .int .i64 0, .int .i64 0] (by kernel_rfl) (fun g13 w11 hp12 => ?_))
    refine ⟨.inr ⟨(show Ld Try.prog w11 73 ((adr a).add ((i : Int).toNat * 11)) (GCall.val (l[(i : Int).toNat]!)) from (Ld.add0 (Ld.elN (P := Try.prog) (t := 73) (hs.at hp12).rd 11 (fun _ => rfl) hy4 (o := 0) (cs := [.int .i64 (l[(i : Int).toNat]!.Client), .int .i64 (l[(i : Int).toNat]!.Op), .bool (l[(i : Int).toNat]!.Put), .string (l[(i : Int).toNat]!.Key), .slice (l[(i : Int).toNat]!.Value.a) (l[(i : Int).toNat]!.Value.n) (l[(i : Int).toNat]!.Value.c), .int .i64 (l[(i : Int).toNat]!.Status), .int .i64 (l[(i : Int).toNat]!.From), .int .i64 (l[(i : Int).toNat]!.To), .bool (l[(i : Int).toNat]!.Open), .int .i64 (l[(i : Int).toNat]!.Tag.Count), .int .i64 (l[(i : Int).toNat]!.Tag.Client)]) (by kernel_rfl)))), (show Ld Try.prog w11 73 ((adr a).add ((j : Int).toNat * 11)) (GCall.val (l[(j : Int).toNat]!)) from (Ld.add0 (Ld.elN (P := Try.prog) (t := 73) (hs.at hp12).rd 11 (fun _ => rfl) hy6 (o := 0) (cs := [.int .i64 (l[(j : Int).toNat]!.Client), .int .i64 (l[(j : Int).toNat]!.Op), .bool (l[(j : Int).toNat]!.Put), .string (l[(j : Int).toNat]!.Key), .slice (l[(j : Int).toNat]!.Value.a) (l[(j : Int).toNat]!.Value.n) (l[(j : Int).toNat]!.Value.c), .int .i64 (l[(j : Int).toNat]!.Status), .int .i64 (l[(j : Int).toNat]!.From), .int .i64 (l[(j : Int).toNat]!.To), .bool (l[(j : Int).toNat]!.Open), .int .i64 (l[(j : Int).toNat]!.Tag.Count), .int .i64 (l[(j : Int).toNat]!.Tag.Client)]) (by kernel_rfl)))), trivial⟩, ?_⟩
    refine HT.br (n := 2) [9] (by kernel_rfl) (by simp) ?_
    refine AllR.cons _ rfl ?_ AllR.nil
    refine (opStep.alloc hp12 [.int .i64 0, .int .i64 0, .bool false, .string ByteArray.empty, .slice none 0 0, .int .i64 0, .int .i64 0, .int .i64 0, .bool false, .int .i64 0, .int .i64 0] (by kernel_rfl) (fun g16 w14 hp15 => ?_))
    refine ⟨.inr ⟨(show Ld Try.prog w14 73 ((adr a).add ((i : Int).toNat * 11)) (GCall.val (l[(i : Int).toNat]!)) from (Ld.add0 (Ld.elN (P := Try.prog) (t := 73) (hs.at hp15).rd 11 (fun _ => rfl) hy4 (o := 0) (cs := [.int .i64 (l[(i : Int).toNat]!.Client), .int .i64 (l[(i : Int).toNat]!.Op), .bool (l[(i : Int).toNat]!.Put), .string (l[(i : Int).toNat]!.Key), .slice (l[(i : Int).toNat]!.Value.a) (l[(i : Int).toNat]!.Value.n) (l[(i : Int).toNat]!.Value.c), .int .i64 (l[(i : Int).toNat]!.Status), .int .i64 (l[(i : Int).toNat]!.From), .int .i64 (l[(i : Int).toNat]!.To), .bool (l[(i : Int).toNat]!.Open), .int .i64 (l[(i : Int).toNat]!.Tag.Count), .int .i64 (l[(i : Int).toNat]!.Tag.Client)]) (by kernel_rfl)))), (show Ld Try.prog w14 73 ((adr a).add ((j : Int).toNat * 11)) (GCall.val (l[(j : Int).toNat]!)) from (Ld.add0 (Ld.elN (P := Try.prog) (t := 73) (hs.at hp15).rd 11 (fun _ => rfl) hy6 (o := 0) (cs := [.int .i64 (l[(j : Int).toNat]!.Client), .int .i64 (l[(j : Int).toNat]!.Op), .bool (l[(j : Int).toNat]!.Put), .string (l[(j : Int).toNat]!.Key), .slice (l[(j : Int).toNat]!.Value.a) (l[(j : Int).toNat]!.Value.n) (l[(j : Int).toNat]!.Value.c), .int .i64 (l[(j : Int).toNat]!.Status), .int .i64 (l[(j : Int).toNat]!.From), .int .i64 (l[(j : Int).toNat]!.To), .bool (l[(j : Int).toNat]!.Open), .int .i64 (l[(j : Int).toNat]!.Tag.Count), .int .i64 (l[(j : Int).toNat]!.Tag.Client)]) (by kernel_rfl)))), trivial⟩, ?_⟩
    refine HT.br (n := 1) [10] (by kernel_rfl) (by simp) ?_
    refine AllR.cons _ rfl ?_ AllR.nil
    refine (opStep.store1 hp15 rfl [.int .i64 (l[(i : Int).toNat]!.Client), .int .i64 (l[(i : Int).toNat]!.Op), .bool (l[(i : Int).toNat]!.Put), .string (l[(i : Int).toNat]!.Key), .slice (l[(i : Int).toNat]!.Value.a) (l[(i : Int).toNat]!.Value.n) (l[(i : Int).toNat]!.Value.c), .int .i64 (l[(i : Int).toNat]!.Status), .int .i64 (l[(i : Int).toNat]!.From), .int .i64 (l[(i : Int).toNat]!.To), .bool (l[(i : Int).toNat]!.Open), .int .i64 (l[(i : Int).toNat]!.Tag.Count), .int .i64 (l[(i : Int).toNat]!.Tag.Client)] [.int .i64 (l[(i : Int).toNat]!.Client), .int .i64 (l[(i : Int).toNat]!.Op), .bool (l[(i : Int).toNat]!.Put), .string (l[(i : Int).toNat]!.Key), .slice (l[(i : Int).toNat]!.Value.a) (l[(i : Int).toNat]!.Value.n) (l[(i : Int).toNat]!.Value.c), .int .i64 (l[(i : Int).toNat]!.Status), .int .i64 (l[(i : Int).toNat]!.From), .int .i64 (l[(i : Int).toNat]!.To), .bool (l[(i : Int).toNat]!.Open), .int .i64 (l[(i : Int).toNat]!.Tag.Count), .int .i64 (l[(i : Int).toNat]!.Tag.Client)] (by kernel_rfl) (fun w17 hp18 => ?_))
    refine ⟨.inr ⟨(show Ld Try.prog w17 73 ((adr a).add ((i : Int).toNat * 11)) (GCall.val (l[(i : Int).toNat]!)) from (Ld.add0 (Ld.elN (P := Try.prog) (t := 73) (hs.at hp18).rd 11 (fun _ => rfl) hy4 (o := 0) (cs := [.int .i64 (l[(i : Int).toNat]!.Client), .int .i64 (l[(i : Int).toNat]!.Op), .bool (l[(i : Int).toNat]!.Put), .string (l[(i : Int).toNat]!.Key), .slice (l[(i : Int).toNat]!.Value.a) (l[(i : Int).toNat]!.Value.n) (l[(i : Int).toNat]!.Value.c), .int .i64 (l[(i : Int).toNat]!.Status), .int .i64 (l[(i : Int).toNat]!.From), .int .i64 (l[(i : Int).toNat]!.To), .bool (l[(i : Int).toNat]!.Open), .int .i64 (l[(i : Int).toNat]!.Tag.Count), .int .i64 (l[(i : Int).toNat]!.Tag.Client)]) (by kernel_rfl)))), (show Ld Try.prog w17 73 ((adr a).add ((j : Int).toNat * 11)) (GCall.val (l[(j : Int).toNat]!)) from (Ld.add0 (Ld.elN (P := Try.prog) (t := 73) (hs.at hp18).rd 11 (fun _ => rfl) hy6 (o := 0) (cs := [.int .i64 (l[(j : Int).toNat]!.Client), .int .i64 (l[(j : Int).toNat]!.Op), .bool (l[(j : Int).toNat]!.Put), .string (l[(j : Int).toNat]!.Key), .slice (l[(j : Int).toNat]!.Value.a) (l[(j : Int).toNat]!.Value.n) (l[(j : Int).toNat]!.Value.c), .int .i64 (l[(j : Int).toNat]!.Status), .int .i64 (l[(j : Int).toNat]!.From), .int .i64 (l[(j : Int).toNat]!.To), .bool (l[(j : Int).toNat]!.Open), .int .i64 (l[(j : Int).toNat]!.Tag.Count), .int .i64 (l[(j : Int).toNat]!.Tag.Client)]) (by kernel_rfl)))), trivial⟩, ?_⟩
    refine HT.br (n := 0) [11] (by kernel_rfl) (by simp) ?_
    refine AllR.cons _ rfl ?_ AllR.nil
    refine (opStep.store0 hp18 rfl [.int .i64 (l[(j : Int).toNat]!.Client), .int .i64 (l[(j : Int).toNat]!.Op), .bool (l[(j : Int).toNat]!.Put), .string (l[(j : Int).toNat]!.Key), .slice (l[(j : Int).toNat]!.Value.a) (l[(j : Int).toNat]!.Value.n) (l[(j : Int).toNat]!.Value.c), .int .i64 (l[(j : Int).toNat]!.Status), .int .i64 (l[(j : Int).toNat]!.From), .int .i64 (l[(j : Int).toNat]!.To), .bool (l[(j : Int).toNat]!.Open), .int .i64 (l[(j : Int).toNat]!.Tag.Count), .int .i64 (l[(j : Int).toNat]!.Tag.Client)] [.int .i64 (l[(j : Int).toNat]!.Client), .int .i64 (l[(j : Int).toNat]!.Op), .bool (l[(j : Int).toNat]!.Put), .string (l[(j : Int).toNat]!.Key), .slice (l[(j : Int).toNat]!.Value.a) (l[(j : Int).toNat]!.Value.n) (l[(j : Int).toNat]!.Value.c), .int .i64 (l[(j : Int).toNat]!.Status), .int .i64 (l[(j : Int).toNat]!.From), .int .i64 (l[(j : Int).toNat]!.To), .bool (l[(j : Int).toNat]!.Open), .int .i64 (l[(j : Int).toNat]!.Tag.Count), .int .i64 (l[(j : Int).toNat]!.Tag.Client)] (by kernel_rfl) (fun w19 hp20 => ?_))
    refine ⟨.inr ⟨(show Ld Try.prog w19 73 ((adr a).add ((i : Int).toNat * 11)) (GCall.val (l[(i : Int).toNat]!)) from (Ld.add0 (Ld.elN (P := Try.prog) (t := 73) (hs.at hp20).rd 11 (fun _ => rfl) hy4 (o := 0) (cs := [.int .i64 (l[(i : Int).toNat]!.Client), .int .i64 (l[(i : Int).toNat]!.Op), .bool (l[(i : Int).toNat]!.Put), .string (l[(i : Int).toNat]!.Key), .slice (l[(i : Int).toNat]!.Value.a) (l[(i : Int).toNat]!.Value.n) (l[(i : Int).toNat]!.Value.c), .int .i64 (l[(i : Int).toNat]!.Status), .int .i64 (l[(i : Int).toNat]!.From), .int .i64 (l[(i : Int).toNat]!.To), .bool (l[(i : Int).toNat]!.Open), .int .i64 (l[(i : Int).toNat]!.Tag.Count), .int .i64 (l[(i : Int).toNat]!.Tag.Client)]) (by kernel_rfl)))), (show Ld Try.prog w19 73 ((adr a).add ((j : Int).toNat * 11)) (GCall.val (l[(j : Int).toNat]!)) from (Ld.add0 (Ld.elN (P := Try.prog) (t := 73) (hs.at hp20).rd 11 (fun _ => rfl) hy6 (o := 0) (cs := [.int .i64 (l[(j : Int).toNat]!.Client), .int .i64 (l[(j : Int).toNat]!.Op), .bool (l[(j : Int).toNat]!.Put), .string (l[(j : Int).toNat]!.Key), .slice (l[(j : Int).toNat]!.Value.a) (l[(j : Int).toNat]!.Value.n) (l[(j : Int).toNat]!.Value.c), .int .i64 (l[(j : Int).toNat]!.Status), .int .i64 (l[(j : Int).toNat]!.From), .int .i64 (l[(j : Int).toNat]!.To), .bool (l[(j : Int).toNat]!.Open), .int .i64 (l[(j : Int).toNat]!.Tag.Count), .int .i64 (l[(j : Int).toNat]!.Tag.Client)]) (by kernel_rfl)))), trivial⟩, ?_⟩
    refine HT.done (by kernel_rfl) ?_
    refine thn_n ?_
    refine WP.cut (fun e67 w68 => ∃ (x65 : Bool), (True) ∧ Bp x65 (((0 < (partI (l[(i : Int).toNat]!))) ∧ (0 < (partI (l[(j : Int).toNat]!))) ∧ ((l[(i : Int).toNat]!.Put) = true) ∧ (¬ ((l[(i : Int).toNat]!.Open) = true)) ∧ (0 ≤ (l[(i : Int).toNat]!.To)) ∧ ((l[(i : Int).toNat]!.To) < (l[(j : Int).toNat]!.From))) ∨ ((0 < (partI (l[(i : Int).toNat]!))) ∧ (0 < (partI (l[(j : Int).toNat]!))) ∧ (¬ ((l[(i : Int).toNat]!.Put) = true)) ∧ (0 ≤ (l[(i : Int).toNat]!.To)) ∧ ((l[(i : Int).toNat]!.To) < (l[(j : Int).toNat]!.From)))) ∧ List.map e67 [6] = [.bool x65] ∧ Hp w Non [Res.row g16 [.int .i64 (l[(j : Int).toNat]!.Client), .int .i64 (l[(j : Int).toNat]!.Op), .bool (l[(j : Int).toNat]!.Put), .string (l[(j : Int).toNat]!.Key), .slice (l[(j : Int).toNat]!.Value.a) (l[(j : Int).toNat]!.Value.n) (l[(j : Int).toNat]!.Value.c), .int .i64 (l[(j : Int).toNat]!.Status), .int .i64 (l[(j : Int).toNat]!.From), .int .i64 (l[(j : Int).toNat]!.To), .bool (l[(j : Int).toNat]!.Open), .int .i64 (l[(j : Int).toNat]!.Tag.Count), .int .i64 (l[(j : Int).toNat]!.Tag.Client)] 73, Res.row g13 [.int .i64 (l[(i : Int).toNat]!.Client), .int .i64 (l[(i : Int).toNat]!.Op), .bool (l[(i : Int).toNat]!.Put), .string (l[(i : Int).toNat]!.Key), .slice (l[(i : Int).toNat]!.Value.a) (l[(i : Int).toNat]!.Value.n) (l[(i : Int).toNat]!.Value.c), .int .i64 (l[(i : Int).toNat]!.Status), .int .i64 (l[(i : Int).toNat]!.From), .int .i64 (l[(i : Int).toNat]!.To), .bool (l[(i : Int).toNat]!.Open), .int .i64 (l[(i : Int).toNat]!.Tag.Count), .int .i64 (l[(i : Int).toNat]!.Tag.Client)] 73] w68) ?_ ?_
    · refine WP.region _ rfl (by kernel_rfl) ?_
      refine OPS.batch 1 {} [GCall.val (l[(i : Int).toNat]!)] [7, 8, 17] [.pointer (some ⟨g13, 0, none⟩), .pointer (some ⟨g16, 0, none⟩), GCall.val (l[(i : Int).toNat]!)] (.cons (show Ld Try.prog w19 73 ⟨g13, 0, none⟩ (GCall.val (l[(i : Int).toNat]!)) from Ld.rowN (cs := [.int .i64 (l[(i : Int).toNat]!.Client), .int .i64 (l[(i : Int).toNat]!.Op), .bool (l[(i : Int).toNat]!.Put), .string (l[(i : Int).toNat]!.Key), .slice (l[(i : Int).toNat]!.Value.a) (l[(i : Int).toNat]!.Value.n) (l[(i : Int).toNat]!.Value.c), .int .i64 (l[(i : Int).toNat]!.Status), .int .i64 (l[(i : Int).toNat]!.From), .int .i64 (l[(i : Int).toNat]!.To), .bool (l[(i : Int).toNat]!.Open), .int .i64 (l[(i : Int).toNat]!.Tag.Count), .int .i64 (l[(i : Int).toNat]!.Tag.Client)]) hp20.get1 (by kernel_rfl)) .nil) (by kernel_rfl) (fun b22 => ?_)
      refine OPS.cons (opStep.call (some 18) [GCall.val (l[(i : Int).toNat]!)] (by kernel_rfl) (t_part (l[(i : Int).toNat]!) _) ?_)
      rintro _ w25 ⟨rfl, hf26⟩
      refine ⟨_, rfl, ?_⟩
      have hp27 := hp20.step hf26
      refine OPS.batch 2 {} [] [7, 8, 20] [.pointer (some ⟨g13, 0, none⟩), .pointer (some ⟨g16, 0, none⟩), .bool (decide (0 < (partI (l[(i : Int).toNat]!))))] .nil (by kernel_rfl) (fun b28 => ?_)
      by_cases h29 : 0 < (partI (l[(i : Int).toNat]!))
      · refine OPS.batch 0 {} [] [7, 8, 20] [.pointer (some ⟨g13, 0, none⟩), .pointer (some ⟨g16, 0, none⟩), .bool (decide (0 < (partI (l[(i : Int).toNat]!))))] .nil (by kernel_rfl) (fun b30 => ?_)
        refine OPS.re [.pointer (some ⟨g13, 0, none⟩), .pointer (some ⟨g16, 0, none⟩), .bool true] (by rw [show (decide (0 < (partI (l[(i : Int).toNat]!)))) = true from Bp.dec.tt h29]) ?_
        refine OPS.batch 1 {} [GCall.val (l[(j : Int).toNat]!)] [7, 8, 20, 21] [.pointer (some ⟨g13, 0, none⟩), .pointer (some ⟨g16, 0, none⟩), .bool true, GCall.val (l[(j : Int).toNat]!)] (.cons (show Ld Try.prog w25 73 ⟨g16, 0, none⟩ (GCall.val (l[(j : Int).toNat]!)) from Ld.rowN (cs := [.int .i64 (l[(j : Int).toNat]!.Client), .int .i64 (l[(j : Int).toNat]!.Op), .bool (l[(j : Int).toNat]!.Put), .string (l[(j : Int).toNat]!.Key), .slice (l[(j : Int).toNat]!.Value.a) (l[(j : Int).toNat]!.Value.n) (l[(j : Int).toNat]!.Value.c), .int .i64 (l[(j : Int).toNat]!.Status), .int .i64 (l[(j : Int).toNat]!.From), .int .i64 (l[(j : Int).toNat]!.To), .bool (l[(j : Int).toNat]!.Open), .int .i64 (l[(j : Int).toNat]!.Tag.Count), .int .i64 (l[(j : Int).toNat]!.Tag.Client)]) hp27.get0 (by kernel_rfl)) .nil) (by kernel_rfl) (fun b31 => ?_)
        refine OPS.want (by kernel_rfl) ?_
        refine OPS.cons (opStep.call (some 22) [GCall.val (l[(j : Int).toNat]!)] (by kernel_rfl) (t_part (l[(j : Int).toNat]!) _) ?_)
        rintro _ w34 ⟨rfl, hf35⟩
        refine ⟨_, rfl, ?_⟩
        have hp36 := hp27.step hf35
        refine OPS.batch 3 { wraps := [24] } [] [7, 8, 25] [.pointer (some ⟨g13, 0, none⟩), .pointer (some ⟨g16, 0, none⟩), .bool (decide (0 < (partI (l[(j : Int).toNat]!))))] .nil (by kernel_rfl) (fun b37 => ?_)
        by_cases h38 : 0 < (partI (l[(j : Int).toNat]!))
        · refine OPS.batch 0 {} [] [7, 8, 25] [.pointer (some ⟨g13, 0, none⟩), .pointer (some ⟨g16, 0, none⟩), .bool (decide (0 < (partI (l[(j : Int).toNat]!))))] .nil (by kernel_rfl) (fun b39 => ?_)
          refine OPS.re [.pointer (some ⟨g13, 0, none⟩), .pointer (some ⟨g16, 0, none⟩), .bool true] (by rw [show (decide (0 < (partI (l[(j : Int).toNat]!)))) = true from Bp.dec.tt h38]) ?_
          refine OPS.batch 3 {} [.bool (l[(i : Int).toNat]!.Put)] [7, 8, 25, 28] [.pointer (some ⟨g13, 0, none⟩), .pointer (some ⟨g16, 0, none⟩), .bool true, .bool (l[(i : Int).toNat]!.Put)] (.cons (Ld.row1 (P := Try.prog) (t := 4) (o := 2) (v := .bool (l[(i : Int).toNat]!.Put)) hp36.get1 (by kernel_rfl)) .nil) (by kernel_rfl) (fun b40 => ?_)
          by_cases h41 : (l[(i : Int).toNat]!.Put) = true
          · refine OPS.batch 0 {} [] [7, 8, 25, 28] [.pointer (some ⟨g13, 0, none⟩), .pointer (some ⟨g16, 0, none⟩), .bool true, .bool (l[(i : Int).toNat]!.Put)] .nil (by kernel_rfl) (fun b42 => ?_)
            refine OPS.re [.pointer (some ⟨g13, 0, none⟩), .pointer (some ⟨g16, 0, none⟩), .bool true, .bool true] (by rw [show (l[(i : Int).toNat]!.Put) = true from Bp.var.tt h41]) ?_
            refine OPS.batch 6 { wraps := [31, 33] } [.bool (l[(i : Int).toNat]!.Open)] [7, 8, 34] [.pointer (some ⟨g13, 0, none⟩), .pointer (some ⟨g16, 0, none⟩), .bool (!(l[(i : Int).toNat]!.Open))] (.cons (Ld.row1 (P := Try.prog) (t := 4) (o := 8) (v := .bool (l[(i : Int).toNat]!.Open)) hp36.get1 (by kernel_rfl)) .nil) (by kernel_rfl) (fun b43 => ?_)
            by_cases h44 : (l[(i : Int).toNat]!.Open) = true
            · refine OPS.batch 0 {} [] [7, 8, 34] [.pointer (some ⟨g13, 0, none⟩), .pointer (some ⟨g16, 0, none⟩), .bool (!(l[(i : Int).toNat]!.Open))] .nil (by kernel_rfl) (fun b52 => ?_)
              refine OPS.re [.pointer (some ⟨g13, 0, none⟩), .pointer (some ⟨g16, 0, none⟩), .bool false] (by rw [show (!(l[(i : Int).toNat]!.Open)) = false from (Bp.not Bp.var).ff (fun k => k h44)]) ?_
              refine OPS.batch 12 { wraps := [38, 45] } [] [6] [.bool false] .nil (by kernel_rfl) (fun b53 => ?_)
              refine OPS.nil ?_
              refine thn_n ?_
              exact ⟨false, trivial, Bp.of Bp.f (by first | (simp only [h29, h38, h41, h44, iff_false, false_iff, iff_true, true_iff, Classical.not_not, and_true, true_and, and_false, false_and, or_true, true_or, or_false, false_or, not_true_eq_false, not_false_eq_true, and_self, or_self, iff_self]; done) | (simp [h29, h38, h41, h44]; done) | grind | (simp_all; done)), by kernel_rfl, hp36⟩
            · refine OPS.batch 0 {} [] [7, 8, 34] [.pointer (some ⟨g13, 0, none⟩), .pointer (some ⟨g16, 0, none⟩), .bool (!(l[(i : Int).toNat]!.Open))] .nil (by kernel_rfl) (fun b45 => ?_)
              refine OPS.re [.pointer (some ⟨g13, 0, none⟩), .pointer (some ⟨g16, 0, none⟩), .bool true] (by rw [show (!(l[(i : Int).toNat]!.Open)) = true from (Bp.not Bp.var).tt h44]) ?_
              refine OPS.batch 5 { wraps := [38] } [.int .i64 (l[(i : Int).toNat]!.To)] [7, 8, 39] [.pointer (some ⟨g13, 0, none⟩), .pointer (some ⟨g16, 0, none⟩), .bool (decide (0 ≤ (l[(i : Int).toNat]!.To)))] (.cons (Ld.row1 (P := Try.prog) (t := 3) (o := 7) (v := .int .i64 (l[(i : Int).toNat]!.To)) hp36.get1 (by kernel_rfl)) .nil) (by kernel_rfl) (fun b46 => ?_)
              by_cases h47 : 0 ≤ (l[(i : Int).toNat]!.To)
              · refine OPS.batch 0 {} [] [7, 8, 39] [.pointer (some ⟨g13, 0, none⟩), .pointer (some ⟨g16, 0, none⟩), .bool (decide (0 ≤ (l[(i : Int).toNat]!.To)))] .nil (by kernel_rfl) (fun b48 => ?_)
                refine OPS.re [.pointer (some ⟨g13, 0, none⟩), .pointer (some ⟨g16, 0, none⟩), .bool true] (by rw [show (decide (0 ≤ (l[(i : Int).toNat]!.To))) = true from Bp.dec.tt h47]) ?_
                refine OPS.batch 7 { wraps := [45] } [.int .i64 (l[(i : Int).toNat]!.To), .int .i64 (l[(j : Int).toNat]!.From)] [6] [.bool (decide ((l[(i : Int).toNat]!.To) < (l[(j : Int).toNat]!.From)))] (.cons (Ld.row1 (P := Try.prog) (t := 3) (o := 7) (v := .int .i64 (l[(i : Int).toNat]!.To)) hp36.get1 (by kernel_rfl)) (.cons (Ld.row1 (P := Try.prog) (t := 3) (o := 6) (v := .int .i64 (l[(j : Int).toNat]!.From)) hp36.get0 (by kernel_rfl)) .nil)) (by kernel_rfl) (fun b49 => ?_)
                refine OPS.nil ?_
                refine thn_n ?_
                exact ⟨decide ((l[(i : Int).toNat]!.To) < (l[(j : Int).toNat]!.From)), trivial, Bp.of Bp.dec (by first | (simp only [h29, h38, h41, h44, h47, iff_false, false_iff, iff_true, true_iff, Classical.not_not, and_true, true_and, and_false, false_and, or_true, true_or, or_false, false_or, not_true_eq_false, not_false_eq_true, and_self, or_self, iff_self]; done) | (simp [h29, h38, h41, h44, h47]; done) | grind | (simp_all; done)), by kernel_rfl, hp36⟩
              · refine OPS.batch 0 {} [] [7, 8, 39] [.pointer (some ⟨g13, 0, none⟩), .pointer (some ⟨g16, 0, none⟩), .bool (decide (0 ≤ (l[(i : Int).toNat]!.To)))] .nil (by kernel_rfl) (fun b50 => ?_)
                refine OPS.re [.pointer (some ⟨g13, 0, none⟩), .pointer (some ⟨g16, 0, none⟩), .bool false] (by rw [show (decide (0 ≤ (l[(i : Int).toNat]!.To))) = false from Bp.dec.ff h47]) ?_
                refine OPS.batch 7 { wraps := [45] } [] [6] [.bool false] .nil (by kernel_rfl) (fun b51 => ?_)
                refine OPS.nil ?_
                refine thn_n ?_
                exact ⟨false, trivial, Bp.of Bp.f (by first | (simp only [h29, h38, h41, h44, h47, iff_false, false_iff, iff_true, true_iff, Classical.not_not, and_true, true_and, and_false, false_and, or_true, true_or, or_false, false_or, not_true_eq_false, not_false_eq_true, and_self, or_self, iff_self]; done) | (simp [h29, h38, h41, h44, h47]; done) | grind | (simp_all; done)), by kernel_rfl, hp36⟩
          · refine OPS.batch 0 {} [] [7, 8, 25, 28] [.pointer (some ⟨g13, 0, none⟩), .pointer (some ⟨g16, 0, none⟩), .bool true, .bool (l[(i : Int).toNat]!.Put)] .nil (by kernel_rfl) (fun b54 => ?_)
            refine OPS.re [.pointer (some ⟨g13, 0, none⟩), .pointer (some ⟨g16, 0, none⟩), .bool true, .bool false] (by rw [show (l[(i : Int).toNat]!.Put) = false from Bp.var.ff h41]) ?_
            refine OPS.batch 11 { wraps := [31, 33, 38] } [.int .i64 (l[(i : Int).toNat]!.To)] [7, 8, 39] [.pointer (some ⟨g13, 0, none⟩), .pointer (some ⟨g16, 0, none⟩), .bool (decide (0 ≤ (l[(i : Int).toNat]!.To)))] (.cons (Ld.row1 (P := Try.prog) (t := 3) (o := 7) (v := .int .i64 (l[(i : Int).toNat]!.To)) hp36.get1 (by kernel_rfl)) .nil) (by kernel_rfl) (fun b55 => ?_)
            by_cases h56 : 0 ≤ (l[(i : Int).toNat]!.To)
            · refine OPS.batch 0 {} [] [7, 8, 39] [.pointer (some ⟨g13, 0, none⟩), .pointer (some ⟨g16, 0, none⟩), .bool (decide (0 ≤ (l[(i : Int).toNat]!.To)))] .nil (by kernel_rfl) (fun b57 => ?_)
              refine OPS.re [.pointer (some ⟨g13, 0, none⟩), .pointer (some ⟨g16, 0, none⟩), .bool true] (by rw [show (decide (0 ≤ (l[(i : Int).toNat]!.To))) = true from Bp.dec.tt h56]) ?_
              refine OPS.batch 7 { wraps := [45] } [.int .i64 (l[(i : Int).toNat]!.To), .int .i64 (l[(j : Int).toNat]!.From)] [6] [.bool (decide ((l[(i : Int).toNat]!.To) < (l[(j : Int).toNat]!.From)))] (.cons (Ld.row1 (P := Try.prog) (t := 3) (o := 7) (v := .int .i64 (l[(i : Int).toNat]!.To)) hp36.get1 (by kernel_rfl)) (.cons (Ld.row1 (P := Try.prog) (t := 3) (o := 6) (v := .int .i64 (l[(j : Int).toNat]!.From)) hp36.get0 (by kernel_rfl)) .nil)) (by kernel_rfl) (fun b58 => ?_)
              refine OPS.nil ?_
              refine thn_n ?_
              exact ⟨decide ((l[(i : Int).toNat]!.To) < (l[(j : Int).toNat]!.From)), trivial, Bp.of Bp.dec (by first | (simp only [h29, h38, h41, h56, iff_false, false_iff, iff_true, true_iff, Classical.not_not, and_true, true_and, and_false, false_and, or_true, true_or, or_false, false_or, not_true_eq_false, not_false_eq_true, and_self, or_self, iff_self]; done) | (simp [h29, h38, h41, h56]; done) | grind | (simp_all; done)), by kernel_rfl, hp36⟩
            · refine OPS.batch 0 {} [] [7, 8, 39] [.pointer (some ⟨g13, 0, none⟩), .pointer (some ⟨g16, 0, none⟩), .bool (decide (0 ≤ (l[(i : Int).toNat]!.To)))] .nil (by kernel_rfl) (fun b59 => ?_)
              refine OPS.re [.pointer (some ⟨g13, 0, none⟩), .pointer (some ⟨g16, 0, none⟩), .bool false] (by rw [show (decide (0 ≤ (l[(i : Int).toNat]!.To))) = false from Bp.dec.ff h56]) ?_
              refine OPS.batch 7 { wraps := [45] } [] [6] [.bool false] .nil (by kernel_rfl) (fun b60 => ?_)
              refine OPS.nil ?_
              refine thn_n ?_
              exact ⟨false, trivial, Bp.of Bp.f (by first | (simp only [h29, h38, h41, h56, iff_false, false_iff, iff_true, true_iff, Classical.not_not, and_true, true_and, and_false, false_and, or_true, true_or, or_false, false_or, not_true_eq_false, not_false_eq_true, and_self, or_self, iff_self]; done) | (simp [h29, h38, h41, h56]; done) | grind | (simp_all; done)), by kernel_rfl, hp36⟩
        · refine OPS.batch 0 {} [] [7, 8, 25] [.pointer (some ⟨g13, 0, none⟩), .pointer (some ⟨g16, 0, none⟩), .bool (decide (0 < (partI (l[(j : Int).toNat]!))))] .nil (by kernel_rfl) (fun b61 => ?_)
          refine OPS.re [.pointer (some ⟨g13, 0, none⟩), .pointer (some ⟨g16, 0, none⟩), .bool false] (by rw [show (decide (0 < (partI (l[(j : Int).toNat]!)))) = false from Bp.dec.ff h38]) ?_
          refine OPS.batch 21 { wraps := [33, 38, 45] } [] [6] [.bool false] .nil (by kernel_rfl) (fun b62 => ?_)
          refine OPS.nil ?_
          refine thn_n ?_
          exact ⟨false, trivial, Bp.of Bp.f (by first | (simp only [h29, h38, iff_false, false_iff, iff_true, true_iff, Classical.not_not, and_true, true_and, and_false, false_and, or_true, true_or, or_false, false_or, not_true_eq_false, not_false_eq_true, and_self, or_self, iff_self]; done) | (simp [h29, h38]; done) | grind | (simp_all; done)), by kernel_rfl, hp36⟩
      · refine OPS.batch 0 {} [] [7, 8, 20] [.pointer (some ⟨g13, 0, none⟩), .pointer (some ⟨g16, 0, none⟩), .bool (decide (0 < (partI (l[(i : Int).toNat]!))))] .nil (by kernel_rfl) (fun b63 => ?_)
        refine OPS.re [.pointer (some ⟨g13, 0, none⟩), .pointer (some ⟨g16, 0, none⟩), .bool false] (by rw [show (decide (0 < (partI (l[(i : Int).toNat]!)))) = false from Bp.dec.ff h29]) ?_
        refine OPS.batch 26 { wraps := [24, 33, 38, 45] } [] [6] [.bool false] .nil (by kernel_rfl) (fun b64 => ?_)
        refine OPS.nil ?_
        refine thn_n ?_
        exact ⟨false, trivial, Bp.of Bp.f (by first | (simp only [h29, iff_false, false_iff, iff_true, true_iff, Classical.not_not, and_true, true_and, and_false, false_and, or_true, true_or, or_false, false_or, not_true_eq_false, not_false_eq_true, and_self, or_self, iff_self]; done) | (simp [h29]; done) | grind | (simp_all; done)), by kernel_rfl, hp27⟩
    rintro e67 w68 ⟨x65, hd70, hb66, hE71, hp69⟩
    obtain ⟨b72, rfl⟩ := toMk hE71
    clear hE71
    clear hd70
    refine WP.ret ?_
    refine bodyQ.of _ rfl [.bool x65] ⟨rfl, trivial⟩ ?_
    exact ⟨_, rfl, Bp.of hb66 (by simp only [aheadP]; first | grind | (simp_all; done) | (simp_all; grind)), hp69.fr⟩
  refine AllR.cons _ rfl ?_ AllR.nil
  refine (opStep.alloc hp2 [.int .i64 0, .int .i64 0, .bool false, .string ByteArray.empty, .slice none 0 0, .int .i64 0, .int .i64 0, .int .i64 0, .bool false, .int .i64 0, .int .i64 0] (by kernel_rfl) (fun g75 w73 hp74 => ?_))
  refine ⟨.inr ⟨(show Ld Try.prog w73 73 ((adr a).add ((i : Int).toNat * 11)) (GCall.val (l[(i : Int).toNat]!)) from (Ld.add0 (Ld.elN (P := Try.prog) (t := 73) (hs.at hp74).rd 11 (fun _ => rfl) hy4 (o := 0) (cs := [.int .i64 (l[(i : Int).toNat]!.Client), .int .i64 (l[(i : Int).toNat]!.Op), .bool (l[(i : Int).toNat]!.Put), .string (l[(i : Int).toNat]!.Key), .slice (l[(i : Int).toNat]!.Value.a) (l[(i : Int).toNat]!.Value.n) (l[(i : Int).toNat]!.Value.c), .int .i64 (l[(i : Int).toNat]!.Status), .int .i64 (l[(i : Int).toNat]!.From), .int .i64 (l[(i : Int).toNat]!.To), .bool (l[(i : Int).toNat]!.Open), .int .i64 (l[(i : Int).toNat]!.Tag.Count), .int .i64 (l[(i : Int).toNat]!.Tag.Client)]) (by kernel_rfl)))), (show Ld Try.prog w73 73 ((adr a).add ((j : Int).toNat * 11)) (GCall.val (l[(j : Int).toNat]!)) from (Ld.add0 (Ld.elN (P := Try.prog) (t := 73) (hs.at hp74).rd 11 (fun _ => rfl) hy6 (o := 0) (cs := [.int .i64 (l[(j : Int).toNat]!.Client), .int .i64 (l[(j : Int).toNat]!.Op), .bool (l[(j : Int).toNat]!.Put), .string (l[(j : Int).toNat]!.Key), .slice (l[(j : Int).toNat]!.Value.a) (l[(j : Int).toNat]!.Value.n) (l[(j : Int).toNat]!.Value.c), .int .i64 (l[(j : Int).toNat]!.Status), .int .i64 (l[(j : Int).toNat]!.From), .int .i64 (l[(j : Int).toNat]!.To), .bool (l[(j : Int).toNat]!.Open), .int .i64 (l[(j : Int).toNat]!.Tag.Count), .int .i64 (l[(j : Int).toNat]!.Tag.Client)]) (by kernel_rfl)))), trivial⟩, ?_⟩
  refine HT.br (n := 2) [8] (by kernel_rfl) (by simp) ?_
  refine AllR.cons _ rfl ?_ AllR.nil
  refine (opStep.alloc hp74 [.int .i64 0, .int .i64 0, .bool false, .string ByteArray.empty, .slice none 0 0, .int .i64 0, .int .i64 0, .int .i64 0, .bool false, .int .i64 0, .int .i64 0] (by kernel_rfl) (fun g78 w76 hp77 => ?_))
  refine ⟨.inr ⟨(show Ld Try.prog w76 73 ((adr a).add ((i : Int).toNat * 11)) (GCall.val (l[(i : Int).toNat]!)) from (Ld.add0 (Ld.elN (P := Try.prog) (t := 73) (hs.at hp77).rd 11 (fun _ => rfl) hy4 (o := 0) (cs := [.int .i64 (l[(i : Int).toNat]!.Client), .int .i64 (l[(i : Int).toNat]!.Op), .bool (l[(i : Int).toNat]!.Put), .string (l[(i : Int).toNat]!.Key), .slice (l[(i : Int).toNat]!.Value.a) (l[(i : Int).toNat]!.Value.n) (l[(i : Int).toNat]!.Value.c), .int .i64 (l[(i : Int).toNat]!.Status), .int .i64 (l[(i : Int).toNat]!.From), .int .i64 (l[(i : Int).toNat]!.To), .bool (l[(i : Int).toNat]!.Open), .int .i64 (l[(i : Int).toNat]!.Tag.Count), .int .i64 (l[(i : Int).toNat]!.Tag.Client)]) (by kernel_rfl)))), (show Ld Try.prog w76 73 ((adr a).add ((j : Int).toNat * 11)) (GCall.val (l[(j : Int).toNat]!)) from (Ld.add0 (Ld.elN (P := Try.prog) (t := 73) (hs.at hp77).rd 11 (fun _ => rfl) hy6 (o := 0) (cs := [.int .i64 (l[(j : Int).toNat]!.Client), .int .i64 (l[(j : Int).toNat]!.Op), .bool (l[(j : Int).toNat]!.Put), .string (l[(j : Int).toNat]!.Key), .slice (l[(j : Int).toNat]!.Value.a) (l[(j : Int).toNat]!.Value.n) (l[(j : Int).toNat]!.Value.c), .int .i64 (l[(j : Int).toNat]!.Status), .int .i64 (l[(j : Int).toNat]!.From), .int .i64 (l[(j : Int).toNat]!.To), .bool (l[(j : Int).toNat]!.Open), .int .i64 (l[(j : Int).toNat]!.Tag.Count), .int .i64 (l[(j : Int).toNat]!.Tag.Client)]) (by kernel_rfl)))), trivial⟩, ?_⟩
  refine HT.br (n := 1) [10] (by kernel_rfl) (by simp) ?_
  refine AllR.cons _ rfl ?_ AllR.nil
  refine (opStep.store0 hp77 rfl [.int .i64 (l[(i : Int).toNat]!.Client), .int .i64 (l[(i : Int).toNat]!.Op), .bool (l[(i : Int).toNat]!.Put), .string (l[(i : Int).toNat]!.Key), .slice (l[(i : Int).toNat]!.Value.a) (l[(i : Int).toNat]!.Value.n) (l[(i : Int).toNat]!.Value.c), .int .i64 (l[(i : Int).toNat]!.Status), .int .i64 (l[(i : Int).toNat]!.From), .int .i64 (l[(i : Int).toNat]!.To), .bool (l[(i : Int).toNat]!.Open), .int .i64 (l[(i : Int).toNat]!.Tag.Count), .int .i64 (l[(i : Int).toNat]!.Tag.Client)] [.int .i64 (l[(i : Int).toNat]!.Client), .int .i64 (l[(i : Int).toNat]!.Op), .bool (l[(i : Int).toNat]!.Put), .string (l[(i : Int).toNat]!.Key), .slice (l[(i : Int).toNat]!.Value.a) (l[(i : Int).toNat]!.Value.n) (l[(i : Int).toNat]!.Value.c), .int .i64 (l[(i : Int).toNat]!.Status), .int .i64 (l[(i : Int).toNat]!.From), .int .i64 (l[(i : Int).toNat]!.To), .bool (l[(i : Int).toNat]!.Open), .int .i64 (l[(i : Int).toNat]!.Tag.Count), .int .i64 (l[(i : Int).toNat]!.Tag.Client)] (by kernel_rfl) (fun w79 hp80 => ?_))
  refine ⟨.inr ⟨(show Ld Try.prog w79 73 ((adr a).add ((i : Int).toNat * 11)) (GCall.val (l[(i : Int).toNat]!)) from (Ld.add0 (Ld.elN (P := Try.prog) (t := 73) (hs.at hp80).rd 11 (fun _ => rfl) hy4 (o := 0) (cs := [.int .i64 (l[(i : Int).toNat]!.Client), .int .i64 (l[(i : Int).toNat]!.Op), .bool (l[(i : Int).toNat]!.Put), .string (l[(i : Int).toNat]!.Key), .slice (l[(i : Int).toNat]!.Value.a) (l[(i : Int).toNat]!.Value.n) (l[(i : Int).toNat]!.Value.c), .int .i64 (l[(i : Int).toNat]!.Status), .int .i64 (l[(i : Int).toNat]!.From), .int .i64 (l[(i : Int).toNat]!.To), .bool (l[(i : Int).toNat]!.Open), .int .i64 (l[(i : Int).toNat]!.Tag.Count), .int .i64 (l[(i : Int).toNat]!.Tag.Client)]) (by kernel_rfl)))), (show Ld Try.prog w79 73 ((adr a).add ((j : Int).toNat * 11)) (GCall.val (l[(j : Int).toNat]!)) from (Ld.add0 (Ld.elN (P := Try.prog) (t := 73) (hs.at hp80).rd 11 (fun _ => rfl) hy6 (o := 0) (cs := [.int .i64 (l[(j : Int).toNat]!.Client), .int .i64 (l[(j : Int).toNat]!.Op), .bool (l[(j : Int).toNat]!.Put), .string (l[(j : Int).toNat]!.Key), .slice (l[(j : Int).toNat]!.Value.a) (l[(j : Int).toNat]!.Value.n) (l[(j : Int).toNat]!.Value.c), .int .i64 (l[(j : Int).toNat]!.Status), .int .i64 (l[(j : Int).toNat]!.From), .int .i64 (l[(j : Int).toNat]!.To), .bool (l[(j : Int).toNat]!.Open), .int .i64 (l[(j : Int).toNat]!.Tag.Count), .int .i64 (l[(j : Int).toNat]!.Tag.Client)]) (by kernel_rfl)))), trivial⟩, ?_⟩
  refine HT.br (n := 0) [11] (by kernel_rfl) (by simp) ?_
  refine AllR.cons _ rfl ?_ AllR.nil
  refine (opStep.store1 hp80 rfl [.int .i64 (l[(j : Int).toNat]!.Client), .int .i64 (l[(j : Int).toNat]!.Op), .bool (l[(j : Int).toNat]!.Put), .string (l[(j : Int).toNat]!.Key), .slice (l[(j : Int).toNat]!.Value.a) (l[(j : Int).toNat]!.Value.n) (l[(j : Int).toNat]!.Value.c), .int .i64 (l[(j : Int).toNat]!.Status), .int .i64 (l[(j : Int).toNat]!.From), .int .i64 (l[(j : Int).toNat]!.To), .bool (l[(j : Int).toNat]!.Open), .int .i64 (l[(j : Int).toNat]!.Tag.Count), .int .i64 (l[(j : Int).toNat]!.Tag.Client)] [.int .i64 (l[(j : Int).toNat]!.Client), .int .i64 (l[(j : Int).toNat]!.Op), .bool (l[(j : Int).toNat]!.Put), .string (l[(j : Int).toNat]!.Key), .slice (l[(j : Int).toNat]!.Value.a) (l[(j : Int).toNat]!.Value.n) (l[(j : Int).toNat]!.Value.c), .int .i64 (l[(j : Int).toNat]!.Status), .int .i64 (l[(j : Int).toNat]!.From), .int .i64 (l[(j : Int).toNat]!.To), .bool (l[(j : Int).toNat]!.Open), .int .i64 (l[(j : Int).toNat]!.Tag.Count), .int .i64 (l[(j : Int).toNat]!.Tag.Client)] (by kernel_rfl) (fun w81 hp82 => ?_))
  refine ⟨.inr ⟨(show Ld Try.prog w81 73 ((adr a).add ((i : Int).toNat * 11)) (GCall.val (l[(i : Int).toNat]!)) from (Ld.add0 (Ld.elN (P := Try.prog) (t := 73) (hs.at hp82).rd 11 (fun _ => rfl) hy4 (o := 0) (cs := [.int .i64 (l[(i : Int).toNat]!.Client), .int .i64 (l[(i : Int).toNat]!.Op), .bool (l[(i : Int).toNat]!.Put), .string (l[(i : Int).toNat]!.Key), .slice (l[(i : Int).toNat]!.Value.a) (l[(i : Int).toNat]!.Value.n) (l[(i : Int).toNat]!.Value.c), .int .i64 (l[(i : Int).toNat]!.Status), .int .i64 (l[(i : Int).toNat]!.From), .int .i64 (l[(i : Int).toNat]!.To), .bool (l[(i : Int).toNat]!.Open), .int .i64 (l[(i : Int).toNat]!.Tag.Count), .int .i64 (l[(i : Int).toNat]!.Tag.Client)]) (by kernel_rfl)))), (show Ld Try.prog w81 73 ((adr a).add ((j : Int).toNat * 11)) (GCall.val (l[(j : Int).toNat]!)) from (Ld.add0 (Ld.elN (P := Try.prog) (t := 73) (hs.at hp82).rd 11 (fun _ => rfl) hy6 (o := 0) (cs := [.int .i64 (l[(j : Int).toNat]!.Client), .int .i64 (l[(j : Int).toNat]!.Op), .bool (l[(j : Int).toNat]!.Put), .string (l[(j : Int).toNat]!.Key), .slice (l[(j : Int).toNat]!.Value.a) (l[(j : Int).toNat]!.Value.n) (l[(j : Int).toNat]!.Value.c), .int .i64 (l[(j : Int).toNat]!.Status), .int .i64 (l[(j : Int).toNat]!.From), .int .i64 (l[(j : Int).toNat]!.To), .bool (l[(j : Int).toNat]!.Open), .int .i64 (l[(j : Int).toNat]!.Tag.Count), .int .i64 (l[(j : Int).toNat]!.Tag.Client)]) (by kernel_rfl)))), trivial⟩, ?_⟩
  refine HT.done (by kernel_rfl) ?_
  refine thn_n ?_
  refine WP.cut (fun e129 w130 => ∃ (x127 : Bool), (True) ∧ Bp x127 (((0 < (partI (l[(i : Int).toNat]!))) ∧ (0 < (partI (l[(j : Int).toNat]!))) ∧ ((l[(i : Int).toNat]!.Put) = true) ∧ (¬ ((l[(i : Int).toNat]!.Open) = true)) ∧ (0 ≤ (l[(i : Int).toNat]!.To)) ∧ ((l[(i : Int).toNat]!.To) < (l[(j : Int).toNat]!.From))) ∨ ((0 < (partI (l[(i : Int).toNat]!))) ∧ (0 < (partI (l[(j : Int).toNat]!))) ∧ (¬ ((l[(i : Int).toNat]!.Put) = true)) ∧ (0 ≤ (l[(i : Int).toNat]!.To)) ∧ ((l[(i : Int).toNat]!.To) < (l[(j : Int).toNat]!.From)))) ∧ List.map e129 [6] = [.bool x127] ∧ Hp w Non [Res.row g78 [.int .i64 (l[(i : Int).toNat]!.Client), .int .i64 (l[(i : Int).toNat]!.Op), .bool (l[(i : Int).toNat]!.Put), .string (l[(i : Int).toNat]!.Key), .slice (l[(i : Int).toNat]!.Value.a) (l[(i : Int).toNat]!.Value.n) (l[(i : Int).toNat]!.Value.c), .int .i64 (l[(i : Int).toNat]!.Status), .int .i64 (l[(i : Int).toNat]!.From), .int .i64 (l[(i : Int).toNat]!.To), .bool (l[(i : Int).toNat]!.Open), .int .i64 (l[(i : Int).toNat]!.Tag.Count), .int .i64 (l[(i : Int).toNat]!.Tag.Client)] 73, Res.row g75 [.int .i64 (l[(j : Int).toNat]!.Client), .int .i64 (l[(j : Int).toNat]!.Op), .bool (l[(j : Int).toNat]!.Put), .string (l[(j : Int).toNat]!.Key), .slice (l[(j : Int).toNat]!.Value.a) (l[(j : Int).toNat]!.Value.n) (l[(j : Int).toNat]!.Value.c), .int .i64 (l[(j : Int).toNat]!.Status), .int .i64 (l[(j : Int).toNat]!.From), .int .i64 (l[(j : Int).toNat]!.To), .bool (l[(j : Int).toNat]!.Open), .int .i64 (l[(j : Int).toNat]!.Tag.Count), .int .i64 (l[(j : Int).toNat]!.Tag.Client)] 73] w130) ?_ ?_
  · refine WP.region _ rfl (by kernel_rfl) ?_
    refine OPS.batch 1 {} [GCall.val (l[(i : Int).toNat]!)] [7, 8, 17] [.pointer (some ⟨g78, 0, none⟩), .pointer (some ⟨g75, 0, none⟩), GCall.val (l[(i : Int).toNat]!)] (.cons (show Ld Try.prog w81 73 ⟨g78, 0, none⟩ (GCall.val (l[(i : Int).toNat]!)) from Ld.rowN (cs := [.int .i64 (l[(i : Int).toNat]!.Client), .int .i64 (l[(i : Int).toNat]!.Op), .bool (l[(i : Int).toNat]!.Put), .string (l[(i : Int).toNat]!.Key), .slice (l[(i : Int).toNat]!.Value.a) (l[(i : Int).toNat]!.Value.n) (l[(i : Int).toNat]!.Value.c), .int .i64 (l[(i : Int).toNat]!.Status), .int .i64 (l[(i : Int).toNat]!.From), .int .i64 (l[(i : Int).toNat]!.To), .bool (l[(i : Int).toNat]!.Open), .int .i64 (l[(i : Int).toNat]!.Tag.Count), .int .i64 (l[(i : Int).toNat]!.Tag.Client)]) hp82.get0 (by kernel_rfl)) .nil) (by kernel_rfl) (fun b84 => ?_)
    refine OPS.cons (opStep.call (some 18) [GCall.val (l[(i : Int).toNat]!)] (by kernel_rfl) (t_part (l[(i : Int).toNat]!) _) ?_)
    rintro _ w87 ⟨rfl, hf88⟩
    refine ⟨_, rfl, ?_⟩
    have hp89 := hp82.step hf88
    refine OPS.batch 2 {} [] [7, 8, 20] [.pointer (some ⟨g78, 0, none⟩), .pointer (some ⟨g75, 0, none⟩), .bool (decide (0 < (partI (l[(i : Int).toNat]!))))] .nil (by kernel_rfl) (fun b90 => ?_)
    by_cases h91 : 0 < (partI (l[(i : Int).toNat]!))
    · refine OPS.batch 0 {} [] [7, 8, 20] [.pointer (some ⟨g78, 0, none⟩), .pointer (some ⟨g75, 0, none⟩), .bool (decide (0 < (partI (l[(i : Int).toNat]!))))] .nil (by kernel_rfl) (fun b92 => ?_)
      refine OPS.re [.pointer (some ⟨g78, 0, none⟩), .pointer (some ⟨g75, 0, none⟩), .bool true] (by rw [show (decide (0 < (partI (l[(i : Int).toNat]!)))) = true from Bp.dec.tt h91]) ?_
      refine OPS.batch 1 {} [GCall.val (l[(j : Int).toNat]!)] [7, 8, 20, 21] [.pointer (some ⟨g78, 0, none⟩), .pointer (some ⟨g75, 0, none⟩), .bool true, GCall.val (l[(j : Int).toNat]!)] (.cons (show Ld Try.prog w87 73 ⟨g75, 0, none⟩ (GCall.val (l[(j : Int).toNat]!)) from Ld.rowN (cs := [.int .i64 (l[(j : Int).toNat]!.Client), .int .i64 (l[(j : Int).toNat]!.Op), .bool (l[(j : Int).toNat]!.Put), .string (l[(j : Int).toNat]!.Key), .slice (l[(j : Int).toNat]!.Value.a) (l[(j : Int).toNat]!.Value.n) (l[(j : Int).toNat]!.Value.c), .int .i64 (l[(j : Int).toNat]!.Status), .int .i64 (l[(j : Int).toNat]!.From), .int .i64 (l[(j : Int).toNat]!.To), .bool (l[(j : Int).toNat]!.Open), .int .i64 (l[(j : Int).toNat]!.Tag.Count), .int .i64 (l[(j : Int).toNat]!.Tag.Client)]) hp89.get1 (by kernel_rfl)) .nil) (by kernel_rfl) (fun b93 => ?_)
      refine OPS.want (by kernel_rfl) ?_
      refine OPS.cons (opStep.call (some 22) [GCall.val (l[(j : Int).toNat]!)] (by kernel_rfl) (t_part (l[(j : Int).toNat]!) _) ?_)
      rintro _ w96 ⟨rfl, hf97⟩
      refine ⟨_, rfl, ?_⟩
      have hp98 := hp89.step hf97
      refine OPS.batch 3 { wraps := [24] } [] [7, 8, 25] [.pointer (some ⟨g78, 0, none⟩), .pointer (some ⟨g75, 0, none⟩), .bool (decide (0 < (partI (l[(j : Int).toNat]!))))] .nil (by kernel_rfl) (fun b99 => ?_)
      by_cases h100 : 0 < (partI (l[(j : Int).toNat]!))
      · refine OPS.batch 0 {} [] [7, 8, 25] [.pointer (some ⟨g78, 0, none⟩), .pointer (some ⟨g75, 0, none⟩), .bool (decide (0 < (partI (l[(j : Int).toNat]!))))] .nil (by kernel_rfl) (fun b101 => ?_)
        refine OPS.re [.pointer (some ⟨g78, 0, none⟩), .pointer (some ⟨g75, 0, none⟩), .bool true] (by rw [show (decide (0 < (partI (l[(j : Int).toNat]!)))) = true from Bp.dec.tt h100]) ?_
        refine OPS.batch 3 {} [.bool (l[(i : Int).toNat]!.Put)] [7, 8, 25, 28] [.pointer (some ⟨g78, 0, none⟩), .pointer (some ⟨g75, 0, none⟩), .bool true, .bool (l[(i : Int).toNat]!.Put)] (.cons (Ld.row1 (P := Try.prog) (t := 4) (o := 2) (v := .bool (l[(i : Int).toNat]!.Put)) hp98.get0 (by kernel_rfl)) .nil) (by kernel_rfl) (fun b102 => ?_)
        by_cases h103 : (l[(i : Int).toNat]!.Put) = true
        · refine OPS.batch 0 {} [] [7, 8, 25, 28] [.pointer (some ⟨g78, 0, none⟩), .pointer (some ⟨g75, 0, none⟩), .bool true, .bool (l[(i : Int).toNat]!.Put)] .nil (by kernel_rfl) (fun b104 => ?_)
          refine OPS.re [.pointer (some ⟨g78, 0, none⟩), .pointer (some ⟨g75, 0, none⟩), .bool true, .bool true] (by rw [show (l[(i : Int).toNat]!.Put) = true from Bp.var.tt h103]) ?_
          refine OPS.batch 6 { wraps := [31, 33] } [.bool (l[(i : Int).toNat]!.Open)] [7, 8, 34] [.pointer (some ⟨g78, 0, none⟩), .pointer (some ⟨g75, 0, none⟩), .bool (!(l[(i : Int).toNat]!.Open))] (.cons (Ld.row1 (P := Try.prog) (t := 4) (o := 8) (v := .bool (l[(i : Int).toNat]!.Open)) hp98.get0 (by kernel_rfl)) .nil) (by kernel_rfl) (fun b105 => ?_)
          by_cases h106 : (l[(i : Int).toNat]!.Open) = true
          · refine OPS.batch 0 {} [] [7, 8, 34] [.pointer (some ⟨g78, 0, none⟩), .pointer (some ⟨g75, 0, none⟩), .bool (!(l[(i : Int).toNat]!.Open))] .nil (by kernel_rfl) (fun b114 => ?_)
            refine OPS.re [.pointer (some ⟨g78, 0, none⟩), .pointer (some ⟨g75, 0, none⟩), .bool false] (by rw [show (!(l[(i : Int).toNat]!.Open)) = false from (Bp.not Bp.var).ff (fun k => k h106)]) ?_
            refine OPS.batch 12 { wraps := [38, 45] } [] [6] [.bool false] .nil (by kernel_rfl) (fun b115 => ?_)
            refine OPS.nil ?_
            refine thn_n ?_
            exact ⟨false, trivial, Bp.of Bp.f (by first | (simp only [h91, h100, h103, h106, iff_false, false_iff, iff_true, true_iff, Classical.not_not, and_true, true_and, and_false, false_and, or_true, true_or, or_false, false_or, not_true_eq_false, not_false_eq_true, and_self, or_self, iff_self]; done) | (simp [h91, h100, h103, h106]; done) | grind | (simp_all; done)), by kernel_rfl, hp98⟩
          · refine OPS.batch 0 {} [] [7, 8, 34] [.pointer (some ⟨g78, 0, none⟩), .pointer (some ⟨g75, 0, none⟩), .bool (!(l[(i : Int).toNat]!.Open))] .nil (by kernel_rfl) (fun b107 => ?_)
            refine OPS.re [.pointer (some ⟨g78, 0, none⟩), .pointer (some ⟨g75, 0, none⟩), .bool true] (by rw [show (!(l[(i : Int).toNat]!.Open)) = true from (Bp.not Bp.var).tt h106]) ?_
            refine OPS.batch 5 { wraps := [38] } [.int .i64 (l[(i : Int).toNat]!.To)] [7, 8, 39] [.pointer (some ⟨g78, 0, none⟩), .pointer (some ⟨g75, 0, none⟩), .bool (decide (0 ≤ (l[(i : Int).toNat]!.To)))] (.cons (Ld.row1 (P := Try.prog) (t := 3) (o := 7) (v := .int .i64 (l[(i : Int).toNat]!.To)) hp98.get0 (by kernel_rfl)) .nil) (by kernel_rfl) (fun b108 => ?_)
            by_cases h109 : 0 ≤ (l[(i : Int).toNat]!.To)
            · refine OPS.batch 0 {} [] [7, 8, 39] [.pointer (some ⟨g78, 0, none⟩), .pointer (some ⟨g75, 0, none⟩), .bool (decide (0 ≤ (l[(i : Int).toNat]!.To)))] .nil (by kernel_rfl) (fun b110 => ?_)
              refine OPS.re [.pointer (some ⟨g78, 0, none⟩), .pointer (some ⟨g75, 0, none⟩), .bool true] (by rw [show (decide (0 ≤ (l[(i : Int).toNat]!.To))) = true from Bp.dec.tt h109]) ?_
              refine OPS.batch 7 { wraps := [45] } [.int .i64 (l[(i : Int).toNat]!.To), .int .i64 (l[(j : Int).toNat]!.From)] [6] [.bool (decide ((l[(i : Int).toNat]!.To) < (l[(j : Int).toNat]!.From)))] (.cons (Ld.row1 (P := Try.prog) (t := 3) (o := 7) (v := .int .i64 (l[(i : Int).toNat]!.To)) hp98.get0 (by kernel_rfl)) (.cons (Ld.row1 (P := Try.prog) (t := 3) (o := 6) (v := .int .i64 (l[(j : Int).toNat]!.From)) hp98.get1 (by kernel_rfl)) .nil)) (by kernel_rfl) (fun b111 => ?_)
              refine OPS.nil ?_
              refine thn_n ?_
              exact ⟨decide ((l[(i : Int).toNat]!.To) < (l[(j : Int).toNat]!.From)), trivial, Bp.of Bp.dec (by first | (simp only [h91, h100, h103, h106, h109, iff_false, false_iff, iff_true, true_iff, Classical.not_not, and_true, true_and, and_false, false_and, or_true, true_or, or_false, false_or, not_true_eq_false, not_false_eq_true, and_self, or_self, iff_self]; done) | (simp [h91, h100, h103, h106, h109]; done) | grind | (simp_all; done)), by kernel_rfl, hp98⟩
            · refine OPS.batch 0 {} [] [7, 8, 39] [.pointer (some ⟨g78, 0, none⟩), .pointer (some ⟨g75, 0, none⟩), .bool (decide (0 ≤ (l[(i : Int).toNat]!.To)))] .nil (by kernel_rfl) (fun b112 => ?_)
              refine OPS.re [.pointer (some ⟨g78, 0, none⟩), .pointer (some ⟨g75, 0, none⟩), .bool false] (by rw [show (decide (0 ≤ (l[(i : Int).toNat]!.To))) = false from Bp.dec.ff h109]) ?_
              refine OPS.batch 7 { wraps := [45] } [] [6] [.bool false] .nil (by kernel_rfl) (fun b113 => ?_)
              refine OPS.nil ?_
              refine thn_n ?_
              exact ⟨false, trivial, Bp.of Bp.f (by first | (simp only [h91, h100, h103, h106, h109, iff_false, false_iff, iff_true, true_iff, Classical.not_not, and_true, true_and, and_false, false_and, or_true, true_or, or_false, false_or, not_true_eq_false, not_false_eq_true, and_self, or_self, iff_self]; done) | (simp [h91, h100, h103, h106, h109]; done) | grind | (simp_all; done)), by kernel_rfl, hp98⟩
        · refine OPS.batch 0 {} [] [7, 8, 25, 28] [.pointer (some ⟨g78, 0, none⟩), .pointer (some ⟨g75, 0, none⟩), .bool true, .bool (l[(i : Int).toNat]!.Put)] .nil (by kernel_rfl) (fun b116 => ?_)
          refine OPS.re [.pointer (some ⟨g78, 0, none⟩), .pointer (some ⟨g75, 0, none⟩), .bool true, .bool false] (by rw [show (l[(i : Int).toNat]!.Put) = false from Bp.var.ff h103]) ?_
          refine OPS.batch 11 { wraps := [31, 33, 38] } [.int .i64 (l[(i : Int).toNat]!.To)] [7, 8, 39] [.pointer (some ⟨g78, 0, none⟩), .pointer (some ⟨g75, 0, none⟩), .bool (decide (0 ≤ (l[(i : Int).toNat]!.To)))] (.cons (Ld.row1 (P := Try.prog) (t := 3) (o := 7) (v := .int .i64 (l[(i : Int).toNat]!.To)) hp98.get0 (by kernel_rfl)) .nil) (by kernel_rfl) (fun b117 => ?_)
          by_cases h118 : 0 ≤ (l[(i : Int).toNat]!.To)
          · refine OPS.batch 0 {} [] [7, 8, 39] [.pointer (some ⟨g78, 0, none⟩), .pointer (some ⟨g75, 0, none⟩), .bool (decide (0 ≤ (l[(i : Int).toNat]!.To)))] .nil (by kernel_rfl) (fun b119 => ?_)
            refine OPS.re [.pointer (some ⟨g78, 0, none⟩), .pointer (some ⟨g75, 0, none⟩), .bool true] (by rw [show (decide (0 ≤ (l[(i : Int).toNat]!.To))) = true from Bp.dec.tt h118]) ?_
            refine OPS.batch 7 { wraps := [45] } [.int .i64 (l[(i : Int).toNat]!.To), .int .i64 (l[(j : Int).toNat]!.From)] [6] [.bool (decide ((l[(i : Int).toNat]!.To) < (l[(j : Int).toNat]!.From)))] (.cons (Ld.row1 (P := Try.prog) (t := 3) (o := 7) (v := .int .i64 (l[(i : Int).toNat]!.To)) hp98.get0 (by kernel_rfl)) (.cons (Ld.row1 (P := Try.prog) (t := 3) (o := 6) (v := .int .i64 (l[(j : Int).toNat]!.From)) hp98.get1 (by kernel_rfl)) .nil)) (by kernel_rfl) (fun b120 => ?_)
            refine OPS.nil ?_
            refine thn_n ?_
            exact ⟨decide ((l[(i : Int).toNat]!.To) < (l[(j : Int).toNat]!.From)), trivial, Bp.of Bp.dec (by first | (simp only [h91, h100, h103, h118, iff_false, false_iff, iff_true, true_iff, Classical.not_not, and_true, true_and, and_false, false_and, or_true, true_or, or_false, false_or, not_true_eq_false, not_false_eq_true, and_self, or_self, iff_self]; done) | (simp [h91, h100, h103, h118]; done) | grind | (simp_all; done)), by kernel_rfl, hp98⟩
          · refine OPS.batch 0 {} [] [7, 8, 39] [.pointer (some ⟨g78, 0, none⟩), .pointer (some ⟨g75, 0, none⟩), .bool (decide (0 ≤ (l[(i : Int).toNat]!.To)))] .nil (by kernel_rfl) (fun b121 => ?_)
            refine OPS.re [.pointer (some ⟨g78, 0, none⟩), .pointer (some ⟨g75, 0, none⟩), .bool false] (by rw [show (decide (0 ≤ (l[(i : Int).toNat]!.To))) = false from Bp.dec.ff h118]) ?_
            refine OPS.batch 7 { wraps := [45] } [] [6] [.bool false] .nil (by kernel_rfl) (fun b122 => ?_)
            refine OPS.nil ?_
            refine thn_n ?_
            exact ⟨false, trivial, Bp.of Bp.f (by first | (simp only [h91, h100, h103, h118, iff_false, false_iff, iff_true, true_iff, Classical.not_not, and_true, true_and, and_false, false_and, or_true, true_or, or_false, false_or, not_true_eq_false, not_false_eq_true, and_self, or_self, iff_self]; done) | (simp [h91, h100, h103, h118]; done) | grind | (simp_all; done)), by kernel_rfl, hp98⟩
      · refine OPS.batch 0 {} [] [7, 8, 25] [.pointer (some ⟨g78, 0, none⟩), .pointer (some ⟨g75, 0, none⟩), .bool (decide (0 < (partI (l[(j : Int).toNat]!))))] .nil (by kernel_rfl) (fun b123 => ?_)
        refine OPS.re [.pointer (some ⟨g78, 0, none⟩), .pointer (some ⟨g75, 0, none⟩), .bool false] (by rw [show (decide (0 < (partI (l[(j : Int).toNat]!)))) = false from Bp.dec.ff h100]) ?_
        refine OPS.batch 21 { wraps := [33, 38, 45] } [] [6] [.bool false] .nil (by kernel_rfl) (fun b124 => ?_)
        refine OPS.nil ?_
        refine thn_n ?_
        exact ⟨false, trivial, Bp.of Bp.f (by first | (simp only [h91, h100, iff_false, false_iff, iff_true, true_iff, Classical.not_not, and_true, true_and, and_false, false_and, or_true, true_or, or_false, false_or, not_true_eq_false, not_false_eq_true, and_self, or_self, iff_self]; done) | (simp [h91, h100]; done) | grind | (simp_all; done)), by kernel_rfl, hp98⟩
    · refine OPS.batch 0 {} [] [7, 8, 20] [.pointer (some ⟨g78, 0, none⟩), .pointer (some ⟨g75, 0, none⟩), .bool (decide (0 < (partI (l[(i : Int).toNat]!))))] .nil (by kernel_rfl) (fun b125 => ?_)
      refine OPS.re [.pointer (some ⟨g78, 0, none⟩), .pointer (some ⟨g75, 0, none⟩), .bool false] (by rw [show (decide (0 < (partI (l[(i : Int).toNat]!)))) = false from Bp.dec.ff h91]) ?_
      refine OPS.batch 26 { wraps := [24, 33, 38, 45] } [] [6] [.bool false] .nil (by kernel_rfl) (fun b126 => ?_)
      refine OPS.nil ?_
      refine thn_n ?_
      exact ⟨false, trivial, Bp.of Bp.f (by first | (simp only [h91, iff_false, false_iff, iff_true, true_iff, Classical.not_not, and_true, true_and, and_false, false_and, or_true, true_or, or_false, false_or, not_true_eq_false, not_false_eq_true, and_self, or_self, iff_self]; done) | (simp [h91]; done) | grind | (simp_all; done)), by kernel_rfl, hp89⟩
  rintro e129 w130 ⟨x127, hd132, hb128, hE133, hp131⟩
  obtain ⟨b134, rfl⟩ := toMk hE133
  clear hE133
  clear hd132
  refine WP.ret ?_
  refine bodyQ.of _ rfl [.bool x127] ⟨rfl, trivial⟩ ?_
  exact ⟨_, rfl, Bp.of hb128 (by simp only [aheadP]; first | grind | (simp_all; done) | (simp_all; grind)), hp131.fr⟩

theorem t_fit (l : List GCall) (a : Option Addr) (n c : Nat) (w : World) (hn : n = l.length) (hb : l.length ≤ 8796093022207) (hs : SlR w a n (l.flatMap GCall.cells)) :
    Calls Try.prog 40 #[.slice a n c] w (fun r_ w' => ∃ f_, r_ = .returned (.bool f_) ∧ Bp f_ (fitP l) ∧ Fram Non w w') := by
  refine calls_of Try.func40 rfl 64 rfl (by simp) ?_
  have hp0 := Hp.init w
  have he0 : List.map (env0 [.slice a n c]) [0] = [.slice a n c] := by kernel_rfl
  obtain ⟨b0, he0⟩ := toMk he0
  rw [he0]
  clear he0
  refine WP.seq ?_
  refine WP.pure {} [] [0] [.slice a n c] .nil (by kernel_rfl) (fun b1 => ?_)
  refine thn_n ?_
  refine WP.seq ?_
  refine WP.seq ?_
  refine WP.pure {} [] [0, 6, 7, 8] [.slice a n c, .slice a n c, .int .i64 ((n : Nat) : Int), .int .i64 0] .nil (by kernel_rfl) (fun b2 => ?_)
  refine thn_n ?_
  refine WP.block ?_
  refine WP.loop (fun mz_ e3 w4 => ∃ (k : Nat), mz_ = l.length - k ∧ (k ≤ l.length ∧ ∀ i, i < k → fitC l[0]!.Key l[i]!) ∧ List.map e3 [0, 6, 7, 8] = [.slice a n c, .slice a n c, .int .i64 ((n : Nat) : Int), .int .i64 (k : Int)] ∧ Hp w Non [] w4) (l.length - (0)) ⟨0, rfl, ⟨by omega, fun i hi => by omega⟩, by kernel_rfl, hp0⟩ ?_
  rintro _ e3 w4 ⟨k, rfl, hI6, hE7, hp5⟩
  obtain ⟨b8, rfl⟩ := toMk hE7
  clear hE7
  obtain ⟨pa, pb⟩ := hI6
  refine WP.seq ?_
  refine WP.pure {} [] [0, 6, 7, 8, 9] [.slice a n c, .slice a n c, .int .i64 ((n : Nat) : Int), .int .i64 (k : Int), .bool (decide ((k : Int) < ((n : Nat) : Int)))] .nil (by kernel_rfl) (fun b9 => ?_)
  refine thn_n ?_
  refine WP.seq ?_
  refine WP.test (p := (k : Int) < ((n : Nat) : Int)) rfl Bp.dec (fun h10 => ?_) (fun h10 => ?_)
  · refine WP.skip ?_
    refine thn_n ?_
    refine WP.seq ?_
    refine WP.block ?_
    refine WP.seq ?_
    refine WP.region _ rfl (by kernel_rfl) ?_
    have hy14 : (l)[k]? = some l[k]! := get_bang (by first | (omega) | (simp only [List.length_append, List.length_cons, List.length_nil]; omega) | (simp only [List.length_take, List.length_append, List.length_cons, List.length_nil]; omega))
    refine OPS.batch 2 {} [GCall.val (l[k]!)] [0, 6, 7, 8, 11] [.slice a n c, .slice a n c, .int .i64 ((n : Nat) : Int), .int .i64 (k : Int), GCall.val (l[k]!)] (.cons (show InB ((k : Int)) (n) from ⟨by omega, by omega⟩) (.cons ((hs.at hp5).some (by omega)) (.cons (Ld.add0 (Ld.elN (P := Try.prog) (t := 73) (hs.at hp5).rd 11 (fun _ => rfl) hy14 (o := 0) (cs := [.int .i64 (l[k]!.Client), .int .i64 (l[k]!.Op), .bool (l[k]!.Put), .string (l[k]!.Key), .slice (l[k]!.Value.a) (l[k]!.Value.n) (l[k]!.Value.c), .int .i64 (l[k]!.Status), .int .i64 (l[k]!.From), .int .i64 (l[k]!.To), .bool (l[k]!.Open), .int .i64 (l[k]!.Tag.Count), .int .i64 (l[k]!.Tag.Client)]) (by kernel_rfl))) .nil))) (by kernel_rfl) (fun b15 => ?_)
    refine OPS.cons (opStep.alloc hp5 [.int .i64 0, .int .i64 0, .bool false, .string ByteArray.empty, .slice none 0 0, .int .i64 0, .int .i64 0, .int .i64 0, .bool false, .int .i64 0, .int .i64 0] (by kernel_rfl) (fun g18 w16 hp17 => ?_))
    refine OPS.cons (opStep.store0 hp17 rfl [.int .i64 (l[k]!.Client), .int .i64 (l[k]!.Op), .bool (l[k]!.Put), .string (l[k]!.Key), .slice (l[k]!.Value.a) (l[k]!.Value.n) (l[k]!.Value.c), .int .i64 (l[k]!.Status), .int .i64 (l[k]!.From), .int .i64 (l[k]!.To), .bool (l[k]!.Open), .int .i64 (l[k]!.Tag.Count), .int .i64 (l[k]!.Tag.Client)] [.int .i64 (l[k]!.Client), .int .i64 (l[k]!.Op), .bool (l[k]!.Put), .string (l[k]!.Key), .slice (l[k]!.Value.a) (l[k]!.Value.n) (l[k]!.Value.c), .int .i64 (l[k]!.Status), .int .i64 (l[k]!.From), .int .i64 (l[k]!.To), .bool (l[k]!.Open), .int .i64 (l[k]!.Tag.Count), .int .i64 (l[k]!.Tag.Client)] (by kernel_rfl) (fun w19 hp20 => ?_))
    refine OPS.nil ?_
    refine thn_n ?_
    refine WP.seq ?_
    refine WP.region _ rfl (by kernel_rfl) ?_
    refine OPS.batch 3 {} [.bool (l[k]!.Put)] [0, 4, 6, 7, 8, 14] [.slice a n c, .pointer (some ⟨g18, 0, none⟩), .slice a n c, .int .i64 ((n : Nat) : Int), .int .i64 (k : Int), .bool (l[k]!.Put)] (.cons (Ld.row1 (P := Try.prog) (t := 4) (o := 2) (v := .bool (l[k]!.Put)) hp20.get0 (by kernel_rfl)) .nil) (by kernel_rfl) (fun b21 => ?_)
    by_cases h22 : (l[k]!.Put) = true
    · refine OPS.batch 0 {} [] [0, 4, 6, 7, 8, 14] [.slice a n c, .pointer (some ⟨g18, 0, none⟩), .slice a n c, .int .i64 ((n : Nat) : Int), .int .i64 (k : Int), .bool (l[k]!.Put)] .nil (by kernel_rfl) (fun b23 => ?_)
      refine OPS.re [.slice a n c, .pointer (some ⟨g18, 0, none⟩), .slice a n c, .int .i64 ((n : Nat) : Int), .int .i64 (k : Int), .bool true] (by rw [show (l[k]!.Put) = true from Bp.var.tt h22]) ?_
      refine OPS.batch 4 {} [.int .i64 (l[k]!.To)] [0, 4, 6, 7, 8, 14, 18] [.slice a n c, .pointer (some ⟨g18, 0, none⟩), .slice a n c, .int .i64 ((n : Nat) : Int), .int .i64 (k : Int), .bool true, .bool (decide ((l[k]!.To) = (-1)))] (.cons (Ld.row1 (P := Try.prog) (t := 3) (o := 7) (v := .int .i64 (l[k]!.To)) hp20.get0 (by kernel_rfl)) .nil) (by kernel_rfl) (fun b24 => ?_)
      by_cases h25 : (l[k]!.To) = (-1)
      · refine OPS.batch 0 {} [] [0, 4, 6, 7, 8, 14, 18] [.slice a n c, .pointer (some ⟨g18, 0, none⟩), .slice a n c, .int .i64 ((n : Nat) : Int), .int .i64 (k : Int), .bool true, .bool (decide ((l[k]!.To) = (-1)))] .nil (by kernel_rfl) (fun b26 => ?_)
        refine OPS.re [.slice a n c, .pointer (some ⟨g18, 0, none⟩), .slice a n c, .int .i64 ((n : Nat) : Int), .int .i64 (k : Int), .bool true, .bool true] (by rw [show (decide ((l[k]!.To) = (-1))) = true from Bp.dec.tt h25]) ?_
        refine OPS.batch 6 { wraps := [22, 23] } [] [0, 4, 5, 6, 7, 8] [.slice a n c, .pointer (some ⟨g18, 0, none⟩), .bool true, .slice a n c, .int .i64 ((n : Nat) : Int), .int .i64 (k : Int)] .nil (by kernel_rfl) (fun b27 => ?_)
        refine OPS.nil ?_
        refine thn_n ?_
        refine WP.cut (fun e129 w130 => ∃ (x127 : Bool), (True) ∧ Bp x127 (((¬ ((l[k]!.Key) = (l[0]!.Key)))) ∨ (((l[k]!.Key) = (l[0]!.Key)) ∧ ((l[k]!.From) < 0)) ∨ (((l[k]!.Key) = (l[0]!.Key)) ∧ (¬ ((l[k]!.From) < 0)) ∧ (¬ ((l[k]!.To) = (-1))) ∧ ((l[k]!.To) ≤ (l[k]!.From))) ∨ (((l[k]!.Key) = (l[0]!.Key)) ∧ (¬ ((l[k]!.From) < 0)) ∧ (¬ ((l[k]!.To) = (-1))) ∧ (¬ ((l[k]!.To) ≤ (l[k]!.From))) ∧ (¬ ((((l[k]!.Open) = true) ↔ (True))))) ∨ (((l[k]!.Key) = (l[0]!.Key)) ∧ (¬ ((l[k]!.From) < 0)) ∧ (¬ ((l[k]!.To) = (-1))) ∧ (¬ ((l[k]!.To) ≤ (l[k]!.From))) ∧ (((l[k]!.Open) = true) ↔ (True)) ∧ ((l[k]!.Open) = true) ∧ (¬ ((l[k]!.To) = (-1)))) ∨ (((l[k]!.Key) = (l[0]!.Key)) ∧ (¬ ((l[k]!.From) < 0)) ∧ ((l[k]!.To) = (-1)) ∧ (¬ ((((l[k]!.Open) = true) ↔ (True))))) ∨ (((l[k]!.Key) = (l[0]!.Key)) ∧ (¬ ((l[k]!.From) < 0)) ∧ ((l[k]!.To) = (-1)) ∧ (((l[k]!.Open) = true) ↔ (True)) ∧ ((l[k]!.Open) = true) ∧ (¬ ((l[k]!.To) = (-1))))) ∧ List.map e129 [0, 6, 7, 8, 62] = [.slice a n c, .slice a n c, .int .i64 ((n : Nat) : Int), .int .i64 (k : Int), .bool x127] ∧ Hp w Non [Res.row g18 [.int .i64 (l[k]!.Client), .int .i64 (l[k]!.Op), .bool (l[k]!.Put), .string (l[k]!.Key), .slice (l[k]!.Value.a) (l[k]!.Value.n) (l[k]!.Value.c), .int .i64 (l[k]!.Status), .int .i64 (l[k]!.From), .int .i64 (l[k]!.To), .bool (l[k]!.Open), .int .i64 (l[k]!.Tag.Count), .int .i64 (l[k]!.Tag.Client)] 73] w130) ?_ ?_
        · have hp31 := hp20.drew
          refine WP.quiet (fun w29 => Hp w Non [Res.row g18 [.int .i64 (l[k]!.Client), .int .i64 (l[k]!.Op), .bool (l[k]!.Put), .string (l[k]!.Key), .slice (l[k]!.Value.a) (l[k]!.Value.n) (l[k]!.Value.c), .int .i64 (l[k]!.Status), .int .i64 (l[k]!.From), .int .i64 (l[k]!.To), .bool (l[k]!.Open), .int .i64 (l[k]!.Tag.Count), .int .i64 (l[k]!.Tag.Client)] 73] w29) (by kernel_rfl) hp31 ?_
          have hnehp31 : ∃ wz_, (fun w29 => Hp w Non [Res.row g18 [.int .i64 (l[k]!.Client), .int .i64 (l[k]!.Op), .bool (l[k]!.Put), .string (l[k]!.Key), .slice (l[k]!.Value.a) (l[k]!.Value.n) (l[k]!.Value.c), .int .i64 (l[k]!.Status), .int .i64 (l[k]!.From), .int .i64 (l[k]!.To), .bool (l[k]!.Open), .int .i64 (l[k]!.Tag.Count), .int .i64 (l[k]!.Tag.Client)] 73] w29) wz_ := ⟨_, hp31⟩
          have hy35 : (l)[0]? = some l[0]! := get_bang (by first | (omega) | (simp only [List.length_append, List.length_cons, List.length_nil]; omega) | (simp only [List.length_take, List.length_append, List.length_cons, List.length_nil]; omega))
          refine QOPS.batch 8 {} [.string (l[k]!.Key), .string (l[0]!.Key)] [0, 4, 5, 6, 7, 8, 31] [.slice a n c, .pointer (some ⟨g18, 0, none⟩), .bool true, .slice a n c, .int .i64 ((n : Nat) : Int), .int .i64 (k : Int), .bool (decide (¬ ((l[k]!.Key) = (l[0]!.Key))))] hnehp31 (fun w32 hp33 => QB.mk (.cons (Ld.row1 (P := Try.prog) (t := 9) (o := 3) (v := .string (l[k]!.Key)) hp33.get0 (by kernel_rfl)) (.cons (show InB (0) (n) from ⟨by omega, by omega⟩) (.cons ((hs.at hp33).some (by omega)) (.cons (Ld.el1 (P := Try.prog) (t := 9) (hs.at hp33).rd 11 (fun _ => rfl) hy35 (o := 3) (v := .string (l[0]!.Key)) (by kernel_rfl)) .nil)))) (by kernel_rfl)) (fun b36 => ?_)
          by_cases h37 : (l[k]!.Key) = (l[0]!.Key)
          · refine QOPS.batch 0 {} [] [0, 4, 5, 6, 7, 8, 31] [.slice a n c, .pointer (some ⟨g18, 0, none⟩), .bool true, .slice a n c, .int .i64 ((n : Nat) : Int), .int .i64 (k : Int), .bool (decide (¬ ((l[k]!.Key) = (l[0]!.Key))))] hnehp31 (fun _ _ => QB.mk .nil (by kernel_rfl)) (fun b44 => ?_)
            refine QOPS.re [.slice a n c, .pointer (some ⟨g18, 0, none⟩), .bool true, .slice a n c, .int .i64 ((n : Nat) : Int), .int .i64 (k : Int), .bool false] (by rw [show (decide (¬ ((l[k]!.Key) = (l[0]!.Key)))) = false from Bp.dec.ff (fun k => k h37)]) ?_
            refine QOPS.batch 5 { wraps := [35] } [.int .i64 (l[k]!.From)] [0, 4, 5, 6, 7, 8, 36] [.slice a n c, .pointer (some ⟨g18, 0, none⟩), .bool true, .slice a n c, .int .i64 ((n : Nat) : Int), .int .i64 (k : Int), .bool (decide ((l[k]!.From) < 0))] hnehp31 (fun w45 hp46 => QB.mk (.cons (Ld.row1 (P := Try.prog) (t := 3) (o := 6) (v := .int .i64 (l[k]!.From)) hp46.get0 (by kernel_rfl)) .nil) (by kernel_rfl)) (fun b47 => ?_)
            by_cases h48 : (l[k]!.From) < 0
            · refine QOPS.batch 0 {} [] [0, 4, 5, 6, 7, 8, 36] [.slice a n c, .pointer (some ⟨g18, 0, none⟩), .bool true, .slice a n c, .int .i64 ((n : Nat) : Int), .int .i64 (k : Int), .bool (decide ((l[k]!.From) < 0))] hnehp31 (fun _ _ => QB.mk .nil (by kernel_rfl)) (fun b49 => ?_)
              refine QOPS.re [.slice a n c, .pointer (some ⟨g18, 0, none⟩), .bool true, .slice a n c, .int .i64 ((n : Nat) : Int), .int .i64 (k : Int), .bool true] (by rw [show (decide ((l[k]!.From) < 0)) = true from Bp.dec.tt h48]) ?_
              refine QOPS.batch 26 { wraps := [47, 53, 62] } [] [0, 6, 7, 8, 62] [.slice a n c, .slice a n c, .int .i64 ((n : Nat) : Int), .int .i64 (k : Int), .bool true] hnehp31 (fun w50 hp51 => QB.mk .nil (by kernel_rfl)) (fun b52 => ?_)
              refine QOPS.nil (fun w53 hp54 => ?_)
              refine thn_n ?_
              exact ⟨true, trivial, Bp.of Bp.t (by first | (simp only [h37, h48, iff_false, false_iff, iff_true, true_iff, Classical.not_not, and_true, true_and, and_false, false_and, or_true, true_or, or_false, false_or, not_true_eq_false, not_false_eq_true, and_self, or_self, iff_self]; done) | (simp [h37, h48]; done) | grind | (simp_all; done)), by kernel_rfl, hp54⟩
            · refine QOPS.batch 0 {} [] [0, 4, 5, 6, 7, 8, 36] [.slice a n c, .pointer (some ⟨g18, 0, none⟩), .bool true, .slice a n c, .int .i64 ((n : Nat) : Int), .int .i64 (k : Int), .bool (decide ((l[k]!.From) < 0))] hnehp31 (fun _ _ => QB.mk .nil (by kernel_rfl)) (fun b55 => ?_)
              refine QOPS.re [.slice a n c, .pointer (some ⟨g18, 0, none⟩), .bool true, .slice a n c, .int .i64 ((n : Nat) : Int), .int .i64 (k : Int), .bool false] (by rw [show (decide ((l[k]!.From) < 0)) = false from Bp.dec.ff h48]) ?_
              refine QOPS.batch 4 {} [.int .i64 (l[k]!.To)] [0, 4, 5, 6, 7, 8, 36, 40] [.slice a n c, .pointer (some ⟨g18, 0, none⟩), .bool true, .slice a n c, .int .i64 ((n : Nat) : Int), .int .i64 (k : Int), .bool false, .bool (decide (¬ ((l[k]!.To) = (-1))))] hnehp31 (fun w56 hp57 => QB.mk (.cons (Ld.row1 (P := Try.prog) (t := 3) (o := 7) (v := .int .i64 (l[k]!.To)) hp57.get0 (by kernel_rfl)) .nil) (by kernel_rfl)) (fun b58 => ?_)
              by_cases h59 : (l[k]!.To) = (-1)
              · refine QOPS.batch 0 {} [] [0, 4, 5, 6, 7, 8, 36, 40] [.slice a n c, .pointer (some ⟨g18, 0, none⟩), .bool true, .slice a n c, .int .i64 ((n : Nat) : Int), .int .i64 (k : Int), .bool false, .bool (decide (¬ ((l[k]!.To) = (-1))))] hnehp31 (fun _ _ => QB.mk .nil (by kernel_rfl)) (fun b99 => ?_)
                refine QOPS.re [.slice a n c, .pointer (some ⟨g18, 0, none⟩), .bool true, .slice a n c, .int .i64 ((n : Nat) : Int), .int .i64 (k : Int), .bool false, .bool false] (by rw [show (decide (¬ ((l[k]!.To) = (-1)))) = false from Bp.dec.ff (fun k => k h59)]) ?_
                refine QOPS.batch 14 { wraps := [46, 47, 53] } [.bool (l[k]!.Open)] [0, 4, 6, 7, 8, 54] [.slice a n c, .pointer (some ⟨g18, 0, none⟩), .slice a n c, .int .i64 ((n : Nat) : Int), .int .i64 (k : Int), .bool (!((l[k]!.Open) == true))] hnehp31 (fun w100 hp101 => QB.mk (.cons (Ld.row1 (P := Try.prog) (t := 4) (o := 8) (v := .bool (l[k]!.Open)) hp101.get0 (by kernel_rfl)) .nil) (by kernel_rfl)) (fun b102 => ?_)
                by_cases h103 : (((l[k]!.Open) = true) ↔ (True))
                · refine QOPS.batch 0 {} [] [0, 4, 6, 7, 8, 54] [.slice a n c, .pointer (some ⟨g18, 0, none⟩), .slice a n c, .int .i64 ((n : Nat) : Int), .int .i64 (k : Int), .bool (!((l[k]!.Open) == true))] hnehp31 (fun _ _ => QB.mk .nil (by kernel_rfl)) (fun b110 => ?_)
                  refine QOPS.re [.slice a n c, .pointer (some ⟨g18, 0, none⟩), .slice a n c, .int .i64 ((n : Nat) : Int), .int .i64 (k : Int), .bool false] (by rw [show (!((l[k]!.Open) == true)) = false from (Bp.not (Bp.beq Bp.var Bp.t)).ff (fun k => k h103)]) ?_
                  refine QOPS.batch 3 {} [.bool (l[k]!.Open)] [0, 4, 6, 7, 8, 54, 57] [.slice a n c, .pointer (some ⟨g18, 0, none⟩), .slice a n c, .int .i64 ((n : Nat) : Int), .int .i64 (k : Int), .bool false, .bool (l[k]!.Open)] hnehp31 (fun w111 hp112 => QB.mk (.cons (Ld.row1 (P := Try.prog) (t := 4) (o := 8) (v := .bool (l[k]!.Open)) hp112.get0 (by kernel_rfl)) .nil) (by kernel_rfl)) (fun b113 => ?_)
                  by_cases h114 : (l[k]!.Open) = true
                  · refine QOPS.batch 0 {} [] [0, 4, 6, 7, 8, 54, 57] [.slice a n c, .pointer (some ⟨g18, 0, none⟩), .slice a n c, .int .i64 ((n : Nat) : Int), .int .i64 (k : Int), .bool false, .bool (l[k]!.Open)] hnehp31 (fun _ _ => QB.mk .nil (by kernel_rfl)) (fun b115 => ?_)
                    refine QOPS.re [.slice a n c, .pointer (some ⟨g18, 0, none⟩), .slice a n c, .int .i64 ((n : Nat) : Int), .int .i64 (k : Int), .bool false, .bool true] (by rw [show (l[k]!.Open) = true from Bp.var.tt h114]) ?_
                    refine QOPS.batch 5 { wraps := [61, 62] } [.int .i64 (l[k]!.To)] [0, 6, 7, 8, 62] [.slice a n c, .slice a n c, .int .i64 ((n : Nat) : Int), .int .i64 (k : Int), .bool (decide (¬ ((l[k]!.To) = (-1))))] hnehp31 (fun w116 hp117 => QB.mk (.cons (Ld.row1 (P := Try.prog) (t := 3) (o := 7) (v := .int .i64 (l[k]!.To)) hp117.get0 (by kernel_rfl)) .nil) (by kernel_rfl)) (fun b118 => ?_)
                    refine QOPS.nil (fun w119 hp120 => ?_)
                    refine thn_n ?_
                    exact ⟨decide (¬ ((l[k]!.To) = (-1))), trivial, Bp.of Bp.dec (by first | (simp only [h37, h48, h59, h103, h114, iff_false, false_iff, iff_true, true_iff, Classical.not_not, and_true, true_and, and_false, false_and, or_true, true_or, or_false, false_or, not_true_eq_false, not_false_eq_true, and_self, or_self, iff_self]; done) | (simp [h37, h48, h59, h103, h114]; done) | grind | (simp_all; done)), by kernel_rfl, hp120⟩
                  · refine QOPS.batch 0 {} [] [0, 4, 6, 7, 8, 54, 57] [.slice a n c, .pointer (some ⟨g18, 0, none⟩), .slice a n c, .int .i64 ((n : Nat) : Int), .int .i64 (k : Int), .bool false, .bool (l[k]!.Open)] hnehp31 (fun _ _ => QB.mk .nil (by kernel_rfl)) (fun b121 => ?_)
                    refine QOPS.re [.slice a n c, .pointer (some ⟨g18, 0, none⟩), .slice a n c, .int .i64 ((n : Nat) : Int), .int .i64 (k : Int), .bool false, .bool false] (by rw [show (l[k]!.Open) = false from Bp.var.ff h114]) ?_
                    refine QOPS.batch 5 { wraps := [61, 62] } [] [0, 6, 7, 8, 62] [.slice a n c, .slice a n c, .int .i64 ((n : Nat) : Int), .int .i64 (k : Int), .bool false] hnehp31 (fun w122 hp123 => QB.mk .nil (by kernel_rfl)) (fun b124 => ?_)
                    refine QOPS.nil (fun w125 hp126 => ?_)
                    refine thn_n ?_
                    exact ⟨false, trivial, Bp.of Bp.f (by first | (simp only [h37, h48, h59, h103, h114, iff_false, false_iff, iff_true, true_iff, Classical.not_not, and_true, true_and, and_false, false_and, or_true, true_or, or_false, false_or, not_true_eq_false, not_false_eq_true, and_self, or_self, iff_self]; done) | (simp [h37, h48, h59, h103, h114]; done) | grind | (simp_all; done)), by kernel_rfl, hp126⟩
                · refine QOPS.batch 0 {} [] [0, 4, 6, 7, 8, 54] [.slice a n c, .pointer (some ⟨g18, 0, none⟩), .slice a n c, .int .i64 ((n : Nat) : Int), .int .i64 (k : Int), .bool (!((l[k]!.Open) == true))] hnehp31 (fun _ _ => QB.mk .nil (by kernel_rfl)) (fun b104 => ?_)
                  refine QOPS.re [.slice a n c, .pointer (some ⟨g18, 0, none⟩), .slice a n c, .int .i64 ((n : Nat) : Int), .int .i64 (k : Int), .bool true] (by rw [show (!((l[k]!.Open) == true)) = true from (Bp.not (Bp.beq Bp.var Bp.t)).tt h103]) ?_
                  refine QOPS.batch 8 { wraps := [62] } [] [0, 6, 7, 8, 62] [.slice a n c, .slice a n c, .int .i64 ((n : Nat) : Int), .int .i64 (k : Int), .bool true] hnehp31 (fun w105 hp106 => QB.mk .nil (by kernel_rfl)) (fun b107 => ?_)
                  refine QOPS.nil (fun w108 hp109 => ?_)
                  refine thn_n ?_
                  exact ⟨true, trivial, Bp.of Bp.t (by first | (simp only [h37, h48, h59, h103, iff_false, false_iff, iff_true, true_iff, Classical.not_not, and_true, true_and, and_false, false_and, or_true, true_or, or_false, false_or, not_true_eq_false, not_false_eq_true, and_self, or_self, iff_self]; done) | (simp [h37, h48, h59, h103]; done) | grind | (simp_all; done)), by kernel_rfl, hp109⟩
              · refine QOPS.batch 0 {} [] [0, 4, 5, 6, 7, 8, 36, 40] [.slice a n c, .pointer (some ⟨g18, 0, none⟩), .bool true, .slice a n c, .int .i64 ((n : Nat) : Int), .int .i64 (k : Int), .bool false, .bool (decide (¬ ((l[k]!.To) = (-1))))] hnehp31 (fun _ _ => QB.mk .nil (by kernel_rfl)) (fun b60 => ?_)
                refine QOPS.re [.slice a n c, .pointer (some ⟨g18, 0, none⟩), .bool true, .slice a n c, .int .i64 ((n : Nat) : Int), .int .i64 (k : Int), .bool false, .bool true] (by rw [show (decide (¬ ((l[k]!.To) = (-1)))) = true from Bp.dec.tt h59]) ?_
                refine QOPS.batch 8 { wraps := [46, 47] } [.int .i64 (l[k]!.To), .int .i64 (l[k]!.From)] [0, 4, 5, 6, 7, 8, 48] [.slice a n c, .pointer (some ⟨g18, 0, none⟩), .bool true, .slice a n c, .int .i64 ((n : Nat) : Int), .int .i64 (k : Int), .bool (decide ((l[k]!.To) ≤ (l[k]!.From)))] hnehp31 (fun w61 hp62 => QB.mk (.cons (Ld.row1 (P := Try.prog) (t := 3) (o := 7) (v := .int .i64 (l[k]!.To)) hp62.get0 (by kernel_rfl)) (.cons (Ld.row1 (P := Try.prog) (t := 3) (o := 6) (v := .int .i64 (l[k]!.From)) hp62.get0 (by kernel_rfl)) .nil)) (by kernel_rfl)) (fun b63 => ?_)
                by_cases h64 : (l[k]!.To) ≤ (l[k]!.From)
                · refine QOPS.batch 0 {} [] [0, 4, 5, 6, 7, 8, 48] [.slice a n c, .pointer (some ⟨g18, 0, none⟩), .bool true, .slice a n c, .int .i64 ((n : Nat) : Int), .int .i64 (k : Int), .bool (decide ((l[k]!.To) ≤ (l[k]!.From)))] hnehp31 (fun _ _ => QB.mk .nil (by kernel_rfl)) (fun b65 => ?_)
                  refine QOPS.re [.slice a n c, .pointer (some ⟨g18, 0, none⟩), .bool true, .slice a n c, .int .i64 ((n : Nat) : Int), .int .i64 (k : Int), .bool true] (by rw [show (decide ((l[k]!.To) ≤ (l[k]!.From))) = true from Bp.dec.tt h64]) ?_
                  refine QOPS.batch 14 { wraps := [53, 62] } [] [0, 6, 7, 8, 62] [.slice a n c, .slice a n c, .int .i64 ((n : Nat) : Int), .int .i64 (k : Int), .bool true] hnehp31 (fun w66 hp67 => QB.mk .nil (by kernel_rfl)) (fun b68 => ?_)
                  refine QOPS.nil (fun w69 hp70 => ?_)
                  refine thn_n ?_
                  exact ⟨true, trivial, Bp.of Bp.t (by first | (simp only [h37, h48, h59, h64, iff_false, false_iff, iff_true, true_iff, Classical.not_not, and_true, true_and, and_false, false_and, or_true, true_or, or_false, false_or, not_true_eq_false, not_false_eq_true, and_self, or_self, iff_self]; done) | (simp [h37, h48, h59, h64]; done) | grind | (simp_all; done)), by kernel_rfl, hp70⟩
                · refine QOPS.batch 0 {} [] [0, 4, 5, 6, 7, 8, 48] [.slice a n c, .pointer (some ⟨g18, 0, none⟩), .bool true, .slice a n c, .int .i64 ((n : Nat) : Int), .int .i64 (k : Int), .bool (decide ((l[k]!.To) ≤ (l[k]!.From)))] hnehp31 (fun _ _ => QB.mk .nil (by kernel_rfl)) (fun b71 => ?_)
                  refine QOPS.re [.slice a n c, .pointer (some ⟨g18, 0, none⟩), .bool true, .slice a n c, .int .i64 ((n : Nat) : Int), .int .i64 (k : Int), .bool false] (by rw [show (decide ((l[k]!.To) ≤ (l[k]!.From))) = false from Bp.dec.ff h64]) ?_
                  refine QOPS.batch 6 { wraps := [53] } [.bool (l[k]!.Open)] [0, 4, 6, 7, 8, 54] [.slice a n c, .pointer (some ⟨g18, 0, none⟩), .slice a n c, .int .i64 ((n : Nat) : Int), .int .i64 (k : Int), .bool (!((l[k]!.Open) == true))] hnehp31 (fun w72 hp73 => QB.mk (.cons (Ld.row1 (P := Try.prog) (t := 4) (o := 8) (v := .bool (l[k]!.Open)) hp73.get0 (by kernel_rfl)) .nil) (by kernel_rfl)) (fun b74 => ?_)
                  by_cases h75 : (((l[k]!.Open) = true) ↔ (True))
                  · refine QOPS.batch 0 {} [] [0, 4, 6, 7, 8, 54] [.slice a n c, .pointer (some ⟨g18, 0, none⟩), .slice a n c, .int .i64 ((n : Nat) : Int), .int .i64 (k : Int), .bool (!((l[k]!.Open) == true))] hnehp31 (fun _ _ => QB.mk .nil (by kernel_rfl)) (fun b82 => ?_)
                    refine QOPS.re [.slice a n c, .pointer (some ⟨g18, 0, none⟩), .slice a n c, .int .i64 ((n : Nat) : Int), .int .i64 (k : Int), .bool false] (by rw [show (!((l[k]!.Open) == true)) = false from (Bp.not (Bp.beq Bp.var Bp.t)).ff (fun k => k h75)]) ?_
                    refine QOPS.batch 3 {} [.bool (l[k]!.Open)] [0, 4, 6, 7, 8, 54, 57] [.slice a n c, .pointer (some ⟨g18, 0, none⟩), .slice a n c, .int .i64 ((n : Nat) : Int), .int .i64 (k : Int), .bool false, .bool (l[k]!.Open)] hnehp31 (fun w83 hp84 => QB.mk (.cons (Ld.row1 (P := Try.prog) (t := 4) (o := 8) (v := .bool (l[k]!.Open)) hp84.get0 (by kernel_rfl)) .nil) (by kernel_rfl)) (fun b85 => ?_)
                    by_cases h86 : (l[k]!.Open) = true
                    · refine QOPS.batch 0 {} [] [0, 4, 6, 7, 8, 54, 57] [.slice a n c, .pointer (some ⟨g18, 0, none⟩), .slice a n c, .int .i64 ((n : Nat) : Int), .int .i64 (k : Int), .bool false, .bool (l[k]!.Open)] hnehp31 (fun _ _ => QB.mk .nil (by kernel_rfl)) (fun b87 => ?_)
                      refine QOPS.re [.slice a n c, .pointer (some ⟨g18, 0, none⟩), .slice a n c, .int .i64 ((n : Nat) : Int), .int .i64 (k : Int), .bool false, .bool true] (by rw [show (l[k]!.Open) = true from Bp.var.tt h86]) ?_
                      refine QOPS.batch 5 { wraps := [61, 62] } [.int .i64 (l[k]!.To)] [0, 6, 7, 8, 62] [.slice a n c, .slice a n c, .int .i64 ((n : Nat) : Int), .int .i64 (k : Int), .bool (decide (¬ ((l[k]!.To) = (-1))))] hnehp31 (fun w88 hp89 => QB.mk (.cons (Ld.row1 (P := Try.prog) (t := 3) (o := 7) (v := .int .i64 (l[k]!.To)) hp89.get0 (by kernel_rfl)) .nil) (by kernel_rfl)) (fun b90 => ?_)
                      refine QOPS.nil (fun w91 hp92 => ?_)
                      refine thn_n ?_
                      exact ⟨decide (¬ ((l[k]!.To) = (-1))), trivial, Bp.of Bp.dec (by first | (simp only [h37, h48, h59, h64, h75, h86, iff_false, false_iff, iff_true, true_iff, Classical.not_not, and_true, true_and, and_false, false_and, or_true, true_or, or_false, false_or, not_true_eq_false, not_false_eq_true, and_self, or_self, iff_self]; done) | (simp [h37, h48, h59, h64, h75, h86]; done) | grind | (simp_all; done)), by kernel_rfl, hp92⟩
                    · refine QOPS.batch 0 {} [] [0, 4, 6, 7, 8, 54, 57] [.slice a n c, .pointer (some ⟨g18, 0, none⟩), .slice a n c, .int .i64 ((n : Nat) : Int), .int .i64 (k : Int), .bool false, .bool (l[k]!.Open)] hnehp31 (fun _ _ => QB.mk .nil (by kernel_rfl)) (fun b93 => ?_)
                      refine QOPS.re [.slice a n c, .pointer (some ⟨g18, 0, none⟩), .slice a n c, .int .i64 ((n : Nat) : Int), .int .i64 (k : Int), .bool false, .bool false] (by rw [show (l[k]!.Open) = false from Bp.var.ff h86]) ?_
                      refine QOPS.batch 5 { wraps := [61, 62] } [] [0, 6, 7, 8, 62] [.slice a n c, .slice a n c, .int .i64 ((n : Nat) : Int), .int .i64 (k : Int), .bool false] hnehp31 (fun w94 hp95 => QB.mk .nil (by kernel_rfl)) (fun b96 => ?_)
                      refine QOPS.nil (fun w97 hp98 => ?_)
                      refine thn_n ?_
                      exact ⟨false, trivial, Bp.of Bp.f (by first | (simp only [h37, h48, h59, h64, h75, h86, iff_false, false_iff, iff_true, true_iff, Classical.not_not, and_true, true_and, and_false, false_and, or_true, true_or, or_false, false_or, not_true_eq_false, not_false_eq_true, and_self, or_self, iff_self]; done) | (simp [h37, h48, h59, h64, h75, h86]; done) | grind | (simp_all; done)), by kernel_rfl, hp98⟩
                  · refine QOPS.batch 0 {} [] [0, 4, 6, 7, 8, 54] [.slice a n c, .pointer (some ⟨g18, 0, none⟩), .slice a n c, .int .i64 ((n : Nat) : Int), .int .i64 (k : Int), .bool (!((l[k]!.Open) == true))] hnehp31 (fun _ _ => QB.mk .nil (by kernel_rfl)) (fun b76 => ?_)
                    refine QOPS.re [.slice a n c, .pointer (some ⟨g18, 0, none⟩), .slice a n c, .int .i64 ((n : Nat) : Int), .int .i64 (k : Int), .bool true] (by rw [show (!((l[k]!.Open) == true)) = true from (Bp.not (Bp.beq Bp.var Bp.t)).tt h75]) ?_
                    refine QOPS.batch 8 { wraps := [62] } [] [0, 6, 7, 8, 62] [.slice a n c, .slice a n c, .int .i64 ((n : Nat) : Int), .int .i64 (k : Int), .bool true] hnehp31 (fun w77 hp78 => QB.mk .nil (by kernel_rfl)) (fun b79 => ?_)
                    refine QOPS.nil (fun w80 hp81 => ?_)
                    refine thn_n ?_
                    exact ⟨true, trivial, Bp.of Bp.t (by first | (simp only [h37, h48, h59, h64, h75, iff_false, false_iff, iff_true, true_iff, Classical.not_not, and_true, true_and, and_false, false_and, or_true, true_or, or_false, false_or, not_true_eq_false, not_false_eq_true, and_self, or_self, iff_self]; done) | (simp [h37, h48, h59, h64, h75]; done) | grind | (simp_all; done)), by kernel_rfl, hp81⟩
          · refine QOPS.batch 0 {} [] [0, 4, 5, 6, 7, 8, 31] [.slice a n c, .pointer (some ⟨g18, 0, none⟩), .bool true, .slice a n c, .int .i64 ((n : Nat) : Int), .int .i64 (k : Int), .bool (decide (¬ ((l[k]!.Key) = (l[0]!.Key))))] hnehp31 (fun _ _ => QB.mk .nil (by kernel_rfl)) (fun b38 => ?_)
            refine QOPS.re [.slice a n c, .pointer (some ⟨g18, 0, none⟩), .bool true, .slice a n c, .int .i64 ((n : Nat) : Int), .int .i64 (k : Int), .bool true] (by rw [show (decide (¬ ((l[k]!.Key) = (l[0]!.Key)))) = true from Bp.dec.tt h37]) ?_
            refine QOPS.batch 31 { wraps := [35, 47, 53, 62] } [] [0, 6, 7, 8, 62] [.slice a n c, .slice a n c, .int .i64 ((n : Nat) : Int), .int .i64 (k : Int), .bool true] hnehp31 (fun w39 hp40 => QB.mk .nil (by kernel_rfl)) (fun b41 => ?_)
            refine QOPS.nil (fun w42 hp43 => ?_)
            refine thn_n ?_
            exact ⟨true, trivial, Bp.of Bp.t (by first | (simp only [h37, iff_false, false_iff, iff_true, true_iff, Classical.not_not, and_true, true_and, and_false, false_and, or_true, true_or, or_false, false_or, not_true_eq_false, not_false_eq_true, and_self, or_self, iff_self]; done) | (simp [h37]; done) | grind | (simp_all; done)), by kernel_rfl, hp43⟩
        rintro e129 w130 ⟨x127, hd132, hb128, hE133, hp131⟩
        obtain ⟨b134, rfl⟩ := toMk hE133
        clear hE133
        clear hd132
        refine WP.test (p := ((¬ ((l[k]!.Key) = (l[0]!.Key)))) ∨ (((l[k]!.Key) = (l[0]!.Key)) ∧ ((l[k]!.From) < 0)) ∨ (((l[k]!.Key) = (l[0]!.Key)) ∧ (¬ ((l[k]!.From) < 0)) ∧ (¬ ((l[k]!.To) = (-1))) ∧ ((l[k]!.To) ≤ (l[k]!.From))) ∨ (((l[k]!.Key) = (l[0]!.Key)) ∧ (¬ ((l[k]!.From) < 0)) ∧ (¬ ((l[k]!.To) = (-1))) ∧ (¬ ((l[k]!.To) ≤ (l[k]!.From))) ∧ (¬ ((((l[k]!.Open) = true) ↔ (True))))) ∨ (((l[k]!.Key) = (l[0]!.Key)) ∧ (¬ ((l[k]!.From) < 0)) ∧ (¬ ((l[k]!.To) = (-1))) ∧ (¬ ((l[k]!.To) ≤ (l[k]!.From))) ∧ (((l[k]!.Open) = true) ↔ (True)) ∧ ((l[k]!.Open) = true) ∧ (¬ ((l[k]!.To) = (-1)))) ∨ (((l[k]!.Key) = (l[0]!.Key)) ∧ (¬ ((l[k]!.From) < 0)) ∧ ((l[k]!.To) = (-1)) ∧ (¬ ((((l[k]!.Open) = true) ↔ (True))))) ∨ (((l[k]!.Key) = (l[0]!.Key)) ∧ (¬ ((l[k]!.From) < 0)) ∧ ((l[k]!.To) = (-1)) ∧ (((l[k]!.Open) = true) ↔ (True)) ∧ ((l[k]!.Open) = true) ∧ (¬ ((l[k]!.To) = (-1))))) rfl hb128 (fun h135 => ?_) (fun h135 => ?_)
        · refine WP.seq ?_
          refine WP.pure {} [] [2] [.bool false] .nil (by kernel_rfl) (fun b136 => ?_)
          refine thn_n ?_
          refine WP.ret ?_
          refine blk_r ?_
          refine thn_r ?_
          refine thn_r ?_
          refine blk_r ?_
          refine thn_r ?_
          refine bodyQ.of _ rfl [.bool false] ⟨rfl, trivial⟩ ?_
          exact ⟨_, rfl, Bp.of Bp.f (by simp only [false_iff]; intro q; have q_ := q k (by omega); simp only [fitC, openP] at q_; have h_ := h135; grind), hp131.fr⟩
        · refine WP.skip ?_
          refine blk_n ?_
          refine thn_n ?_
          refine WP.pure {} [] [0, 6, 7, 8] [.slice a n c, .slice a n c, .int .i64 ((n : Nat) : Int), .int .i64 ((k : Int) + 1)] (.cons (show Rng .i64 ((k : Int) + 1) from Rng.i64 (by omega)) .nil) (by kernel_rfl) (fun b137 => ?_)
          refine thn_n ?_
          exact ⟨l.length - (k + 1), (by omega), k + 1, rfl, ⟨by omega, fun i hi => by by_cases e : i = k; subst e; exact (by simp only [fitC, openP]; have h_ := h135; grind); exact pb i (by omega)⟩, by kernel_rfl, (hp131.sub (.cons _ (.slnil)))⟩
      · refine OPS.batch 0 {} [] [0, 4, 6, 7, 8, 14, 18] [.slice a n c, .pointer (some ⟨g18, 0, none⟩), .slice a n c, .int .i64 ((n : Nat) : Int), .int .i64 (k : Int), .bool true, .bool (decide ((l[k]!.To) = (-1)))] .nil (by kernel_rfl) (fun b138 => ?_)
        refine OPS.re [.slice a n c, .pointer (some ⟨g18, 0, none⟩), .slice a n c, .int .i64 ((n : Nat) : Int), .int .i64 (k : Int), .bool true, .bool false] (by rw [show (decide ((l[k]!.To) = (-1))) = false from Bp.dec.ff h25]) ?_
        refine OPS.batch 6 { wraps := [22, 23] } [.int .i64 (l[k]!.Status)] [0, 4, 5, 6, 7, 8] [.slice a n c, .pointer (some ⟨g18, 0, none⟩), .bool (decide (¬ ((l[k]!.Status) = 0))), .slice a n c, .int .i64 ((n : Nat) : Int), .int .i64 (k : Int)] (.cons (Ld.row1 (P := Try.prog) (t := 25) (o := 5) (v := .int .i64 (l[k]!.Status)) hp20.get0 (by kernel_rfl)) .nil) (by kernel_rfl) (fun b139 => ?_)
        refine OPS.nil ?_
        refine thn_n ?_
        refine WP.cut (fun e241 w242 => ∃ (x239 : Bool), (True) ∧ Bp x239 (((¬ ((l[k]!.Key) = (l[0]!.Key)))) ∨ (((l[k]!.Key) = (l[0]!.Key)) ∧ ((l[k]!.From) < 0)) ∨ (((l[k]!.Key) = (l[0]!.Key)) ∧ (¬ ((l[k]!.From) < 0)) ∧ (¬ ((l[k]!.To) = (-1))) ∧ ((l[k]!.To) ≤ (l[k]!.From))) ∨ (((l[k]!.Key) = (l[0]!.Key)) ∧ (¬ ((l[k]!.From) < 0)) ∧ (¬ ((l[k]!.To) = (-1))) ∧ (¬ ((l[k]!.To) ≤ (l[k]!.From))) ∧ (¬ ((((l[k]!.Open) = true) ↔ (¬ ((l[k]!.Status) = 0)))))) ∨ (((l[k]!.Key) = (l[0]!.Key)) ∧ (¬ ((l[k]!.From) < 0)) ∧ (¬ ((l[k]!.To) = (-1))) ∧ (¬ ((l[k]!.To) ≤ (l[k]!.From))) ∧ (((l[k]!.Open) = true) ↔ (¬ ((l[k]!.Status) = 0))) ∧ ((l[k]!.Open) = true) ∧ (¬ ((l[k]!.To) = (-1)))) ∨ (((l[k]!.Key) = (l[0]!.Key)) ∧ (¬ ((l[k]!.From) < 0)) ∧ ((l[k]!.To) = (-1)) ∧ (¬ ((((l[k]!.Open) = true) ↔ (¬ ((l[k]!.Status) = 0)))))) ∨ (((l[k]!.Key) = (l[0]!.Key)) ∧ (¬ ((l[k]!.From) < 0)) ∧ ((l[k]!.To) = (-1)) ∧ (((l[k]!.Open) = true) ↔ (¬ ((l[k]!.Status) = 0))) ∧ ((l[k]!.Open) = true) ∧ (¬ ((l[k]!.To) = (-1))))) ∧ List.map e241 [0, 6, 7, 8, 62] = [.slice a n c, .slice a n c, .int .i64 ((n : Nat) : Int), .int .i64 (k : Int), .bool x239] ∧ Hp w Non [Res.row g18 [.int .i64 (l[k]!.Client), .int .i64 (l[k]!.Op), .bool (l[k]!.Put), .string (l[k]!.Key), .slice (l[k]!.Value.a) (l[k]!.Value.n) (l[k]!.Value.c), .int .i64 (l[k]!.Status), .int .i64 (l[k]!.From), .int .i64 (l[k]!.To), .bool (l[k]!.Open), .int .i64 (l[k]!.Tag.Count), .int .i64 (l[k]!.Tag.Client)] 73] w242) ?_ ?_
        · have hp143 := hp20.drew
          refine WP.quiet (fun w141 => Hp w Non [Res.row g18 [.int .i64 (l[k]!.Client), .int .i64 (l[k]!.Op), .bool (l[k]!.Put), .string (l[k]!.Key), .slice (l[k]!.Value.a) (l[k]!.Value.n) (l[k]!.Value.c), .int .i64 (l[k]!.Status), .int .i64 (l[k]!.From), .int .i64 (l[k]!.To), .bool (l[k]!.Open), .int .i64 (l[k]!.Tag.Count), .int .i64 (l[k]!.Tag.Client)] 73] w141) (by kernel_rfl) hp143 ?_
          have hnehp143 : ∃ wz_, (fun w141 => Hp w Non [Res.row g18 [.int .i64 (l[k]!.Client), .int .i64 (l[k]!.Op), .bool (l[k]!.Put), .string (l[k]!.Key), .slice (l[k]!.Value.a) (l[k]!.Value.n) (l[k]!.Value.c), .int .i64 (l[k]!.Status), .int .i64 (l[k]!.From), .int .i64 (l[k]!.To), .bool (l[k]!.Open), .int .i64 (l[k]!.Tag.Count), .int .i64 (l[k]!.Tag.Client)] 73] w141) wz_ := ⟨_, hp143⟩
          have hy147 : (l)[0]? = some l[0]! := get_bang (by first | (omega) | (simp only [List.length_append, List.length_cons, List.length_nil]; omega) | (simp only [List.length_take, List.length_append, List.length_cons, List.length_nil]; omega))
          refine QOPS.batch 8 {} [.string (l[k]!.Key), .string (l[0]!.Key)] [0, 4, 5, 6, 7, 8, 31] [.slice a n c, .pointer (some ⟨g18, 0, none⟩), .bool (decide (¬ ((l[k]!.Status) = 0))), .slice a n c, .int .i64 ((n : Nat) : Int), .int .i64 (k : Int), .bool (decide (¬ ((l[k]!.Key) = (l[0]!.Key))))] hnehp143 (fun w144 hp145 => QB.mk (.cons (Ld.row1 (P := Try.prog) (t := 9) (o := 3) (v := .string (l[k]!.Key)) hp145.get0 (by kernel_rfl)) (.cons (show InB (0) (n) from ⟨by omega, by omega⟩) (.cons ((hs.at hp145).some (by omega)) (.cons (Ld.el1 (P := Try.prog) (t := 9) (hs.at hp145).rd 11 (fun _ => rfl) hy147 (o := 3) (v := .string (l[0]!.Key)) (by kernel_rfl)) .nil)))) (by kernel_rfl)) (fun b148 => ?_)
          by_cases h149 : (l[k]!.Key) = (l[0]!.Key)
          · refine QOPS.batch 0 {} [] [0, 4, 5, 6, 7, 8, 31] [.slice a n c, .pointer (some ⟨g18, 0, none⟩), .bool (decide (¬ ((l[k]!.Status) = 0))), .slice a n c, .int .i64 ((n : Nat) : Int), .int .i64 (k : Int), .bool (decide (¬ ((l[k]!.Key) = (l[0]!.Key))))] hnehp143 (fun _ _ => QB.mk .nil (by kernel_rfl)) (fun b156 => ?_)
            refine QOPS.re [.slice a n c, .pointer (some ⟨g18, 0, none⟩), .bool (decide (¬ ((l[k]!.Status) = 0))), .slice a n c, .int .i64 ((n : Nat) : Int), .int .i64 (k : Int), .bool false] (by rw [show (decide (¬ ((l[k]!.Key) = (l[0]!.Key)))) = false from Bp.dec.ff (fun k => k h149)]) ?_
            refine QOPS.batch 5 { wraps := [35] } [.int .i64 (l[k]!.From)] [0, 4, 5, 6, 7, 8, 36] [.slice a n c, .pointer (some ⟨g18, 0, none⟩), .bool (decide (¬ ((l[k]!.Status) = 0))), .slice a n c, .int .i64 ((n : Nat) : Int), .int .i64 (k : Int), .bool (decide ((l[k]!.From) < 0))] hnehp143 (fun w157 hp158 => QB.mk (.cons (Ld.row1 (P := Try.prog) (t := 3) (o := 6) (v := .int .i64 (l[k]!.From)) hp158.get0 (by kernel_rfl)) .nil) (by kernel_rfl)) (fun b159 => ?_)
            by_cases h160 : (l[k]!.From) < 0
            · refine QOPS.batch 0 {} [] [0, 4, 5, 6, 7, 8, 36] [.slice a n c, .pointer (some ⟨g18, 0, none⟩), .bool (decide (¬ ((l[k]!.Status) = 0))), .slice a n c, .int .i64 ((n : Nat) : Int), .int .i64 (k : Int), .bool (decide ((l[k]!.From) < 0))] hnehp143 (fun _ _ => QB.mk .nil (by kernel_rfl)) (fun b161 => ?_)
              refine QOPS.re [.slice a n c, .pointer (some ⟨g18, 0, none⟩), .bool (decide (¬ ((l[k]!.Status) = 0))), .slice a n c, .int .i64 ((n : Nat) : Int), .int .i64 (k : Int), .bool true] (by rw [show (decide ((l[k]!.From) < 0)) = true from Bp.dec.tt h160]) ?_
              refine QOPS.batch 26 { wraps := [47, 53, 62] } [] [0, 6, 7, 8, 62] [.slice a n c, .slice a n c, .int .i64 ((n : Nat) : Int), .int .i64 (k : Int), .bool true] hnehp143 (fun w162 hp163 => QB.mk .nil (by kernel_rfl)) (fun b164 => ?_)
              refine QOPS.nil (fun w165 hp166 => ?_)
              refine thn_n ?_
              exact ⟨true, trivial, Bp.of Bp.t (by first | (simp only [h149, h160, iff_false, false_iff, iff_true, true_iff, Classical.not_not, and_true, true_and, and_false, false_and, or_true, true_or, or_false, false_or, not_true_eq_false, not_false_eq_true, and_self, or_self, iff_self]; done) | (simp [h149, h160]; done) | grind | (simp_all; done)), by kernel_rfl, hp166⟩
            · refine QOPS.batch 0 {} [] [0, 4, 5, 6, 7, 8, 36] [.slice a n c, .pointer (some ⟨g18, 0, none⟩), .bool (decide (¬ ((l[k]!.Status) = 0))), .slice a n c, .int .i64 ((n : Nat) : Int), .int .i64 (k : Int), .bool (decide ((l[k]!.From) < 0))] hnehp143 (fun _ _ => QB.mk .nil (by kernel_rfl)) (fun b167 => ?_)
              refine QOPS.re [.slice a n c, .pointer (some ⟨g18, 0, none⟩), .bool (decide (¬ ((l[k]!.Status) = 0))), .slice a n c, .int .i64 ((n : Nat) : Int), .int .i64 (k : Int), .bool false] (by rw [show (decide ((l[k]!.From) < 0)) = false from Bp.dec.ff h160]) ?_
              refine QOPS.batch 4 {} [.int .i64 (l[k]!.To)] [0, 4, 5, 6, 7, 8, 36, 40] [.slice a n c, .pointer (some ⟨g18, 0, none⟩), .bool (decide (¬ ((l[k]!.Status) = 0))), .slice a n c, .int .i64 ((n : Nat) : Int), .int .i64 (k : Int), .bool false, .bool (decide (¬ ((l[k]!.To) = (-1))))] hnehp143 (fun w168 hp169 => QB.mk (.cons (Ld.row1 (P := Try.prog) (t := 3) (o := 7) (v := .int .i64 (l[k]!.To)) hp169.get0 (by kernel_rfl)) .nil) (by kernel_rfl)) (fun b170 => ?_)
              by_cases h171 : (l[k]!.To) = (-1)
              · refine QOPS.batch 0 {} [] [0, 4, 5, 6, 7, 8, 36, 40] [.slice a n c, .pointer (some ⟨g18, 0, none⟩), .bool (decide (¬ ((l[k]!.Status) = 0))), .slice a n c, .int .i64 ((n : Nat) : Int), .int .i64 (k : Int), .bool false, .bool (decide (¬ ((l[k]!.To) = (-1))))] hnehp143 (fun _ _ => QB.mk .nil (by kernel_rfl)) (fun b211 => ?_)
                refine QOPS.re [.slice a n c, .pointer (some ⟨g18, 0, none⟩), .bool (decide (¬ ((l[k]!.Status) = 0))), .slice a n c, .int .i64 ((n : Nat) : Int), .int .i64 (k : Int), .bool false, .bool false] (by rw [show (decide (¬ ((l[k]!.To) = (-1)))) = false from Bp.dec.ff (fun k => k h171)]) ?_
                refine QOPS.batch 14 { wraps := [46, 47, 53] } [.bool (l[k]!.Open)] [0, 4, 6, 7, 8, 54] [.slice a n c, .pointer (some ⟨g18, 0, none⟩), .slice a n c, .int .i64 ((n : Nat) : Int), .int .i64 (k : Int), .bool (!((l[k]!.Open) == (decide (¬ ((l[k]!.Status) = 0)))))] hnehp143 (fun w212 hp213 => QB.mk (.cons (Ld.row1 (P := Try.prog) (t := 4) (o := 8) (v := .bool (l[k]!.Open)) hp213.get0 (by kernel_rfl)) .nil) (by kernel_rfl)) (fun b214 => ?_)
                by_cases h215 : (((l[k]!.Open) = true) ↔ (¬ ((l[k]!.Status) = 0)))
                · refine QOPS.batch 0 {} [] [0, 4, 6, 7, 8, 54] [.slice a n c, .pointer (some ⟨g18, 0, none⟩), .slice a n c, .int .i64 ((n : Nat) : Int), .int .i64 (k : Int), .bool (!((l[k]!.Open) == (decide (¬ ((l[k]!.Status) = 0)))))] hnehp143 (fun _ _ => QB.mk .nil (by kernel_rfl)) (fun b222 => ?_)
                  refine QOPS.re [.slice a n c, .pointer (some ⟨g18, 0, none⟩), .slice a n c, .int .i64 ((n : Nat) : Int), .int .i64 (k : Int), .bool false] (by rw [show (!((l[k]!.Open) == (decide (¬ ((l[k]!.Status) = 0))))) = false from (Bp.not (Bp.beq Bp.var Bp.dec)).ff (fun k => k h215)]) ?_
                  refine QOPS.batch 3 {} [.bool (l[k]!.Open)] [0, 4, 6, 7, 8, 54, 57] [.slice a n c, .pointer (some ⟨g18, 0, none⟩), .slice a n c, .int .i64 ((n : Nat) : Int), .int .i64 (k : Int), .bool false, .bool (l[k]!.Open)] hnehp143 (fun w223 hp224 => QB.mk (.cons (Ld.row1 (P := Try.prog) (t := 4) (o := 8) (v := .bool (l[k]!.Open)) hp224.get0 (by kernel_rfl)) .nil) (by kernel_rfl)) (fun b225 => ?_)
                  by_cases h226 : (l[k]!.Open) = true
                  · refine QOPS.batch 0 {} [] [0, 4, 6, 7, 8, 54, 57] [.slice a n c, .pointer (some ⟨g18, 0, none⟩), .slice a n c, .int .i64 ((n : Nat) : Int), .int .i64 (k : Int), .bool false, .bool (l[k]!.Open)] hnehp143 (fun _ _ => QB.mk .nil (by kernel_rfl)) (fun b227 => ?_)
                    refine QOPS.re [.slice a n c, .pointer (some ⟨g18, 0, none⟩), .slice a n c, .int .i64 ((n : Nat) : Int), .int .i64 (k : Int), .bool false, .bool true] (by rw [show (l[k]!.Open) = true from Bp.var.tt h226]) ?_
                    refine QOPS.batch 5 { wraps := [61, 62] } [.int .i64 (l[k]!.To)] [0, 6, 7, 8, 62] [.slice a n c, .slice a n c, .int .i64 ((n : Nat) : Int), .int .i64 (k : Int), .bool (decide (¬ ((l[k]!.To) = (-1))))] hnehp143 (fun w228 hp229 => QB.mk (.cons (Ld.row1 (P := Try.prog) (t := 3) (o := 7) (v := .int .i64 (l[k]!.To)) hp229.get0 (by kernel_rfl)) .nil) (by kernel_rfl)) (fun b230 => ?_)
                    refine QOPS.nil (fun w231 hp232 => ?_)
                    refine thn_n ?_
                    exact ⟨decide (¬ ((l[k]!.To) = (-1))), trivial, Bp.of Bp.dec (by first | (simp only [h149, h160, h171, h215, h226, iff_false, false_iff, iff_true, true_iff, Classical.not_not, and_true, true_and, and_false, false_and, or_true, true_or, or_false, false_or, not_true_eq_false, not_false_eq_true, and_self, or_self, iff_self]; done) | (simp [h149, h160, h171, h215, h226]; done) | grind | (simp_all; done)), by kernel_rfl, hp232⟩
                  · refine QOPS.batch 0 {} [] [0, 4, 6, 7, 8, 54, 57] [.slice a n c, .pointer (some ⟨g18, 0, none⟩), .slice a n c, .int .i64 ((n : Nat) : Int), .int .i64 (k : Int), .bool false, .bool (l[k]!.Open)] hnehp143 (fun _ _ => QB.mk .nil (by kernel_rfl)) (fun b233 => ?_)
                    refine QOPS.re [.slice a n c, .pointer (some ⟨g18, 0, none⟩), .slice a n c, .int .i64 ((n : Nat) : Int), .int .i64 (k : Int), .bool false, .bool false] (by rw [show (l[k]!.Open) = false from Bp.var.ff h226]) ?_
                    refine QOPS.batch 5 { wraps := [61, 62] } [] [0, 6, 7, 8, 62] [.slice a n c, .slice a n c, .int .i64 ((n : Nat) : Int), .int .i64 (k : Int), .bool false] hnehp143 (fun w234 hp235 => QB.mk .nil (by kernel_rfl)) (fun b236 => ?_)
                    refine QOPS.nil (fun w237 hp238 => ?_)
                    refine thn_n ?_
                    exact ⟨false, trivial, Bp.of Bp.f (by first | (simp only [h149, h160, h171, h215, h226, iff_false, false_iff, iff_true, true_iff, Classical.not_not, and_true, true_and, and_false, false_and, or_true, true_or, or_false, false_or, not_true_eq_false, not_false_eq_true, and_self, or_self, iff_self]; done) | (simp [h149, h160, h171, h215, h226]; done) | grind | (simp_all; done)), by kernel_rfl, hp238⟩
                · refine QOPS.batch 0 {} [] [0, 4, 6, 7, 8, 54] [.slice a n c, .pointer (some ⟨g18, 0, none⟩), .slice a n c, .int .i64 ((n : Nat) : Int), .int .i64 (k : Int), .bool (!((l[k]!.Open) == (decide (¬ ((l[k]!.Status) = 0)))))] hnehp143 (fun _ _ => QB.mk .nil (by kernel_rfl)) (fun b216 => ?_)
                  refine QOPS.re [.slice a n c, .pointer (some ⟨g18, 0, none⟩), .slice a n c, .int .i64 ((n : Nat) : Int), .int .i64 (k : Int), .bool true] (by rw [show (!((l[k]!.Open) == (decide (¬ ((l[k]!.Status) = 0))))) = true from (Bp.not (Bp.beq Bp.var Bp.dec)).tt h215]) ?_
                  refine QOPS.batch 8 { wraps := [62] } [] [0, 6, 7, 8, 62] [.slice a n c, .slice a n c, .int .i64 ((n : Nat) : Int), .int .i64 (k : Int), .bool true] hnehp143 (fun w217 hp218 => QB.mk .nil (by kernel_rfl)) (fun b219 => ?_)
                  refine QOPS.nil (fun w220 hp221 => ?_)
                  refine thn_n ?_
                  exact ⟨true, trivial, Bp.of Bp.t (by first | (simp only [h149, h160, h171, h215, iff_false, false_iff, iff_true, true_iff, Classical.not_not, and_true, true_and, and_false, false_and, or_true, true_or, or_false, false_or, not_true_eq_false, not_false_eq_true, and_self, or_self, iff_self]; done) | (simp [h149, h160, h171, h215]; done) | grind | (simp_all; done)), by kernel_rfl, hp221⟩
              · refine QOPS.batch 0 {} [] [0, 4, 5, 6, 7, 8, 36, 40] [.slice a n c, .pointer (some ⟨g18, 0, none⟩), .bool (decide (¬ ((l[k]!.Status) = 0))), .slice a n c, .int .i64 ((n : Nat) : Int), .int .i64 (k : Int), .bool false, .bool (decide (¬ ((l[k]!.To) = (-1))))] hnehp143 (fun _ _ => QB.mk .nil (by kernel_rfl)) (fun b172 => ?_)
                refine QOPS.re [.slice a n c, .pointer (some ⟨g18, 0, none⟩), .bool (decide (¬ ((l[k]!.Status) = 0))), .slice a n c, .int .i64 ((n : Nat) : Int), .int .i64 (k : Int), .bool false, .bool true] (by rw [show (decide (¬ ((l[k]!.To) = (-1)))) = true from Bp.dec.tt h171]) ?_
                refine QOPS.batch 8 { wraps := [46, 47] } [.int .i64 (l[k]!.To), .int .i64 (l[k]!.From)] [0, 4, 5, 6, 7, 8, 48] [.slice a n c, .pointer (some ⟨g18, 0, none⟩), .bool (decide (¬ ((l[k]!.Status) = 0))), .slice a n c, .int .i64 ((n : Nat) : Int), .int .i64 (k : Int), .bool (decide ((l[k]!.To) ≤ (l[k]!.From)))] hnehp143 (fun w173 hp174 => QB.mk (.cons (Ld.row1 (P := Try.prog) (t := 3) (o := 7) (v := .int .i64 (l[k]!.To)) hp174.get0 (by kernel_rfl)) (.cons (Ld.row1 (P := Try.prog) (t := 3) (o := 6) (v := .int .i64 (l[k]!.From)) hp174.get0 (by kernel_rfl)) .nil)) (by kernel_rfl)) (fun b175 => ?_)
                by_cases h176 : (l[k]!.To) ≤ (l[k]!.From)
                · refine QOPS.batch 0 {} [] [0, 4, 5, 6, 7, 8, 48] [.slice a n c, .pointer (some ⟨g18, 0, none⟩), .bool (decide (¬ ((l[k]!.Status) = 0))), .slice a n c, .int .i64 ((n : Nat) : Int), .int .i64 (k : Int), .bool (decide ((l[k]!.To) ≤ (l[k]!.From)))] hnehp143 (fun _ _ => QB.mk .nil (by kernel_rfl)) (fun b177 => ?_)
                  refine QOPS.re [.slice a n c, .pointer (some ⟨g18, 0, none⟩), .bool (decide (¬ ((l[k]!.Status) = 0))), .slice a n c, .int .i64 ((n : Nat) : Int), .int .i64 (k : Int), .bool true] (by rw [show (decide ((l[k]!.To) ≤ (l[k]!.From))) = true from Bp.dec.tt h176]) ?_
                  refine QOPS.batch 14 { wraps := [53, 62] } [] [0, 6, 7, 8, 62] [.slice a n c, .slice a n c, .int .i64 ((n : Nat) : Int), .int .i64 (k : Int), .bool true] hnehp143 (fun w178 hp179 => QB.mk .nil (by kernel_rfl)) (fun b180 => ?_)
                  refine QOPS.nil (fun w181 hp182 => ?_)
                  refine thn_n ?_
                  exact ⟨true, trivial, Bp.of Bp.t (by first | (simp only [h149, h160, h171, h176, iff_false, false_iff, iff_true, true_iff, Classical.not_not, and_true, true_and, and_false, false_and, or_true, true_or, or_false, false_or, not_true_eq_false, not_false_eq_true, and_self, or_self, iff_self]; done) | (simp [h149, h160, h171, h176]; done) | grind | (simp_all; done)), by kernel_rfl, hp182⟩
                · refine QOPS.batch 0 {} [] [0, 4, 5, 6, 7, 8, 48] [.slice a n c, .pointer (some ⟨g18, 0, none⟩), .bool (decide (¬ ((l[k]!.Status) = 0))), .slice a n c, .int .i64 ((n : Nat) : Int), .int .i64 (k : Int), .bool (decide ((l[k]!.To) ≤ (l[k]!.From)))] hnehp143 (fun _ _ => QB.mk .nil (by kernel_rfl)) (fun b183 => ?_)
                  refine QOPS.re [.slice a n c, .pointer (some ⟨g18, 0, none⟩), .bool (decide (¬ ((l[k]!.Status) = 0))), .slice a n c, .int .i64 ((n : Nat) : Int), .int .i64 (k : Int), .bool false] (by rw [show (decide ((l[k]!.To) ≤ (l[k]!.From))) = false from Bp.dec.ff h176]) ?_
                  refine QOPS.batch 6 { wraps := [53] } [.bool (l[k]!.Open)] [0, 4, 6, 7, 8, 54] [.slice a n c, .pointer (some ⟨g18, 0, none⟩), .slice a n c, .int .i64 ((n : Nat) : Int), .int .i64 (k : Int), .bool (!((l[k]!.Open) == (decide (¬ ((l[k]!.Status) = 0)))))] hnehp143 (fun w184 hp185 => QB.mk (.cons (Ld.row1 (P := Try.prog) (t := 4) (o := 8) (v := .bool (l[k]!.Open)) hp185.get0 (by kernel_rfl)) .nil) (by kernel_rfl)) (fun b186 => ?_)
                  by_cases h187 : (((l[k]!.Open) = true) ↔ (¬ ((l[k]!.Status) = 0)))
                  · refine QOPS.batch 0 {} [] [0, 4, 6, 7, 8, 54] [.slice a n c, .pointer (some ⟨g18, 0, none⟩), .slice a n c, .int .i64 ((n : Nat) : Int), .int .i64 (k : Int), .bool (!((l[k]!.Open) == (decide (¬ ((l[k]!.Status) = 0)))))] hnehp143 (fun _ _ => QB.mk .nil (by kernel_rfl)) (fun b194 => ?_)
                    refine QOPS.re [.slice a n c, .pointer (some ⟨g18, 0, none⟩), .slice a n c, .int .i64 ((n : Nat) : Int), .int .i64 (k : Int), .bool false] (by rw [show (!((l[k]!.Open) == (decide (¬ ((l[k]!.Status) = 0))))) = false from (Bp.not (Bp.beq Bp.var Bp.dec)).ff (fun k => k h187)]) ?_
                    refine QOPS.batch 3 {} [.bool (l[k]!.Open)] [0, 4, 6, 7, 8, 54, 57] [.slice a n c, .pointer (some ⟨g18, 0, none⟩), .slice a n c, .int .i64 ((n : Nat) : Int), .int .i64 (k : Int), .bool false, .bool (l[k]!.Open)] hnehp143 (fun w195 hp196 => QB.mk (.cons (Ld.row1 (P := Try.prog) (t := 4) (o := 8) (v := .bool (l[k]!.Open)) hp196.get0 (by kernel_rfl)) .nil) (by kernel_rfl)) (fun b197 => ?_)
                    by_cases h198 : (l[k]!.Open) = true
                    · refine QOPS.batch 0 {} [] [0, 4, 6, 7, 8, 54, 57] [.slice a n c, .pointer (some ⟨g18, 0, none⟩), .slice a n c, .int .i64 ((n : Nat) : Int), .int .i64 (k : Int), .bool false, .bool (l[k]!.Open)] hnehp143 (fun _ _ => QB.mk .nil (by kernel_rfl)) (fun b199 => ?_)
                      refine QOPS.re [.slice a n c, .pointer (some ⟨g18, 0, none⟩), .slice a n c, .int .i64 ((n : Nat) : Int), .int .i64 (k : Int), .bool false, .bool true] (by rw [show (l[k]!.Open) = true from Bp.var.tt h198]) ?_
                      refine QOPS.batch 5 { wraps := [61, 62] } [.int .i64 (l[k]!.To)] [0, 6, 7, 8, 62] [.slice a n c, .slice a n c, .int .i64 ((n : Nat) : Int), .int .i64 (k : Int), .bool (decide (¬ ((l[k]!.To) = (-1))))] hnehp143 (fun w200 hp201 => QB.mk (.cons (Ld.row1 (P := Try.prog) (t := 3) (o := 7) (v := .int .i64 (l[k]!.To)) hp201.get0 (by kernel_rfl)) .nil) (by kernel_rfl)) (fun b202 => ?_)
                      refine QOPS.nil (fun w203 hp204 => ?_)
                      refine thn_n ?_
                      exact ⟨decide (¬ ((l[k]!.To) = (-1))), trivial, Bp.of Bp.dec (by first | (simp only [h149, h160, h171, h176, h187, h198, iff_false, false_iff, iff_true, true_iff, Classical.not_not, and_true, true_and, and_false, false_and, or_true, true_or, or_false, false_or, not_true_eq_false, not_false_eq_true, and_self, or_self, iff_self]; done) | (simp [h149, h160, h171, h176, h187, h198]; done) | grind | (simp_all; done)), by kernel_rfl, hp204⟩
                    · refine QOPS.batch 0 {} [] [0, 4, 6, 7, 8, 54, 57] [.slice a n c, .pointer (some ⟨g18, 0, none⟩), .slice a n c, .int .i64 ((n : Nat) : Int), .int .i64 (k : Int), .bool false, .bool (l[k]!.Open)] hnehp143 (fun _ _ => QB.mk .nil (by kernel_rfl)) (fun b205 => ?_)
                      refine QOPS.re [.slice a n c, .pointer (some ⟨g18, 0, none⟩), .slice a n c, .int .i64 ((n : Nat) : Int), .int .i64 (k : Int), .bool false, .bool false] (by rw [show (l[k]!.Open) = false from Bp.var.ff h198]) ?_
                      refine QOPS.batch 5 { wraps := [61, 62] } [] [0, 6, 7, 8, 62] [.slice a n c, .slice a n c, .int .i64 ((n : Nat) : Int), .int .i64 (k : Int), .bool false] hnehp143 (fun w206 hp207 => QB.mk .nil (by kernel_rfl)) (fun b208 => ?_)
                      refine QOPS.nil (fun w209 hp210 => ?_)
                      refine thn_n ?_
                      exact ⟨false, trivial, Bp.of Bp.f (by first | (simp only [h149, h160, h171, h176, h187, h198, iff_false, false_iff, iff_true, true_iff, Classical.not_not, and_true, true_and, and_false, false_and, or_true, true_or, or_false, false_or, not_true_eq_false, not_false_eq_true, and_self, or_self, iff_self]; done) | (simp [h149, h160, h171, h176, h187, h198]; done) | grind | (simp_all; done)), by kernel_rfl, hp210⟩
                  · refine QOPS.batch 0 {} [] [0, 4, 6, 7, 8, 54] [.slice a n c, .pointer (some ⟨g18, 0, none⟩), .slice a n c, .int .i64 ((n : Nat) : Int), .int .i64 (k : Int), .bool (!((l[k]!.Open) == (decide (¬ ((l[k]!.Status) = 0)))))] hnehp143 (fun _ _ => QB.mk .nil (by kernel_rfl)) (fun b188 => ?_)
                    refine QOPS.re [.slice a n c, .pointer (some ⟨g18, 0, none⟩), .slice a n c, .int .i64 ((n : Nat) : Int), .int .i64 (k : Int), .bool true] (by rw [show (!((l[k]!.Open) == (decide (¬ ((l[k]!.Status) = 0))))) = true from (Bp.not (Bp.beq Bp.var Bp.dec)).tt h187]) ?_
                    refine QOPS.batch 8 { wraps := [62] } [] [0, 6, 7, 8, 62] [.slice a n c, .slice a n c, .int .i64 ((n : Nat) : Int), .int .i64 (k : Int), .bool true] hnehp143 (fun w189 hp190 => QB.mk .nil (by kernel_rfl)) (fun b191 => ?_)
                    refine QOPS.nil (fun w192 hp193 => ?_)
                    refine thn_n ?_
                    exact ⟨true, trivial, Bp.of Bp.t (by first | (simp only [h149, h160, h171, h176, h187, iff_false, false_iff, iff_true, true_iff, Classical.not_not, and_true, true_and, and_false, false_and, or_true, true_or, or_false, false_or, not_true_eq_false, not_false_eq_true, and_self, or_self, iff_self]; done) | (simp [h149, h160, h171, h176, h187]; done) | grind | (simp_all; done)), by kernel_rfl, hp193⟩
          · refine QOPS.batch 0 {} [] [0, 4, 5, 6, 7, 8, 31] [.slice a n c, .pointer (some ⟨g18, 0, none⟩), .bool (decide (¬ ((l[k]!.Status) = 0))), .slice a n c, .int .i64 ((n : Nat) : Int), .int .i64 (k : Int), .bool (decide (¬ ((l[k]!.Key) = (l[0]!.Key))))] hnehp143 (fun _ _ => QB.mk .nil (by kernel_rfl)) (fun b150 => ?_)
            refine QOPS.re [.slice a n c, .pointer (some ⟨g18, 0, none⟩), .bool (decide (¬ ((l[k]!.Status) = 0))), .slice a n c, .int .i64 ((n : Nat) : Int), .int .i64 (k : Int), .bool true] (by rw [show (decide (¬ ((l[k]!.Key) = (l[0]!.Key)))) = true from Bp.dec.tt h149]) ?_
            refine QOPS.batch 31 { wraps := [35, 47, 53, 62] } [] [0, 6, 7, 8, 62] [.slice a n c, .slice a n c, .int .i64 ((n : Nat) : Int), .int .i64 (k : Int), .bool true] hnehp143 (fun w151 hp152 => QB.mk .nil (by kernel_rfl)) (fun b153 => ?_)
            refine QOPS.nil (fun w154 hp155 => ?_)
            refine thn_n ?_
            exact ⟨true, trivial, Bp.of Bp.t (by first | (simp only [h149, iff_false, false_iff, iff_true, true_iff, Classical.not_not, and_true, true_and, and_false, false_and, or_true, true_or, or_false, false_or, not_true_eq_false, not_false_eq_true, and_self, or_self, iff_self]; done) | (simp [h149]; done) | grind | (simp_all; done)), by kernel_rfl, hp155⟩
        rintro e241 w242 ⟨x239, hd244, hb240, hE245, hp243⟩
        obtain ⟨b246, rfl⟩ := toMk hE245
        clear hE245
        clear hd244
        refine WP.test (p := ((¬ ((l[k]!.Key) = (l[0]!.Key)))) ∨ (((l[k]!.Key) = (l[0]!.Key)) ∧ ((l[k]!.From) < 0)) ∨ (((l[k]!.Key) = (l[0]!.Key)) ∧ (¬ ((l[k]!.From) < 0)) ∧ (¬ ((l[k]!.To) = (-1))) ∧ ((l[k]!.To) ≤ (l[k]!.From))) ∨ (((l[k]!.Key) = (l[0]!.Key)) ∧ (¬ ((l[k]!.From) < 0)) ∧ (¬ ((l[k]!.To) = (-1))) ∧ (¬ ((l[k]!.To) ≤ (l[k]!.From))) ∧ (¬ ((((l[k]!.Open) = true) ↔ (¬ ((l[k]!.Status) = 0)))))) ∨ (((l[k]!.Key) = (l[0]!.Key)) ∧ (¬ ((l[k]!.From) < 0)) ∧ (¬ ((l[k]!.To) = (-1))) ∧ (¬ ((l[k]!.To) ≤ (l[k]!.From))) ∧ (((l[k]!.Open) = true) ↔ (¬ ((l[k]!.Status) = 0))) ∧ ((l[k]!.Open) = true) ∧ (¬ ((l[k]!.To) = (-1)))) ∨ (((l[k]!.Key) = (l[0]!.Key)) ∧ (¬ ((l[k]!.From) < 0)) ∧ ((l[k]!.To) = (-1)) ∧ (¬ ((((l[k]!.Open) = true) ↔ (¬ ((l[k]!.Status) = 0)))))) ∨ (((l[k]!.Key) = (l[0]!.Key)) ∧ (¬ ((l[k]!.From) < 0)) ∧ ((l[k]!.To) = (-1)) ∧ (((l[k]!.Open) = true) ↔ (¬ ((l[k]!.Status) = 0))) ∧ ((l[k]!.Open) = true) ∧ (¬ ((l[k]!.To) = (-1))))) rfl hb240 (fun h247 => ?_) (fun h247 => ?_)
        · refine WP.seq ?_
          refine WP.pure {} [] [2] [.bool false] .nil (by kernel_rfl) (fun b248 => ?_)
          refine thn_n ?_
          refine WP.ret ?_
          refine blk_r ?_
          refine thn_r ?_
          refine thn_r ?_
          refine blk_r ?_
          refine thn_r ?_
          refine bodyQ.of _ rfl [.bool false] ⟨rfl, trivial⟩ ?_
          exact ⟨_, rfl, Bp.of Bp.f (by simp only [false_iff]; intro q; have q_ := q k (by omega); simp only [fitC, openP] at q_; have h_ := h247; grind), hp243.fr⟩
        · refine WP.skip ?_
          refine blk_n ?_
          refine thn_n ?_
          refine WP.pure {} [] [0, 6, 7, 8] [.slice a n c, .slice a n c, .int .i64 ((n : Nat) : Int), .int .i64 ((k : Int) + 1)] (.cons (show Rng .i64 ((k : Int) + 1) from Rng.i64 (by omega)) .nil) (by kernel_rfl) (fun b249 => ?_)
          refine thn_n ?_
          exact ⟨l.length - (k + 1), (by omega), k + 1, rfl, ⟨by omega, fun i hi => by by_cases e : i = k; subst e; exact (by simp only [fitC, openP]; have h_ := h247; grind); exact pb i (by omega)⟩, by kernel_rfl, (hp243.sub (.cons _ (.slnil)))⟩
    · refine OPS.batch 0 {} [] [0, 4, 6, 7, 8, 14] [.slice a n c, .pointer (some ⟨g18, 0, none⟩), .slice a n c, .int .i64 ((n : Nat) : Int), .int .i64 (k : Int), .bool (l[k]!.Put)] .nil (by kernel_rfl) (fun b250 => ?_)
      refine OPS.re [.slice a n c, .pointer (some ⟨g18, 0, none⟩), .slice a n c, .int .i64 ((n : Nat) : Int), .int .i64 (k : Int), .bool false] (by rw [show (l[k]!.Put) = false from Bp.var.ff h22]) ?_
      refine OPS.batch 10 { wraps := [23] } [] [0, 4, 5, 6, 7, 8] [.slice a n c, .pointer (some ⟨g18, 0, none⟩), .bool false, .slice a n c, .int .i64 ((n : Nat) : Int), .int .i64 (k : Int)] .nil (by kernel_rfl) (fun b251 => ?_)
      refine OPS.nil ?_
      refine thn_n ?_
      refine WP.cut (fun e353 w354 => ∃ (x351 : Bool), (True) ∧ Bp x351 (((¬ ((l[k]!.Key) = (l[0]!.Key)))) ∨ (((l[k]!.Key) = (l[0]!.Key)) ∧ ((l[k]!.From) < 0)) ∨ (((l[k]!.Key) = (l[0]!.Key)) ∧ (¬ ((l[k]!.From) < 0)) ∧ (¬ ((l[k]!.To) = (-1))) ∧ ((l[k]!.To) ≤ (l[k]!.From))) ∨ (((l[k]!.Key) = (l[0]!.Key)) ∧ (¬ ((l[k]!.From) < 0)) ∧ (¬ ((l[k]!.To) = (-1))) ∧ (¬ ((l[k]!.To) ≤ (l[k]!.From))) ∧ (¬ ((((l[k]!.Open) = true) ↔ (False))))) ∨ (((l[k]!.Key) = (l[0]!.Key)) ∧ (¬ ((l[k]!.From) < 0)) ∧ (¬ ((l[k]!.To) = (-1))) ∧ (¬ ((l[k]!.To) ≤ (l[k]!.From))) ∧ (((l[k]!.Open) = true) ↔ (False)) ∧ ((l[k]!.Open) = true) ∧ (¬ ((l[k]!.To) = (-1)))) ∨ (((l[k]!.Key) = (l[0]!.Key)) ∧ (¬ ((l[k]!.From) < 0)) ∧ ((l[k]!.To) = (-1)) ∧ (¬ ((((l[k]!.Open) = true) ↔ (False))))) ∨ (((l[k]!.Key) = (l[0]!.Key)) ∧ (¬ ((l[k]!.From) < 0)) ∧ ((l[k]!.To) = (-1)) ∧ (((l[k]!.Open) = true) ↔ (False)) ∧ ((l[k]!.Open) = true) ∧ (¬ ((l[k]!.To) = (-1))))) ∧ List.map e353 [0, 6, 7, 8, 62] = [.slice a n c, .slice a n c, .int .i64 ((n : Nat) : Int), .int .i64 (k : Int), .bool x351] ∧ Hp w Non [Res.row g18 [.int .i64 (l[k]!.Client), .int .i64 (l[k]!.Op), .bool (l[k]!.Put), .string (l[k]!.Key), .slice (l[k]!.Value.a) (l[k]!.Value.n) (l[k]!.Value.c), .int .i64 (l[k]!.Status), .int .i64 (l[k]!.From), .int .i64 (l[k]!.To), .bool (l[k]!.Open), .int .i64 (l[k]!.Tag.Count), .int .i64 (l[k]!.Tag.Client)] 73] w354) ?_ ?_
      · have hp255 := hp20.drew
        refine WP.quiet (fun w253 => Hp w Non [Res.row g18 [.int .i64 (l[k]!.Client), .int .i64 (l[k]!.Op), .bool (l[k]!.Put), .string (l[k]!.Key), .slice (l[k]!.Value.a) (l[k]!.Value.n) (l[k]!.Value.c), .int .i64 (l[k]!.Status), .int .i64 (l[k]!.From), .int .i64 (l[k]!.To), .bool (l[k]!.Open), .int .i64 (l[k]!.Tag.Count), .int .i64 (l[k]!.Tag.Client)] 73] w253) (by kernel_rfl) hp255 ?_
        have hnehp255 : ∃ wz_, (fun w253 => Hp w Non [Res.row g18 [.int .i64 (l[k]!.Client), .int .i64 (l[k]!.Op), .bool (l[k]!.Put), .string (l[k]!.Key), .slice (l[k]!.Value.a) (l[k]!.Value.n) (l[k]!.Value.c), .int .i64 (l[k]!.Status), .int .i64 (l[k]!.From), .int .i64 (l[k]!.To), .bool (l[k]!.Open), .int .i64 (l[k]!.Tag.Count), .int .i64 (l[k]!.Tag.Client)] 73] w253) wz_ := ⟨_, hp255⟩
        have hy259 : (l)[0]? = some l[0]! := get_bang (by first | (omega) | (simp only [List.length_append, List.length_cons, List.length_nil]; omega) | (simp only [List.length_take, List.length_append, List.length_cons, List.length_nil]; omega))
        refine QOPS.batch 8 {} [.string (l[k]!.Key), .string (l[0]!.Key)] [0, 4, 5, 6, 7, 8, 31] [.slice a n c, .pointer (some ⟨g18, 0, none⟩), .bool false, .slice a n c, .int .i64 ((n : Nat) : Int), .int .i64 (k : Int), .bool (decide (¬ ((l[k]!.Key) = (l[0]!.Key))))] hnehp255 (fun w256 hp257 => QB.mk (.cons (Ld.row1 (P := Try.prog) (t := 9) (o := 3) (v := .string (l[k]!.Key)) hp257.get0 (by kernel_rfl)) (.cons (show InB (0) (n) from ⟨by omega, by omega⟩) (.cons ((hs.at hp257).some (by omega)) (.cons (Ld.el1 (P := Try.prog) (t := 9) (hs.at hp257).rd 11 (fun _ => rfl) hy259 (o := 3) (v := .string (l[0]!.Key)) (by kernel_rfl)) .nil)))) (by kernel_rfl)) (fun b260 => ?_)
        by_cases h261 : (l[k]!.Key) = (l[0]!.Key)
        · refine QOPS.batch 0 {} [] [0, 4, 5, 6, 7, 8, 31] [.slice a n c, .pointer (some ⟨g18, 0, none⟩), .bool false, .slice a n c, .int .i64 ((n : Nat) : Int), .int .i64 (k : Int), .bool (decide (¬ ((l[k]!.Key) = (l[0]!.Key))))] hnehp255 (fun _ _ => QB.mk .nil (by kernel_rfl)) (fun b268 => ?_)
          refine QOPS.re [.slice a n c, .pointer (some ⟨g18, 0, none⟩), .bool false, .slice a n c, .int .i64 ((n : Nat) : Int), .int .i64 (k : Int), .bool false] (by rw [show (decide (¬ ((l[k]!.Key) = (l[0]!.Key)))) = false from Bp.dec.ff (fun k => k h261)]) ?_
          refine QOPS.batch 5 { wraps := [35] } [.int .i64 (l[k]!.From)] [0, 4, 5, 6, 7, 8, 36] [.slice a n c, .pointer (some ⟨g18, 0, none⟩), .bool false, .slice a n c, .int .i64 ((n : Nat) : Int), .int .i64 (k : Int), .bool (decide ((l[k]!.From) < 0))] hnehp255 (fun w269 hp270 => QB.mk (.cons (Ld.row1 (P := Try.prog) (t := 3) (o := 6) (v := .int .i64 (l[k]!.From)) hp270.get0 (by kernel_rfl)) .nil) (by kernel_rfl)) (fun b271 => ?_)
          by_cases h272 : (l[k]!.From) < 0
          · refine QOPS.batch 0 {} [] [0, 4, 5, 6, 7, 8, 36] [.slice a n c, .pointer (some ⟨g18, 0, none⟩), .bool false, .slice a n c, .int .i64 ((n : Nat) : Int), .int .i64 (k : Int), .bool (decide ((l[k]!.From) < 0))] hnehp255 (fun _ _ => QB.mk .nil (by kernel_rfl)) (fun b273 => ?_)
            refine QOPS.re [.slice a n c, .pointer (some ⟨g18, 0, none⟩), .bool false, .slice a n c, .int .i64 ((n : Nat) : Int), .int .i64 (k : Int), .bool true] (by rw [show (decide ((l[k]!.From) < 0)) = true from Bp.dec.tt h272]) ?_
            refine QOPS.batch 26 { wraps := [47, 53, 62] } [] [0, 6, 7, 8, 62] [.slice a n c, .slice a n c, .int .i64 ((n : Nat) : Int), .int .i64 (k : Int), .bool true] hnehp255 (fun w274 hp275 => QB.mk .nil (by kernel_rfl)) (fun b276 => ?_)
            refine QOPS.nil (fun w277 hp278 => ?_)
            refine thn_n ?_
            exact ⟨true, trivial, Bp.of Bp.t (by first | (simp only [h261, h272, iff_false, false_iff, iff_true, true_iff, Classical.not_not, and_true, true_and, and_false, false_and, or_true, true_or, or_false, false_or, not_true_eq_false, not_false_eq_true, and_self, or_self, iff_self]; done) | (simp [h261, h272]; done) | grind | (simp_all; done)), by kernel_rfl, hp278⟩
          · refine QOPS.batch 0 {} [] [0, 4, 5, 6, 7, 8, 36] [.slice a n c, .pointer (some ⟨g18, 0, none⟩), .bool false, .slice a n c, .int .i64 ((n : Nat) : Int), .int .i64 (k : Int), .bool (decide ((l[k]!.From) < 0))] hnehp255 (fun _ _ => QB.mk .nil (by kernel_rfl)) (fun b279 => ?_)
            refine QOPS.re [.slice a n c, .pointer (some ⟨g18, 0, none⟩), .bool false, .slice a n c, .int .i64 ((n : Nat) : Int), .int .i64 (k : Int), .bool false] (by rw [show (decide ((l[k]!.From) < 0)) = false from Bp.dec.ff h272]) ?_
            refine QOPS.batch 4 {} [.int .i64 (l[k]!.To)] [0, 4, 5, 6, 7, 8, 36, 40] [.slice a n c, .pointer (some ⟨g18, 0, none⟩), .bool false, .slice a n c, .int .i64 ((n : Nat) : Int), .int .i64 (k : Int), .bool false, .bool (decide (¬ ((l[k]!.To) = (-1))))] hnehp255 (fun w280 hp281 => QB.mk (.cons (Ld.row1 (P := Try.prog) (t := 3) (o := 7) (v := .int .i64 (l[k]!.To)) hp281.get0 (by kernel_rfl)) .nil) (by kernel_rfl)) (fun b282 => ?_)
            by_cases h283 : (l[k]!.To) = (-1)
            · refine QOPS.batch 0 {} [] [0, 4, 5, 6, 7, 8, 36, 40] [.slice a n c, .pointer (some ⟨g18, 0, none⟩), .bool false, .slice a n c, .int .i64 ((n : Nat) : Int), .int .i64 (k : Int), .bool false, .bool (decide (¬ ((l[k]!.To) = (-1))))] hnehp255 (fun _ _ => QB.mk .nil (by kernel_rfl)) (fun b323 => ?_)
              refine QOPS.re [.slice a n c, .pointer (some ⟨g18, 0, none⟩), .bool false, .slice a n c, .int .i64 ((n : Nat) : Int), .int .i64 (k : Int), .bool false, .bool false] (by rw [show (decide (¬ ((l[k]!.To) = (-1)))) = false from Bp.dec.ff (fun k => k h283)]) ?_
              refine QOPS.batch 14 { wraps := [46, 47, 53] } [.bool (l[k]!.Open)] [0, 4, 6, 7, 8, 54] [.slice a n c, .pointer (some ⟨g18, 0, none⟩), .slice a n c, .int .i64 ((n : Nat) : Int), .int .i64 (k : Int), .bool (!((l[k]!.Open) == false))] hnehp255 (fun w324 hp325 => QB.mk (.cons (Ld.row1 (P := Try.prog) (t := 4) (o := 8) (v := .bool (l[k]!.Open)) hp325.get0 (by kernel_rfl)) .nil) (by kernel_rfl)) (fun b326 => ?_)
              by_cases h327 : (((l[k]!.Open) = true) ↔ (False))
              · refine QOPS.batch 0 {} [] [0, 4, 6, 7, 8, 54] [.slice a n c, .pointer (some ⟨g18, 0, none⟩), .slice a n c, .int .i64 ((n : Nat) : Int), .int .i64 (k : Int), .bool (!((l[k]!.Open) == false))] hnehp255 (fun _ _ => QB.mk .nil (by kernel_rfl)) (fun b334 => ?_)
                refine QOPS.re [.slice a n c, .pointer (some ⟨g18, 0, none⟩), .slice a n c, .int .i64 ((n : Nat) : Int), .int .i64 (k : Int), .bool false] (by rw [show (!((l[k]!.Open) == false)) = false from (Bp.not (Bp.beq Bp.var Bp.f)).ff (fun k => k h327)]) ?_
                refine QOPS.batch 3 {} [.bool (l[k]!.Open)] [0, 4, 6, 7, 8, 54, 57] [.slice a n c, .pointer (some ⟨g18, 0, none⟩), .slice a n c, .int .i64 ((n : Nat) : Int), .int .i64 (k : Int), .bool false, .bool (l[k]!.Open)] hnehp255 (fun w335 hp336 => QB.mk (.cons (Ld.row1 (P := Try.prog) (t := 4) (o := 8) (v := .bool (l[k]!.Open)) hp336.get0 (by kernel_rfl)) .nil) (by kernel_rfl)) (fun b337 => ?_)
                by_cases h338 : (l[k]!.Open) = true
                · refine QOPS.batch 0 {} [] [0, 4, 6, 7, 8, 54, 57] [.slice a n c, .pointer (some ⟨g18, 0, none⟩), .slice a n c, .int .i64 ((n : Nat) : Int), .int .i64 (k : Int), .bool false, .bool (l[k]!.Open)] hnehp255 (fun _ _ => QB.mk .nil (by kernel_rfl)) (fun b339 => ?_)
                  refine QOPS.re [.slice a n c, .pointer (some ⟨g18, 0, none⟩), .slice a n c, .int .i64 ((n : Nat) : Int), .int .i64 (k : Int), .bool false, .bool true] (by rw [show (l[k]!.Open) = true from Bp.var.tt h338]) ?_
                  refine QOPS.batch 5 { wraps := [61, 62] } [.int .i64 (l[k]!.To)] [0, 6, 7, 8, 62] [.slice a n c, .slice a n c, .int .i64 ((n : Nat) : Int), .int .i64 (k : Int), .bool (decide (¬ ((l[k]!.To) = (-1))))] hnehp255 (fun w340 hp341 => QB.mk (.cons (Ld.row1 (P := Try.prog) (t := 3) (o := 7) (v := .int .i64 (l[k]!.To)) hp341.get0 (by kernel_rfl)) .nil) (by kernel_rfl)) (fun b342 => ?_)
                  refine QOPS.nil (fun w343 hp344 => ?_)
                  refine thn_n ?_
                  exact ⟨decide (¬ ((l[k]!.To) = (-1))), trivial, Bp.of Bp.dec (by first | (simp only [h261, h272, h283, h327, h338, iff_false, false_iff, iff_true, true_iff, Classical.not_not, and_true, true_and, and_false, false_and, or_true, true_or, or_false, false_or, not_true_eq_false, not_false_eq_true, and_self, or_self, iff_self]; done) | (simp [h261, h272, h283, h327, h338]; done) | grind | (simp_all; done)), by kernel_rfl, hp344⟩
                · refine QOPS.batch 0 {} [] [0, 4, 6, 7, 8, 54, 57] [.slice a n c, .pointer (some ⟨g18, 0, none⟩), .slice a n c, .int .i64 ((n : Nat) : Int), .int .i64 (k : Int), .bool false, .bool (l[k]!.Open)] hnehp255 (fun _ _ => QB.mk .nil (by kernel_rfl)) (fun b345 => ?_)
                  refine QOPS.re [.slice a n c, .pointer (some ⟨g18, 0, none⟩), .slice a n c, .int .i64 ((n : Nat) : Int), .int .i64 (k : Int), .bool false, .bool false] (by rw [show (l[k]!.Open) = false from Bp.var.ff h338]) ?_
                  refine QOPS.batch 5 { wraps := [61, 62] } [] [0, 6, 7, 8, 62] [.slice a n c, .slice a n c, .int .i64 ((n : Nat) : Int), .int .i64 (k : Int), .bool false] hnehp255 (fun w346 hp347 => QB.mk .nil (by kernel_rfl)) (fun b348 => ?_)
                  refine QOPS.nil (fun w349 hp350 => ?_)
                  refine thn_n ?_
                  exact ⟨false, trivial, Bp.of Bp.f (by first | (simp only [h261, h272, h283, h327, h338, iff_false, false_iff, iff_true, true_iff, Classical.not_not, and_true, true_and, and_false, false_and, or_true, true_or, or_false, false_or, not_true_eq_false, not_false_eq_true, and_self, or_self, iff_self]; done) | (simp [h261, h272, h283, h327, h338]; done) | grind | (simp_all; done)), by kernel_rfl, hp350⟩
              · refine QOPS.batch 0 {} [] [0, 4, 6, 7, 8, 54] [.slice a n c, .pointer (some ⟨g18, 0, none⟩), .slice a n c, .int .i64 ((n : Nat) : Int), .int .i64 (k : Int), .bool (!((l[k]!.Open) == false))] hnehp255 (fun _ _ => QB.mk .nil (by kernel_rfl)) (fun b328 => ?_)
                refine QOPS.re [.slice a n c, .pointer (some ⟨g18, 0, none⟩), .slice a n c, .int .i64 ((n : Nat) : Int), .int .i64 (k : Int), .bool true] (by rw [show (!((l[k]!.Open) == false)) = true from (Bp.not (Bp.beq Bp.var Bp.f)).tt h327]) ?_
                refine QOPS.batch 8 { wraps := [62] } [] [0, 6, 7, 8, 62] [.slice a n c, .slice a n c, .int .i64 ((n : Nat) : Int), .int .i64 (k : Int), .bool true] hnehp255 (fun w329 hp330 => QB.mk .nil (by kernel_rfl)) (fun b331 => ?_)
                refine QOPS.nil (fun w332 hp333 => ?_)
                refine thn_n ?_
                exact ⟨true, trivial, Bp.of Bp.t (by first | (simp only [h261, h272, h283, h327, iff_false, false_iff, iff_true, true_iff, Classical.not_not, and_true, true_and, and_false, false_and, or_true, true_or, or_false, false_or, not_true_eq_false, not_false_eq_true, and_self, or_self, iff_self]; done) | (simp [h261, h272, h283, h327]; done) | grind | (simp_all; done)), by kernel_rfl, hp333⟩
            · refine QOPS.batch 0 {} [] [0, 4, 5, 6, 7, 8, 36, 40] [.slice a n c, .pointer (some ⟨g18, 0, none⟩), .bool false, .slice a n c, .int .i64 ((n : Nat) : Int), .int .i64 (k : Int), .bool false, .bool (decide (¬ ((l[k]!.To) = (-1))))] hnehp255 (fun _ _ => QB.mk .nil (by kernel_rfl)) (fun b284 => ?_)
              refine QOPS.re [.slice a n c, .pointer (some ⟨g18, 0, none⟩), .bool false, .slice a n c, .int .i64 ((n : Nat) : Int), .int .i64 (k : Int), .bool false, .bool true] (by rw [show (decide (¬ ((l[k]!.To) = (-1)))) = true from Bp.dec.tt h283]) ?_
              refine QOPS.batch 8 { wraps := [46, 47] } [.int .i64 (l[k]!.To), .int .i64 (l[k]!.From)] [0, 4, 5, 6, 7, 8, 48] [.slice a n c, .pointer (some ⟨g18, 0, none⟩), .bool false, .slice a n c, .int .i64 ((n : Nat) : Int), .int .i64 (k : Int), .bool (decide ((l[k]!.To) ≤ (l[k]!.From)))] hnehp255 (fun w285 hp286 => QB.mk (.cons (Ld.row1 (P := Try.prog) (t := 3) (o := 7) (v := .int .i64 (l[k]!.To)) hp286.get0 (by kernel_rfl)) (.cons (Ld.row1 (P := Try.prog) (t := 3) (o := 6) (v := .int .i64 (l[k]!.From)) hp286.get0 (by kernel_rfl)) .nil)) (by kernel_rfl)) (fun b287 => ?_)
              by_cases h288 : (l[k]!.To) ≤ (l[k]!.From)
              · refine QOPS.batch 0 {} [] [0, 4, 5, 6, 7, 8, 48] [.slice a n c, .pointer (some ⟨g18, 0, none⟩), .bool false, .slice a n c, .int .i64 ((n : Nat) : Int), .int .i64 (k : Int), .bool (decide ((l[k]!.To) ≤ (l[k]!.From)))] hnehp255 (fun _ _ => QB.mk .nil (by kernel_rfl)) (fun b289 => ?_)
                refine QOPS.re [.slice a n c, .pointer (some ⟨g18, 0, none⟩), .bool false, .slice a n c, .int .i64 ((n : Nat) : Int), .int .i64 (k : Int), .bool true] (by rw [show (decide ((l[k]!.To) ≤ (l[k]!.From))) = true from Bp.dec.tt h288]) ?_
                refine QOPS.batch 14 { wraps := [53, 62] } [] [0, 6, 7, 8, 62] [.slice a n c, .slice a n c, .int .i64 ((n : Nat) : Int), .int .i64 (k : Int), .bool true] hnehp255 (fun w290 hp291 => QB.mk .nil (by kernel_rfl)) (fun b292 => ?_)
                refine QOPS.nil (fun w293 hp294 => ?_)
                refine thn_n ?_
                exact ⟨true, trivial, Bp.of Bp.t (by first | (simp only [h261, h272, h283, h288, iff_false, false_iff, iff_true, true_iff, Classical.not_not, and_true, true_and, and_false, false_and, or_true, true_or, or_false, false_or, not_true_eq_false, not_false_eq_true, and_self, or_self, iff_self]; done) | (simp [h261, h272, h283, h288]; done) | grind | (simp_all; done)), by kernel_rfl, hp294⟩
              · refine QOPS.batch 0 {} [] [0, 4, 5, 6, 7, 8, 48] [.slice a n c, .pointer (some ⟨g18, 0, none⟩), .bool false, .slice a n c, .int .i64 ((n : Nat) : Int), .int .i64 (k : Int), .bool (decide ((l[k]!.To) ≤ (l[k]!.From)))] hnehp255 (fun _ _ => QB.mk .nil (by kernel_rfl)) (fun b295 => ?_)
                refine QOPS.re [.slice a n c, .pointer (some ⟨g18, 0, none⟩), .bool false, .slice a n c, .int .i64 ((n : Nat) : Int), .int .i64 (k : Int), .bool false] (by rw [show (decide ((l[k]!.To) ≤ (l[k]!.From))) = false from Bp.dec.ff h288]) ?_
                refine QOPS.batch 6 { wraps := [53] } [.bool (l[k]!.Open)] [0, 4, 6, 7, 8, 54] [.slice a n c, .pointer (some ⟨g18, 0, none⟩), .slice a n c, .int .i64 ((n : Nat) : Int), .int .i64 (k : Int), .bool (!((l[k]!.Open) == false))] hnehp255 (fun w296 hp297 => QB.mk (.cons (Ld.row1 (P := Try.prog) (t := 4) (o := 8) (v := .bool (l[k]!.Open)) hp297.get0 (by kernel_rfl)) .nil) (by kernel_rfl)) (fun b298 => ?_)
                by_cases h299 : (((l[k]!.Open) = true) ↔ (False))
                · refine QOPS.batch 0 {} [] [0, 4, 6, 7, 8, 54] [.slice a n c, .pointer (some ⟨g18, 0, none⟩), .slice a n c, .int .i64 ((n : Nat) : Int), .int .i64 (k : Int), .bool (!((l[k]!.Open) == false))] hnehp255 (fun _ _ => QB.mk .nil (by kernel_rfl)) (fun b306 => ?_)
                  refine QOPS.re [.slice a n c, .pointer (some ⟨g18, 0, none⟩), .slice a n c, .int .i64 ((n : Nat) : Int), .int .i64 (k : Int), .bool false] (by rw [show (!((l[k]!.Open) == false)) = false from (Bp.not (Bp.beq Bp.var Bp.f)).ff (fun k => k h299)]) ?_
                  refine QOPS.batch 3 {} [.bool (l[k]!.Open)] [0, 4, 6, 7, 8, 54, 57] [.slice a n c, .pointer (some ⟨g18, 0, none⟩), .slice a n c, .int .i64 ((n : Nat) : Int), .int .i64 (k : Int), .bool false, .bool (l[k]!.Open)] hnehp255 (fun w307 hp308 => QB.mk (.cons (Ld.row1 (P := Try.prog) (t := 4) (o := 8) (v := .bool (l[k]!.Open)) hp308.get0 (by kernel_rfl)) .nil) (by kernel_rfl)) (fun b309 => ?_)
                  by_cases h310 : (l[k]!.Open) = true
                  · refine QOPS.batch 0 {} [] [0, 4, 6, 7, 8, 54, 57] [.slice a n c, .pointer (some ⟨g18, 0, none⟩), .slice a n c, .int .i64 ((n : Nat) : Int), .int .i64 (k : Int), .bool false, .bool (l[k]!.Open)] hnehp255 (fun _ _ => QB.mk .nil (by kernel_rfl)) (fun b311 => ?_)
                    refine QOPS.re [.slice a n c, .pointer (some ⟨g18, 0, none⟩), .slice a n c, .int .i64 ((n : Nat) : Int), .int .i64 (k : Int), .bool false, .bool true] (by rw [show (l[k]!.Open) = true from Bp.var.tt h310]) ?_
                    refine QOPS.batch 5 { wraps := [61, 62] } [.int .i64 (l[k]!.To)] [0, 6, 7, 8, 62] [.slice a n c, .slice a n c, .int .i64 ((n : Nat) : Int), .int .i64 (k : Int), .bool (decide (¬ ((l[k]!.To) = (-1))))] hnehp255 (fun w312 hp313 => QB.mk (.cons (Ld.row1 (P := Try.prog) (t := 3) (o := 7) (v := .int .i64 (l[k]!.To)) hp313.get0 (by kernel_rfl)) .nil) (by kernel_rfl)) (fun b314 => ?_)
                    refine QOPS.nil (fun w315 hp316 => ?_)
                    refine thn_n ?_
                    exact ⟨decide (¬ ((l[k]!.To) = (-1))), trivial, Bp.of Bp.dec (by first | (simp only [h261, h272, h283, h288, h299, h310, iff_false, false_iff, iff_true, true_iff, Classical.not_not, and_true, true_and, and_false, false_and, or_true, true_or, or_false, false_or, not_true_eq_false, not_false_eq_true, and_self, or_self, iff_self]; done) | (simp [h261, h272, h283, h288, h299, h310]; done) | grind | (simp_all; done)), by kernel_rfl, hp316⟩
                  · refine QOPS.batch 0 {} [] [0, 4, 6, 7, 8, 54, 57] [.slice a n c, .pointer (some ⟨g18, 0, none⟩), .slice a n c, .int .i64 ((n : Nat) : Int), .int .i64 (k : Int), .bool false, .bool (l[k]!.Open)] hnehp255 (fun _ _ => QB.mk .nil (by kernel_rfl)) (fun b317 => ?_)
                    refine QOPS.re [.slice a n c, .pointer (some ⟨g18, 0, none⟩), .slice a n c, .int .i64 ((n : Nat) : Int), .int .i64 (k : Int), .bool false, .bool false] (by rw [show (l[k]!.Open) = false from Bp.var.ff h310]) ?_
                    refine QOPS.batch 5 { wraps := [61, 62] } [] [0, 6, 7, 8, 62] [.slice a n c, .slice a n c, .int .i64 ((n : Nat) : Int), .int .i64 (k : Int), .bool false] hnehp255 (fun w318 hp319 => QB.mk .nil (by kernel_rfl)) (fun b320 => ?_)
                    refine QOPS.nil (fun w321 hp322 => ?_)
                    refine thn_n ?_
                    exact ⟨false, trivial, Bp.of Bp.f (by first | (simp only [h261, h272, h283, h288, h299, h310, iff_false, false_iff, iff_true, true_iff, Classical.not_not, and_true, true_and, and_false, false_and, or_true, true_or, or_false, false_or, not_true_eq_false, not_false_eq_true, and_self, or_self, iff_self]; done) | (simp [h261, h272, h283, h288, h299, h310]; done) | grind | (simp_all; done)), by kernel_rfl, hp322⟩
                · refine QOPS.batch 0 {} [] [0, 4, 6, 7, 8, 54] [.slice a n c, .pointer (some ⟨g18, 0, none⟩), .slice a n c, .int .i64 ((n : Nat) : Int), .int .i64 (k : Int), .bool (!((l[k]!.Open) == false))] hnehp255 (fun _ _ => QB.mk .nil (by kernel_rfl)) (fun b300 => ?_)
                  refine QOPS.re [.slice a n c, .pointer (some ⟨g18, 0, none⟩), .slice a n c, .int .i64 ((n : Nat) : Int), .int .i64 (k : Int), .bool true] (by rw [show (!((l[k]!.Open) == false)) = true from (Bp.not (Bp.beq Bp.var Bp.f)).tt h299]) ?_
                  refine QOPS.batch 8 { wraps := [62] } [] [0, 6, 7, 8, 62] [.slice a n c, .slice a n c, .int .i64 ((n : Nat) : Int), .int .i64 (k : Int), .bool true] hnehp255 (fun w301 hp302 => QB.mk .nil (by kernel_rfl)) (fun b303 => ?_)
                  refine QOPS.nil (fun w304 hp305 => ?_)
                  refine thn_n ?_
                  exact ⟨true, trivial, Bp.of Bp.t (by first | (simp only [h261, h272, h283, h288, h299, iff_false, false_iff, iff_true, true_iff, Classical.not_not, and_true, true_and, and_false, false_and, or_true, true_or, or_false, false_or, not_true_eq_false, not_false_eq_true, and_self, or_self, iff_self]; done) | (simp [h261, h272, h283, h288, h299]; done) | grind | (simp_all; done)), by kernel_rfl, hp305⟩
        · refine QOPS.batch 0 {} [] [0, 4, 5, 6, 7, 8, 31] [.slice a n c, .pointer (some ⟨g18, 0, none⟩), .bool false, .slice a n c, .int .i64 ((n : Nat) : Int), .int .i64 (k : Int), .bool (decide (¬ ((l[k]!.Key) = (l[0]!.Key))))] hnehp255 (fun _ _ => QB.mk .nil (by kernel_rfl)) (fun b262 => ?_)
          refine QOPS.re [.slice a n c, .pointer (some ⟨g18, 0, none⟩), .bool false, .slice a n c, .int .i64 ((n : Nat) : Int), .int .i64 (k : Int), .bool true] (by rw [show (decide (¬ ((l[k]!.Key) = (l[0]!.Key)))) = true from Bp.dec.tt h261]) ?_
          refine QOPS.batch 31 { wraps := [35, 47, 53, 62] } [] [0, 6, 7, 8, 62] [.slice a n c, .slice a n c, .int .i64 ((n : Nat) : Int), .int .i64 (k : Int), .bool true] hnehp255 (fun w263 hp264 => QB.mk .nil (by kernel_rfl)) (fun b265 => ?_)
          refine QOPS.nil (fun w266 hp267 => ?_)
          refine thn_n ?_
          exact ⟨true, trivial, Bp.of Bp.t (by first | (simp only [h261, iff_false, false_iff, iff_true, true_iff, Classical.not_not, and_true, true_and, and_false, false_and, or_true, true_or, or_false, false_or, not_true_eq_false, not_false_eq_true, and_self, or_self, iff_self]; done) | (simp [h261]; done) | grind | (simp_all; done)), by kernel_rfl, hp267⟩
      rintro e353 w354 ⟨x351, hd356, hb352, hE357, hp355⟩
      obtain ⟨b358, rfl⟩ := toMk hE357
      clear hE357
      clear hd356
      refine WP.test (p := ((¬ ((l[k]!.Key) = (l[0]!.Key)))) ∨ (((l[k]!.Key) = (l[0]!.Key)) ∧ ((l[k]!.From) < 0)) ∨ (((l[k]!.Key) = (l[0]!.Key)) ∧ (¬ ((l[k]!.From) < 0)) ∧ (¬ ((l[k]!.To) = (-1))) ∧ ((l[k]!.To) ≤ (l[k]!.From))) ∨ (((l[k]!.Key) = (l[0]!.Key)) ∧ (¬ ((l[k]!.From) < 0)) ∧ (¬ ((l[k]!.To) = (-1))) ∧ (¬ ((l[k]!.To) ≤ (l[k]!.From))) ∧ (¬ ((((l[k]!.Open) = true) ↔ (False))))) ∨ (((l[k]!.Key) = (l[0]!.Key)) ∧ (¬ ((l[k]!.From) < 0)) ∧ (¬ ((l[k]!.To) = (-1))) ∧ (¬ ((l[k]!.To) ≤ (l[k]!.From))) ∧ (((l[k]!.Open) = true) ↔ (False)) ∧ ((l[k]!.Open) = true) ∧ (¬ ((l[k]!.To) = (-1)))) ∨ (((l[k]!.Key) = (l[0]!.Key)) ∧ (¬ ((l[k]!.From) < 0)) ∧ ((l[k]!.To) = (-1)) ∧ (¬ ((((l[k]!.Open) = true) ↔ (False))))) ∨ (((l[k]!.Key) = (l[0]!.Key)) ∧ (¬ ((l[k]!.From) < 0)) ∧ ((l[k]!.To) = (-1)) ∧ (((l[k]!.Open) = true) ↔ (False)) ∧ ((l[k]!.Open) = true) ∧ (¬ ((l[k]!.To) = (-1))))) rfl hb352 (fun h359 => ?_) (fun h359 => ?_)
      · refine WP.seq ?_
        refine WP.pure {} [] [2] [.bool false] .nil (by kernel_rfl) (fun b360 => ?_)
        refine thn_n ?_
        refine WP.ret ?_
        refine blk_r ?_
        refine thn_r ?_
        refine thn_r ?_
        refine blk_r ?_
        refine thn_r ?_
        refine bodyQ.of _ rfl [.bool false] ⟨rfl, trivial⟩ ?_
        exact ⟨_, rfl, Bp.of Bp.f (by simp only [false_iff]; intro q; have q_ := q k (by omega); simp only [fitC, openP] at q_; have h_ := h359; grind), hp355.fr⟩
      · refine WP.skip ?_
        refine blk_n ?_
        refine thn_n ?_
        refine WP.pure {} [] [0, 6, 7, 8] [.slice a n c, .slice a n c, .int .i64 ((n : Nat) : Int), .int .i64 ((k : Int) + 1)] (.cons (show Rng .i64 ((k : Int) + 1) from Rng.i64 (by omega)) .nil) (by kernel_rfl) (fun b361 => ?_)
        refine thn_n ?_
        exact ⟨l.length - (k + 1), (by omega), k + 1, rfl, ⟨by omega, fun i hi => by by_cases e : i = k; subst e; exact (by simp only [fitC, openP]; have h_ := h359; grind); exact pb i (by omega)⟩, by kernel_rfl, (hp355.sub (.cons _ (.slnil)))⟩
  · refine WP.exit ?_
    refine thn_x ?_
    refine thn_x ?_
    refine blk_hit ?_
    refine thn_n ?_
    refine WP.seq ?_
    refine WP.pure {} [] [2] [.bool true] .nil (by kernel_rfl) (fun b362 => ?_)
    refine thn_n ?_
    refine WP.ret ?_
    refine bodyQ.of _ rfl [.bool true] ⟨rfl, trivial⟩ ?_
    exact ⟨_, rfl, Bp.of Bp.t (by simp only [true_iff]; exact fun i hi => pb i (by omega)), hp5.fr⟩

end Go.Proofs.Ytdahgdkadfdkeaa.K
