/- The walks of TpsB: what each function computes. -/
import Derived.Test.YthplgcnoaholaajDoorProg
import Derived.Test.YthplgcnoaholaajDoorCoreO
import Derived.Test.YthplgcnoaholaajDoorTpsA
namespace Go.Proofs.YthplgcnoaholaajDoor.K
open Go Go.Proofs Go.RowKit
set_option linter.unusedVariables false
set_option linter.unusedSimpArgs false
set_option maxRecDepth 20000
set_option maxHeartbeats 4000000

theorem PA.ne {k : Int} (h : PA k) : ¬ k < 1 ∧ ¬ 16 < k ∧ ¬ k = 1 ∧ ¬ k = 2 ∧ ¬ k = 9 ∧ ¬ k = 10 ∧ ¬ k = 12 ∧ ¬ k = 14 ∧ ¬ k = 16 := by unfold PA at h; omega
theorem ft_k1 (A B : Int) (Ky : ByteArray) (V L : SlH) (v : ByteArray) (l : List Int) (w : World) (hv : V.n = v.size) (hn : L.n = l.length) (hL : SlR w L.a L.n (l.flatMap i64c)) :
    Calls Tryd.prog 6 #[GStep.val (⟨1, A, B, Ky, V, L⟩ : GStep)] w (fun r_ w' => ∃ f_, r_ = .returned (.bool f_) ∧ Bp f_ (okS ⟨1, A, B, Ky, v, l⟩) ∧ Fram Non w w') := by
  refine calls_of Tryd.func6 rfl 125 rfl (by simp) ?_
  have hp0 := Hp.init w
  have he0 : List.map (env0 [GStep.val (⟨1, A, B, Ky, V, L⟩ : GStep)]) [0] = [GStep.val (⟨1, A, B, Ky, V, L⟩ : GStep)] := by kernel_rfl
  obtain ⟨b0, he0⟩ := toMk he0
  rw [he0]
  clear he0
  refine WP.seq ?_
  refine WP.region _ rfl (by kernel_rfl) ?_
  refine OPS.cons (opStep.box hp0 [.int .i64 1, .int .i64 A, .int .i64 B, .string Ky, .slice V.a V.n V.c, .slice L.a L.n L.c] (by kernel_rfl) (fun g3 w1 hp2 => ?_))
  refine OPS.batch 1 {} [] [1] [.pointer (some ⟨g3, 0, none⟩)] .nil (by kernel_rfl) (fun b4 => ?_)
  refine OPS.nil ?_
  refine thn_n ?_
  refine WP.seq ?_
  refine WP.seq ?_
  refine WP.pure { wraps := [13] } [.int .i64 1, .int .i64 1] [1, 13] [.pointer (some ⟨g3, 0, none⟩), .bool false] (.cons (Ld.row1 (P := Tryd.prog) (t := 3) (o := 0) (v := .int .i64 1) hp2.get0 (by kernel_rfl)) (.cons (Ld.row1 (P := Tryd.prog) (t := 3) (o := 0) (v := .int .i64 1) hp2.get0 (by kernel_rfl)) .nil)) (by kernel_rfl) (fun b5 => ?_)
  refine thn_n ?_
  refine WP.condF rfl ?_
  refine WP.skip ?_
  refine thn_n ?_
  refine WP.seq ?_
  refine WP.pure { wraps := [21] } [.int .i64 1] [1, 3] [.pointer (some ⟨g3, 0, none⟩), .bool true] (.cons (Ld.row1 (P := Tryd.prog) (t := 3) (o := 0) (v := .int .i64 1) hp2.get0 (by kernel_rfl)) .nil) (by kernel_rfl) (fun b6 => ?_)
  refine thn_n ?_
  refine WP.seq ?_
  refine WP.pure { wraps := [29, 34, 39] } [.int .i64 1, .int .i64 1, .int .i64 1, .int .i64 1] [1, 3, 4] [.pointer (some ⟨g3, 0, none⟩), .bool true, .bool false] (.cons (Ld.row1 (P := Tryd.prog) (t := 3) (o := 0) (v := .int .i64 1) hp2.get0 (by kernel_rfl)) (.cons (Ld.row1 (P := Tryd.prog) (t := 3) (o := 0) (v := .int .i64 1) hp2.get0 (by kernel_rfl)) (.cons (Ld.row1 (P := Tryd.prog) (t := 3) (o := 0) (v := .int .i64 1) hp2.get0 (by kernel_rfl)) (.cons (Ld.row1 (P := Tryd.prog) (t := 3) (o := 0) (v := .int .i64 1) hp2.get0 (by kernel_rfl)) .nil)))) (by kernel_rfl) (fun b7 => ?_)
  refine thn_n ?_
  refine WP.seq ?_
  refine WP.pure { wraps := [47, 52, 57] } [.int .i64 1, .int .i64 1, .int .i64 1, .int .i64 1] [1, 3, 4, 5] [.pointer (some ⟨g3, 0, none⟩), .bool true, .bool false, .bool false] (.cons (Ld.row1 (P := Tryd.prog) (t := 3) (o := 0) (v := .int .i64 1) hp2.get0 (by kernel_rfl)) (.cons (Ld.row1 (P := Tryd.prog) (t := 3) (o := 0) (v := .int .i64 1) hp2.get0 (by kernel_rfl)) (.cons (Ld.row1 (P := Tryd.prog) (t := 3) (o := 0) (v := .int .i64 1) hp2.get0 (by kernel_rfl)) (.cons (Ld.row1 (P := Tryd.prog) (t := 3) (o := 0) (v := .int .i64 1) hp2.get0 (by kernel_rfl)) .nil)))) (by kernel_rfl) (fun b8 => ?_)
  refine thn_n ?_
  refine WP.seq ?_
  refine WP.seq ?_
  refine WP.pure { wraps := [80] } [.int .i64 1] [1, 3, 4, 5, 80] [.pointer (some ⟨g3, 0, none⟩), .bool true, .bool false, .bool false, .bool false] (.cons (Ld.row1 (P := Tryd.prog) (t := 3) (o := 0) (v := .int .i64 1) hp2.get0 (by kernel_rfl)) .nil) (by kernel_rfl) (fun b9 => ?_)
  refine thn_n ?_
  refine WP.condF rfl ?_
  refine WP.skip ?_
  refine thn_n ?_
  refine WP.cut (fun e19 w20 => ∃ (x17 : Bool), (True) ∧ Bp x17 ((B = 0) ∧ (((L.n : Nat) : Int) = 0)) ∧ List.map e19 [2] = [.bool x17] ∧ Hp w Non [Res.row g3 [.int .i64 1, .int .i64 A, .int .i64 B, .string Ky, .slice V.a V.n V.c, .slice L.a L.n L.c] 29] w20) ?_ ?_
  · refine WP.region _ rfl (by kernel_rfl) ?_
    refine OPS.batch 17 { wraps := [88, 95, 96] } [.int .i64 1, .int .i64 B] [1, 3, 5, 97] [.pointer (some ⟨g3, 0, none⟩), .bool true, .bool false, .bool (decide (B = 0))] (.cons (Ld.row1 (P := Tryd.prog) (t := 3) (o := 0) (v := .int .i64 1) hp2.get0 (by kernel_rfl)) (.cons (Ld.row1 (P := Tryd.prog) (t := 3) (o := 2) (v := .int .i64 B) hp2.get0 (by kernel_rfl)) .nil)) (by kernel_rfl) (fun b11 => ?_)
    by_cases h12 : B = 0
    · refine OPS.batch 0 {} [] [1, 3, 5, 97] [.pointer (some ⟨g3, 0, none⟩), .bool true, .bool false, .bool (decide (B = 0))] .nil (by kernel_rfl) (fun b13 => ?_)
      refine OPS.re [.pointer (some ⟨g3, 0, none⟩), .bool true, .bool false, .bool true] (by rw [show (decide (B = 0)) = true from Bp.dec.tt h12]) ?_
      refine OPS.batch 28 { wraps := [103, 104, 114, 115, 123, 124] } [.int .i64 1, .slice L.a L.n L.c] [2] [.bool (decide (((L.n : Nat) : Int) = 0))] (.cons (Ld.row1 (P := Tryd.prog) (t := 3) (o := 0) (v := .int .i64 1) hp2.get0 (by kernel_rfl)) (.cons (Ld.row1 (P := Tryd.prog) (t := 27) (o := 5) (v := .slice L.a L.n L.c) hp2.get0 (by kernel_rfl)) .nil)) (by kernel_rfl) (fun b14 => ?_)
      refine OPS.nil ?_
      refine thn_n ?_
      exact ⟨decide (((L.n : Nat) : Int) = 0), trivial, Bp.of Bp.dec (by first | (simp only [h12, iff_false, false_iff, iff_true, true_iff, Classical.not_not, and_true, true_and, and_false, false_and, or_true, true_or, or_false, false_or, not_true_eq_false, not_false_eq_true, and_self, or_self, iff_self]; done) | (simp [h12]; done) | grind | (simp_all; done)), by kernel_rfl, hp2⟩
    · refine OPS.batch 0 {} [] [1, 3, 5, 97] [.pointer (some ⟨g3, 0, none⟩), .bool true, .bool false, .bool (decide (B = 0))] .nil (by kernel_rfl) (fun b15 => ?_)
      refine OPS.re [.pointer (some ⟨g3, 0, none⟩), .bool true, .bool false, .bool false] (by rw [show (decide (B = 0)) = false from Bp.dec.ff h12]) ?_
      refine OPS.batch 28 { wraps := [104, 115, 124] } [] [2] [.bool false] .nil (by kernel_rfl) (fun b16 => ?_)
      refine OPS.nil ?_
      refine thn_n ?_
      exact ⟨false, trivial, Bp.of Bp.f (by first | (simp only [h12, iff_false, false_iff, iff_true, true_iff, Classical.not_not, and_true, true_and, and_false, false_and, or_true, true_or, or_false, false_or, not_true_eq_false, not_false_eq_true, and_self, or_self, iff_self]; done) | (simp [h12]; done) | grind | (simp_all; done)), by kernel_rfl, hp2⟩
  rintro e19 w20 ⟨x17, hd22, hb18, hE23, hp21⟩
  obtain ⟨b24, rfl⟩ := toMk hE23
  clear hE23
  clear hd22
  refine WP.ret ?_
  refine bodyQ.of _ rfl [.bool x17] ⟨rfl, trivial⟩ ?_
  exact ⟨_, rfl, Bp.of hb18 (by rw [okS_1]; clear hL; skip; first | omega | grind | (simp_all; done) | (simp_all; omega)), hp21.fr⟩

theorem ft_k2 (A B : Int) (Ky : ByteArray) (V L : SlH) (v : ByteArray) (l : List Int) (w : World) (hv : V.n = v.size) (hn : L.n = l.length) (hL : SlR w L.a L.n (l.flatMap i64c)) :
    Calls Tryd.prog 6 #[GStep.val (⟨2, A, B, Ky, V, L⟩ : GStep)] w (fun r_ w' => ∃ f_, r_ = .returned (.bool f_) ∧ Bp f_ (okS ⟨2, A, B, Ky, v, l⟩) ∧ Fram Non w w') := by
  refine calls_of Tryd.func6 rfl 125 rfl (by simp) ?_
  have hp0 := Hp.init w
  have he0 : List.map (env0 [GStep.val (⟨2, A, B, Ky, V, L⟩ : GStep)]) [0] = [GStep.val (⟨2, A, B, Ky, V, L⟩ : GStep)] := by kernel_rfl
  obtain ⟨b0, he0⟩ := toMk he0
  rw [he0]
  clear he0
  refine WP.seq ?_
  refine WP.region _ rfl (by kernel_rfl) ?_
  refine OPS.cons (opStep.box hp0 [.int .i64 2, .int .i64 A, .int .i64 B, .string Ky, .slice V.a V.n V.c, .slice L.a L.n L.c] (by kernel_rfl) (fun g3 w1 hp2 => ?_))
  refine OPS.batch 1 {} [] [1] [.pointer (some ⟨g3, 0, none⟩)] .nil (by kernel_rfl) (fun b4 => ?_)
  refine OPS.nil ?_
  refine thn_n ?_
  refine WP.seq ?_
  refine WP.seq ?_
  refine WP.pure { wraps := [13] } [.int .i64 2, .int .i64 2] [1, 13] [.pointer (some ⟨g3, 0, none⟩), .bool false] (.cons (Ld.row1 (P := Tryd.prog) (t := 3) (o := 0) (v := .int .i64 2) hp2.get0 (by kernel_rfl)) (.cons (Ld.row1 (P := Tryd.prog) (t := 3) (o := 0) (v := .int .i64 2) hp2.get0 (by kernel_rfl)) .nil)) (by kernel_rfl) (fun b5 => ?_)
  refine thn_n ?_
  refine WP.condF rfl ?_
  refine WP.skip ?_
  refine thn_n ?_
  refine WP.seq ?_
  refine WP.pure { wraps := [21] } [.int .i64 2, .int .i64 2] [1, 3] [.pointer (some ⟨g3, 0, none⟩), .bool true] (.cons (Ld.row1 (P := Tryd.prog) (t := 3) (o := 0) (v := .int .i64 2) hp2.get0 (by kernel_rfl)) (.cons (Ld.row1 (P := Tryd.prog) (t := 3) (o := 0) (v := .int .i64 2) hp2.get0 (by kernel_rfl)) .nil)) (by kernel_rfl) (fun b6 => ?_)
  refine thn_n ?_
  refine WP.seq ?_
  refine WP.pure { wraps := [29, 34, 39] } [.int .i64 2, .int .i64 2, .int .i64 2, .int .i64 2] [1, 3, 4] [.pointer (some ⟨g3, 0, none⟩), .bool true, .bool false] (.cons (Ld.row1 (P := Tryd.prog) (t := 3) (o := 0) (v := .int .i64 2) hp2.get0 (by kernel_rfl)) (.cons (Ld.row1 (P := Tryd.prog) (t := 3) (o := 0) (v := .int .i64 2) hp2.get0 (by kernel_rfl)) (.cons (Ld.row1 (P := Tryd.prog) (t := 3) (o := 0) (v := .int .i64 2) hp2.get0 (by kernel_rfl)) (.cons (Ld.row1 (P := Tryd.prog) (t := 3) (o := 0) (v := .int .i64 2) hp2.get0 (by kernel_rfl)) .nil)))) (by kernel_rfl) (fun b7 => ?_)
  refine thn_n ?_
  refine WP.seq ?_
  refine WP.pure { wraps := [47, 52, 57] } [.int .i64 2, .int .i64 2, .int .i64 2, .int .i64 2] [1, 3, 4, 5] [.pointer (some ⟨g3, 0, none⟩), .bool true, .bool false, .bool false] (.cons (Ld.row1 (P := Tryd.prog) (t := 3) (o := 0) (v := .int .i64 2) hp2.get0 (by kernel_rfl)) (.cons (Ld.row1 (P := Tryd.prog) (t := 3) (o := 0) (v := .int .i64 2) hp2.get0 (by kernel_rfl)) (.cons (Ld.row1 (P := Tryd.prog) (t := 3) (o := 0) (v := .int .i64 2) hp2.get0 (by kernel_rfl)) (.cons (Ld.row1 (P := Tryd.prog) (t := 3) (o := 0) (v := .int .i64 2) hp2.get0 (by kernel_rfl)) .nil)))) (by kernel_rfl) (fun b8 => ?_)
  refine thn_n ?_
  refine WP.seq ?_
  refine WP.seq ?_
  refine WP.pure { wraps := [80] } [.int .i64 2] [1, 3, 4, 5, 80] [.pointer (some ⟨g3, 0, none⟩), .bool true, .bool false, .bool false, .bool false] (.cons (Ld.row1 (P := Tryd.prog) (t := 3) (o := 0) (v := .int .i64 2) hp2.get0 (by kernel_rfl)) .nil) (by kernel_rfl) (fun b9 => ?_)
  refine thn_n ?_
  refine WP.condF rfl ?_
  refine WP.skip ?_
  refine thn_n ?_
  refine WP.cut (fun e24 w25 => ∃ (x22 : Bool), (True) ∧ Bp x22 ((B = 0) ∧ (((V.n : Nat) : Int) = 0) ∧ (((L.n : Nat) : Int) = 0)) ∧ List.map e24 [2] = [.bool x22] ∧ Hp w Non [Res.row g3 [.int .i64 2, .int .i64 A, .int .i64 B, .string Ky, .slice V.a V.n V.c, .slice L.a L.n L.c] 29] w25) ?_ ?_
  · refine WP.region _ rfl (by kernel_rfl) ?_
    refine OPS.batch 17 { wraps := [88, 95, 96] } [.int .i64 2, .int .i64 B] [1, 3, 5, 97] [.pointer (some ⟨g3, 0, none⟩), .bool true, .bool false, .bool (decide (B = 0))] (.cons (Ld.row1 (P := Tryd.prog) (t := 3) (o := 0) (v := .int .i64 2) hp2.get0 (by kernel_rfl)) (.cons (Ld.row1 (P := Tryd.prog) (t := 3) (o := 2) (v := .int .i64 B) hp2.get0 (by kernel_rfl)) .nil)) (by kernel_rfl) (fun b11 => ?_)
    by_cases h12 : B = 0
    · refine OPS.batch 0 {} [] [1, 3, 5, 97] [.pointer (some ⟨g3, 0, none⟩), .bool true, .bool false, .bool (decide (B = 0))] .nil (by kernel_rfl) (fun b13 => ?_)
      refine OPS.re [.pointer (some ⟨g3, 0, none⟩), .bool true, .bool false, .bool true] (by rw [show (decide (B = 0)) = true from Bp.dec.tt h12]) ?_
      refine OPS.batch 19 { wraps := [103, 104, 114, 115] } [.int .i64 2, .slice V.a V.n V.c] [1, 5, 116] [.pointer (some ⟨g3, 0, none⟩), .bool false, .bool (decide (((V.n : Nat) : Int) = 0))] (.cons (Ld.row1 (P := Tryd.prog) (t := 3) (o := 0) (v := .int .i64 2) hp2.get0 (by kernel_rfl)) (.cons (Ld.row1 (P := Tryd.prog) (t := 26) (o := 4) (v := .slice V.a V.n V.c) hp2.get0 (by kernel_rfl)) .nil)) (by kernel_rfl) (fun b14 => ?_)
      by_cases h15 : ((V.n : Nat) : Int) = 0
      · refine OPS.batch 0 {} [] [1, 5, 116] [.pointer (some ⟨g3, 0, none⟩), .bool false, .bool (decide (((V.n : Nat) : Int) = 0))] .nil (by kernel_rfl) (fun b16 => ?_)
        refine OPS.re [.pointer (some ⟨g3, 0, none⟩), .bool false, .bool true] (by rw [show (decide (((V.n : Nat) : Int) = 0)) = true from Bp.dec.tt h15]) ?_
        refine OPS.batch 9 { wraps := [123, 124] } [.slice L.a L.n L.c] [2] [.bool (decide (((L.n : Nat) : Int) = 0))] (.cons (Ld.row1 (P := Tryd.prog) (t := 27) (o := 5) (v := .slice L.a L.n L.c) hp2.get0 (by kernel_rfl)) .nil) (by kernel_rfl) (fun b17 => ?_)
        refine OPS.nil ?_
        refine thn_n ?_
        exact ⟨decide (((L.n : Nat) : Int) = 0), trivial, Bp.of Bp.dec (by first | (simp only [h12, h15, iff_false, false_iff, iff_true, true_iff, Classical.not_not, and_true, true_and, and_false, false_and, or_true, true_or, or_false, false_or, not_true_eq_false, not_false_eq_true, and_self, or_self, iff_self]; done) | (simp [h12, h15]; done) | grind | (simp_all; done)), by kernel_rfl, hp2⟩
      · refine OPS.batch 0 {} [] [1, 5, 116] [.pointer (some ⟨g3, 0, none⟩), .bool false, .bool (decide (((V.n : Nat) : Int) = 0))] .nil (by kernel_rfl) (fun b18 => ?_)
        refine OPS.re [.pointer (some ⟨g3, 0, none⟩), .bool false, .bool false] (by rw [show (decide (((V.n : Nat) : Int) = 0)) = false from Bp.dec.ff h15]) ?_
        refine OPS.batch 9 { wraps := [124] } [] [2] [.bool false] .nil (by kernel_rfl) (fun b19 => ?_)
        refine OPS.nil ?_
        refine thn_n ?_
        exact ⟨false, trivial, Bp.of Bp.f (by first | (simp only [h12, h15, iff_false, false_iff, iff_true, true_iff, Classical.not_not, and_true, true_and, and_false, false_and, or_true, true_or, or_false, false_or, not_true_eq_false, not_false_eq_true, and_self, or_self, iff_self]; done) | (simp [h12, h15]; done) | grind | (simp_all; done)), by kernel_rfl, hp2⟩
    · refine OPS.batch 0 {} [] [1, 3, 5, 97] [.pointer (some ⟨g3, 0, none⟩), .bool true, .bool false, .bool (decide (B = 0))] .nil (by kernel_rfl) (fun b20 => ?_)
      refine OPS.re [.pointer (some ⟨g3, 0, none⟩), .bool true, .bool false, .bool false] (by rw [show (decide (B = 0)) = false from Bp.dec.ff h12]) ?_
      refine OPS.batch 28 { wraps := [104, 115, 124] } [] [2] [.bool false] .nil (by kernel_rfl) (fun b21 => ?_)
      refine OPS.nil ?_
      refine thn_n ?_
      exact ⟨false, trivial, Bp.of Bp.f (by first | (simp only [h12, iff_false, false_iff, iff_true, true_iff, Classical.not_not, and_true, true_and, and_false, false_and, or_true, true_or, or_false, false_or, not_true_eq_false, not_false_eq_true, and_self, or_self, iff_self]; done) | (simp [h12]; done) | grind | (simp_all; done)), by kernel_rfl, hp2⟩
  rintro e24 w25 ⟨x22, hd27, hb23, hE28, hp26⟩
  obtain ⟨b29, rfl⟩ := toMk hE28
  clear hE28
  clear hd27
  refine WP.ret ?_
  refine bodyQ.of _ rfl [.bool x22] ⟨rfl, trivial⟩ ?_
  exact ⟨_, rfl, Bp.of hb23 (by rw [okS_2]; clear hL; skip; first | omega | grind | (simp_all; done) | (simp_all; omega)), hp26.fr⟩

theorem ft_k9 (A B : Int) (Ky : ByteArray) (V L : SlH) (v : ByteArray) (l : List Int) (w : World) (hv : V.n = v.size) (hn : L.n = l.length) (hL : SlR w L.a L.n (l.flatMap i64c)) :
    Calls Tryd.prog 6 #[GStep.val (⟨9, A, B, Ky, V, L⟩ : GStep)] w (fun r_ w' => ∃ f_, r_ = .returned (.bool f_) ∧ Bp f_ (okS ⟨9, A, B, Ky, v, l⟩) ∧ Fram Non w w') := by
  refine calls_of Tryd.func6 rfl 125 rfl (by simp) ?_
  have hp0 := Hp.init w
  have he0 : List.map (env0 [GStep.val (⟨9, A, B, Ky, V, L⟩ : GStep)]) [0] = [GStep.val (⟨9, A, B, Ky, V, L⟩ : GStep)] := by kernel_rfl
  obtain ⟨b0, he0⟩ := toMk he0
  rw [he0]
  clear he0
  refine WP.seq ?_
  refine WP.region _ rfl (by kernel_rfl) ?_
  refine OPS.cons (opStep.box hp0 [.int .i64 9, .int .i64 A, .int .i64 B, .string Ky, .slice V.a V.n V.c, .slice L.a L.n L.c] (by kernel_rfl) (fun g3 w1 hp2 => ?_))
  refine OPS.batch 1 {} [] [1] [.pointer (some ⟨g3, 0, none⟩)] .nil (by kernel_rfl) (fun b4 => ?_)
  refine OPS.nil ?_
  refine thn_n ?_
  refine WP.seq ?_
  refine WP.seq ?_
  refine WP.pure { wraps := [13] } [.int .i64 9, .int .i64 9] [1, 13] [.pointer (some ⟨g3, 0, none⟩), .bool false] (.cons (Ld.row1 (P := Tryd.prog) (t := 3) (o := 0) (v := .int .i64 9) hp2.get0 (by kernel_rfl)) (.cons (Ld.row1 (P := Tryd.prog) (t := 3) (o := 0) (v := .int .i64 9) hp2.get0 (by kernel_rfl)) .nil)) (by kernel_rfl) (fun b5 => ?_)
  refine thn_n ?_
  refine WP.condF rfl ?_
  refine WP.skip ?_
  refine thn_n ?_
  refine WP.seq ?_
  refine WP.pure { wraps := [21] } [.int .i64 9, .int .i64 9] [1, 3] [.pointer (some ⟨g3, 0, none⟩), .bool false] (.cons (Ld.row1 (P := Tryd.prog) (t := 3) (o := 0) (v := .int .i64 9) hp2.get0 (by kernel_rfl)) (.cons (Ld.row1 (P := Tryd.prog) (t := 3) (o := 0) (v := .int .i64 9) hp2.get0 (by kernel_rfl)) .nil)) (by kernel_rfl) (fun b6 => ?_)
  refine thn_n ?_
  refine WP.seq ?_
  refine WP.pure { wraps := [29, 34, 39] } [.int .i64 9] [1, 3, 4] [.pointer (some ⟨g3, 0, none⟩), .bool false, .bool true] (.cons (Ld.row1 (P := Tryd.prog) (t := 3) (o := 0) (v := .int .i64 9) hp2.get0 (by kernel_rfl)) .nil) (by kernel_rfl) (fun b7 => ?_)
  refine thn_n ?_
  refine WP.seq ?_
  refine WP.pure { wraps := [47, 52, 57] } [.int .i64 9] [1, 3, 4, 5] [.pointer (some ⟨g3, 0, none⟩), .bool false, .bool true, .bool true] (.cons (Ld.row1 (P := Tryd.prog) (t := 3) (o := 0) (v := .int .i64 9) hp2.get0 (by kernel_rfl)) .nil) (by kernel_rfl) (fun b8 => ?_)
  refine thn_n ?_
  refine WP.seq ?_
  refine WP.cut (fun e25 w26 => ∃ (x23 : Bool), (True) ∧ Bp x23 (((¬ (((L.n : Nat) : Int) = 1))) ∨ ((((L.n : Nat) : Int) = 1) ∧ ((l[0]!) < 0)) ∨ ((((L.n : Nat) : Int) = 1) ∧ (¬ ((l[0]!) < 0)) ∧ (4294967295 < (l[0]!)))) ∧ List.map e25 [1, 3, 4, 5, 80] = [.pointer (some ⟨g3, 0, none⟩), .bool false, .bool true, .bool true, .bool x23] ∧ Hp w Non [Res.row g3 [.int .i64 9, .int .i64 A, .int .i64 B, .string Ky, .slice V.a V.n V.c, .slice L.a L.n L.c] 29] w26) ?_ ?_
  · refine WP.region _ rfl (by kernel_rfl) ?_
    refine OPS.batch 9 {} [.int .i64 9, .slice L.a L.n L.c] [1, 3, 4, 5, 61, 66] [.pointer (some ⟨g3, 0, none⟩), .bool false, .bool true, .bool true, .bool true, .bool (decide (¬ (((L.n : Nat) : Int) = 1)))] (.cons (Ld.row1 (P := Tryd.prog) (t := 3) (o := 0) (v := .int .i64 9) hp2.get0 (by kernel_rfl)) (.cons (Ld.row1 (P := Tryd.prog) (t := 27) (o := 5) (v := .slice L.a L.n L.c) hp2.get0 (by kernel_rfl)) .nil)) (by kernel_rfl) (fun b10 => ?_)
    by_cases h11 : ((L.n : Nat) : Int) = 1
    · refine OPS.batch 0 {} [] [1, 3, 4, 5, 61, 66] [.pointer (some ⟨g3, 0, none⟩), .bool false, .bool true, .bool true, .bool true, .bool (decide (¬ (((L.n : Nat) : Int) = 1)))] .nil (by kernel_rfl) (fun b14 => ?_)
      refine OPS.re [.pointer (some ⟨g3, 0, none⟩), .bool false, .bool true, .bool true, .bool true, .bool false] (by rw [show (decide (¬ (((L.n : Nat) : Int) = 1))) = false from Bp.dec.ff (fun k => k h11)]) ?_
      have hy16 : (l)[0]? = some l[0]! := get_bang (by first | (omega) | (simp only [List.length_append, List.length_cons, List.length_nil]; omega) | (simp only [List.length_take, List.length_append, List.length_cons, List.length_nil]; omega))
      refine OPS.batch 7 { wraps := [72] } [.slice L.a L.n L.c, .int .i64 (l[0]!)] [1, 3, 4, 5, 61, 73] [.pointer (some ⟨g3, 0, none⟩), .bool false, .bool true, .bool true, .bool true, .bool (decide ((l[0]!) < 0))] (.cons (Ld.row1 (P := Tryd.prog) (t := 27) (o := 5) (v := .slice L.a L.n L.c) hp2.get0 (by kernel_rfl)) (.cons (show InB (0) (L.n) from ⟨by omega, by omega⟩) (.cons ((hL.at hp2).some (by omega)) (.cons (Ld.add0 (Ld.el1 (P := Tryd.prog) (t := 3) (hL.at hp2).rd 1 (fun _ => rfl) hy16 (o := 0) (v := .int .i64 (l[0]!)) (by kernel_rfl))) .nil)))) (by kernel_rfl) (fun b17 => ?_)
      by_cases h18 : (l[0]!) < 0
      · refine OPS.batch 0 {} [] [1, 3, 4, 5, 61, 73] [.pointer (some ⟨g3, 0, none⟩), .bool false, .bool true, .bool true, .bool true, .bool (decide ((l[0]!) < 0))] .nil (by kernel_rfl) (fun b19 => ?_)
        refine OPS.re [.pointer (some ⟨g3, 0, none⟩), .bool false, .bool true, .bool true, .bool true, .bool true] (by rw [show (decide ((l[0]!) < 0)) = true from Bp.dec.tt h18]) ?_
        refine OPS.batch 7 { wraps := [79, 80] } [] [1, 3, 4, 5, 80] [.pointer (some ⟨g3, 0, none⟩), .bool false, .bool true, .bool true, .bool true] .nil (by kernel_rfl) (fun b20 => ?_)
        refine OPS.nil ?_
        refine thn_n ?_
        exact ⟨true, trivial, Bp.of Bp.t (by first | (simp only [h11, h18, iff_false, false_iff, iff_true, true_iff, Classical.not_not, and_true, true_and, and_false, false_and, or_true, true_or, or_false, false_or, not_true_eq_false, not_false_eq_true, and_self, or_self, iff_self]; done) | (simp [h11, h18]; done) | grind | (simp_all; done)), by kernel_rfl, hp2⟩
      · refine OPS.batch 0 {} [] [1, 3, 4, 5, 61, 73] [.pointer (some ⟨g3, 0, none⟩), .bool false, .bool true, .bool true, .bool true, .bool (decide ((l[0]!) < 0))] .nil (by kernel_rfl) (fun b21 => ?_)
        refine OPS.re [.pointer (some ⟨g3, 0, none⟩), .bool false, .bool true, .bool true, .bool true, .bool false] (by rw [show (decide ((l[0]!) < 0)) = false from Bp.dec.ff h18]) ?_
        refine OPS.batch 7 { wraps := [79, 80] } [.slice L.a L.n L.c, .int .i64 (l[0]!)] [1, 3, 4, 5, 80] [.pointer (some ⟨g3, 0, none⟩), .bool false, .bool true, .bool true, .bool (decide (4294967295 < (l[0]!)))] (.cons (Ld.row1 (P := Tryd.prog) (t := 27) (o := 5) (v := .slice L.a L.n L.c) hp2.get0 (by kernel_rfl)) (.cons (show InB (0) (L.n) from ⟨by omega, by omega⟩) (.cons ((hL.at hp2).some (by omega)) (.cons (Ld.add0 (Ld.el1 (P := Tryd.prog) (t := 3) (hL.at hp2).rd 1 (fun _ => rfl) hy16 (o := 0) (v := .int .i64 (l[0]!)) (by kernel_rfl))) .nil)))) (by kernel_rfl) (fun b22 => ?_)
        refine OPS.nil ?_
        refine thn_n ?_
        exact ⟨decide (4294967295 < (l[0]!)), trivial, Bp.of Bp.dec (by first | (simp only [h11, h18, iff_false, false_iff, iff_true, true_iff, Classical.not_not, and_true, true_and, and_false, false_and, or_true, true_or, or_false, false_or, not_true_eq_false, not_false_eq_true, and_self, or_self, iff_self]; done) | (simp [h11, h18]; done) | grind | (simp_all; done)), by kernel_rfl, hp2⟩
    · refine OPS.batch 0 {} [] [1, 3, 4, 5, 61, 66] [.pointer (some ⟨g3, 0, none⟩), .bool false, .bool true, .bool true, .bool true, .bool (decide (¬ (((L.n : Nat) : Int) = 1)))] .nil (by kernel_rfl) (fun b12 => ?_)
      refine OPS.re [.pointer (some ⟨g3, 0, none⟩), .bool false, .bool true, .bool true, .bool true, .bool true] (by rw [show (decide (¬ (((L.n : Nat) : Int) = 1))) = true from Bp.dec.tt h11]) ?_
      refine OPS.batch 14 { wraps := [72, 79, 80] } [] [1, 3, 4, 5, 80] [.pointer (some ⟨g3, 0, none⟩), .bool false, .bool true, .bool true, .bool true] .nil (by kernel_rfl) (fun b13 => ?_)
      refine OPS.nil ?_
      refine thn_n ?_
      exact ⟨true, trivial, Bp.of Bp.t (by first | (simp only [h11, iff_false, false_iff, iff_true, true_iff, Classical.not_not, and_true, true_and, and_false, false_and, or_true, true_or, or_false, false_or, not_true_eq_false, not_false_eq_true, and_self, or_self, iff_self]; done) | (simp [h11]; done) | grind | (simp_all; done)), by kernel_rfl, hp2⟩
  rintro e25 w26 ⟨x23, hd28, hb24, hE29, hp27⟩
  obtain ⟨b30, rfl⟩ := toMk hE29
  clear hE29
  clear hd28
  refine WP.test (p := ((¬ (((L.n : Nat) : Int) = 1))) ∨ ((((L.n : Nat) : Int) = 1) ∧ ((l[0]!) < 0)) ∨ ((((L.n : Nat) : Int) = 1) ∧ (¬ ((l[0]!) < 0)) ∧ (4294967295 < (l[0]!)))) rfl hb24 (fun h31 => ?_) (fun h31 => ?_)
  · refine WP.seq ?_
    refine WP.pure {} [] [2] [.bool false] .nil (by kernel_rfl) (fun b32 => ?_)
    refine thn_n ?_
    refine WP.ret ?_
    refine thn_r ?_
    refine bodyQ.of _ rfl [.bool false] ⟨rfl, trivial⟩ ?_
    exact ⟨_, rfl, Bp.of Bp.f (by rw [okS_9]; clear hL; have q0_ := h31; first | omega | grind | (simp_all; done) | (simp_all; omega)), hp27.fr⟩
  · refine WP.skip ?_
    refine thn_n ?_
    refine WP.cut (fun e47 w48 => ∃ (x45 : Bool), (True) ∧ Bp x45 ((Ky = ⟨#[]⟩) ∧ (((V.n : Nat) : Int) = 0)) ∧ List.map e47 [2] = [.bool x45] ∧ Hp w Non [Res.row g3 [.int .i64 9, .int .i64 A, .int .i64 B, .string Ky, .slice V.a V.n V.c, .slice L.a L.n L.c] 29] w48) ?_ ?_
    · refine WP.region _ rfl (by kernel_rfl) ?_
      refine OPS.batch 25 { wraps := [88, 95, 96, 103, 104] } [.int .i64 9, .string Ky] [1, 5, 105] [.pointer (some ⟨g3, 0, none⟩), .bool true, .bool (decide (Ky = ⟨#[]⟩))] (.cons (Ld.row1 (P := Tryd.prog) (t := 3) (o := 0) (v := .int .i64 9) hp27.get0 (by kernel_rfl)) (.cons (Ld.row1 (P := Tryd.prog) (t := 9) (o := 3) (v := .string Ky) hp27.get0 (by kernel_rfl)) .nil)) (by kernel_rfl) (fun b34 => ?_)
      by_cases h35 : Ky = ⟨#[]⟩
      · refine OPS.batch 0 {} [] [1, 5, 105] [.pointer (some ⟨g3, 0, none⟩), .bool true, .bool (decide (Ky = ⟨#[]⟩))] .nil (by kernel_rfl) (fun b36 => ?_)
        refine OPS.re [.pointer (some ⟨g3, 0, none⟩), .bool true, .bool true] (by rw [show (decide (Ky = ⟨#[]⟩)) = true from Bp.dec.tt h35]) ?_
        refine OPS.batch 11 { wraps := [114, 115] } [.int .i64 9, .slice V.a V.n V.c] [1, 5, 116] [.pointer (some ⟨g3, 0, none⟩), .bool true, .bool (decide (((V.n : Nat) : Int) = 0))] (.cons (Ld.row1 (P := Tryd.prog) (t := 3) (o := 0) (v := .int .i64 9) hp27.get0 (by kernel_rfl)) (.cons (Ld.row1 (P := Tryd.prog) (t := 26) (o := 4) (v := .slice V.a V.n V.c) hp27.get0 (by kernel_rfl)) .nil)) (by kernel_rfl) (fun b37 => ?_)
        by_cases h38 : ((V.n : Nat) : Int) = 0
        · refine OPS.batch 0 {} [] [1, 5, 116] [.pointer (some ⟨g3, 0, none⟩), .bool true, .bool (decide (((V.n : Nat) : Int) = 0))] .nil (by kernel_rfl) (fun b39 => ?_)
          refine OPS.re [.pointer (some ⟨g3, 0, none⟩), .bool true, .bool true] (by rw [show (decide (((V.n : Nat) : Int) = 0)) = true from Bp.dec.tt h38]) ?_
          refine OPS.batch 9 { wraps := [123, 124] } [] [2] [.bool true] .nil (by kernel_rfl) (fun b40 => ?_)
          refine OPS.nil ?_
          refine thn_n ?_
          exact ⟨true, trivial, Bp.of Bp.t (by first | (simp only [h35, h38, iff_false, false_iff, iff_true, true_iff, Classical.not_not, and_true, true_and, and_false, false_and, or_true, true_or, or_false, false_or, not_true_eq_false, not_false_eq_true, and_self, or_self, iff_self]; done) | (simp [h35, h38]; done) | grind | (simp_all; done)), by kernel_rfl, hp27⟩
        · refine OPS.batch 0 {} [] [1, 5, 116] [.pointer (some ⟨g3, 0, none⟩), .bool true, .bool (decide (((V.n : Nat) : Int) = 0))] .nil (by kernel_rfl) (fun b41 => ?_)
          refine OPS.re [.pointer (some ⟨g3, 0, none⟩), .bool true, .bool false] (by rw [show (decide (((V.n : Nat) : Int) = 0)) = false from Bp.dec.ff h38]) ?_
          refine OPS.batch 9 { wraps := [124] } [] [2] [.bool false] .nil (by kernel_rfl) (fun b42 => ?_)
          refine OPS.nil ?_
          refine thn_n ?_
          exact ⟨false, trivial, Bp.of Bp.f (by first | (simp only [h35, h38, iff_false, false_iff, iff_true, true_iff, Classical.not_not, and_true, true_and, and_false, false_and, or_true, true_or, or_false, false_or, not_true_eq_false, not_false_eq_true, and_self, or_self, iff_self]; done) | (simp [h35, h38]; done) | grind | (simp_all; done)), by kernel_rfl, hp27⟩
      · refine OPS.batch 0 {} [] [1, 5, 105] [.pointer (some ⟨g3, 0, none⟩), .bool true, .bool (decide (Ky = ⟨#[]⟩))] .nil (by kernel_rfl) (fun b43 => ?_)
        refine OPS.re [.pointer (some ⟨g3, 0, none⟩), .bool true, .bool false] (by rw [show (decide (Ky = ⟨#[]⟩)) = false from Bp.dec.ff h35]) ?_
        refine OPS.batch 20 { wraps := [115, 124] } [] [2] [.bool false] .nil (by kernel_rfl) (fun b44 => ?_)
        refine OPS.nil ?_
        refine thn_n ?_
        exact ⟨false, trivial, Bp.of Bp.f (by first | (simp only [h35, iff_false, false_iff, iff_true, true_iff, Classical.not_not, and_true, true_and, and_false, false_and, or_true, true_or, or_false, false_or, not_true_eq_false, not_false_eq_true, and_self, or_self, iff_self]; done) | (simp [h35]; done) | grind | (simp_all; done)), by kernel_rfl, hp27⟩
    rintro e47 w48 ⟨x45, hd50, hb46, hE51, hp49⟩
    obtain ⟨b52, rfl⟩ := toMk hE51
    clear hE51
    clear hd50
    refine WP.ret ?_
    refine bodyQ.of _ rfl [.bool x45] ⟨rfl, trivial⟩ ?_
    exact ⟨_, rfl, Bp.of hb46 (by rw [okS_9]; clear hL; have q0_ := h31; first | omega | grind | (simp_all; done) | (simp_all; omega)), hp49.fr⟩

theorem ft_k10 (A B : Int) (Ky : ByteArray) (V L : SlH) (v : ByteArray) (l : List Int) (w : World) (hv : V.n = v.size) (hn : L.n = l.length) (hL : SlR w L.a L.n (l.flatMap i64c)) :
    Calls Tryd.prog 6 #[GStep.val (⟨10, A, B, Ky, V, L⟩ : GStep)] w (fun r_ w' => ∃ f_, r_ = .returned (.bool f_) ∧ Bp f_ (okS ⟨10, A, B, Ky, v, l⟩) ∧ Fram Non w w') := by
  refine calls_of Tryd.func6 rfl 125 rfl (by simp) ?_
  have hp0 := Hp.init w
  have he0 : List.map (env0 [GStep.val (⟨10, A, B, Ky, V, L⟩ : GStep)]) [0] = [GStep.val (⟨10, A, B, Ky, V, L⟩ : GStep)] := by kernel_rfl
  obtain ⟨b0, he0⟩ := toMk he0
  rw [he0]
  clear he0
  refine WP.seq ?_
  refine WP.region _ rfl (by kernel_rfl) ?_
  refine OPS.cons (opStep.box hp0 [.int .i64 10, .int .i64 A, .int .i64 B, .string Ky, .slice V.a V.n V.c, .slice L.a L.n L.c] (by kernel_rfl) (fun g3 w1 hp2 => ?_))
  refine OPS.batch 1 {} [] [1] [.pointer (some ⟨g3, 0, none⟩)] .nil (by kernel_rfl) (fun b4 => ?_)
  refine OPS.nil ?_
  refine thn_n ?_
  refine WP.seq ?_
  refine WP.seq ?_
  refine WP.pure { wraps := [13] } [.int .i64 10, .int .i64 10] [1, 13] [.pointer (some ⟨g3, 0, none⟩), .bool false] (.cons (Ld.row1 (P := Tryd.prog) (t := 3) (o := 0) (v := .int .i64 10) hp2.get0 (by kernel_rfl)) (.cons (Ld.row1 (P := Tryd.prog) (t := 3) (o := 0) (v := .int .i64 10) hp2.get0 (by kernel_rfl)) .nil)) (by kernel_rfl) (fun b5 => ?_)
  refine thn_n ?_
  refine WP.condF rfl ?_
  refine WP.skip ?_
  refine thn_n ?_
  refine WP.seq ?_
  refine WP.pure { wraps := [21] } [.int .i64 10, .int .i64 10] [1, 3] [.pointer (some ⟨g3, 0, none⟩), .bool false] (.cons (Ld.row1 (P := Tryd.prog) (t := 3) (o := 0) (v := .int .i64 10) hp2.get0 (by kernel_rfl)) (.cons (Ld.row1 (P := Tryd.prog) (t := 3) (o := 0) (v := .int .i64 10) hp2.get0 (by kernel_rfl)) .nil)) (by kernel_rfl) (fun b6 => ?_)
  refine thn_n ?_
  refine WP.seq ?_
  refine WP.pure { wraps := [29, 34, 39] } [.int .i64 10, .int .i64 10] [1, 3, 4] [.pointer (some ⟨g3, 0, none⟩), .bool false, .bool true] (.cons (Ld.row1 (P := Tryd.prog) (t := 3) (o := 0) (v := .int .i64 10) hp2.get0 (by kernel_rfl)) (.cons (Ld.row1 (P := Tryd.prog) (t := 3) (o := 0) (v := .int .i64 10) hp2.get0 (by kernel_rfl)) .nil)) (by kernel_rfl) (fun b7 => ?_)
  refine thn_n ?_
  refine WP.seq ?_
  refine WP.pure { wraps := [47, 52, 57] } [.int .i64 10, .int .i64 10, .int .i64 10, .int .i64 10] [1, 3, 4, 5] [.pointer (some ⟨g3, 0, none⟩), .bool false, .bool true, .bool false] (.cons (Ld.row1 (P := Tryd.prog) (t := 3) (o := 0) (v := .int .i64 10) hp2.get0 (by kernel_rfl)) (.cons (Ld.row1 (P := Tryd.prog) (t := 3) (o := 0) (v := .int .i64 10) hp2.get0 (by kernel_rfl)) (.cons (Ld.row1 (P := Tryd.prog) (t := 3) (o := 0) (v := .int .i64 10) hp2.get0 (by kernel_rfl)) (.cons (Ld.row1 (P := Tryd.prog) (t := 3) (o := 0) (v := .int .i64 10) hp2.get0 (by kernel_rfl)) .nil)))) (by kernel_rfl) (fun b8 => ?_)
  refine thn_n ?_
  refine WP.seq ?_
  refine WP.seq ?_
  refine WP.pure { wraps := [80] } [.int .i64 10] [1, 3, 4, 5, 80] [.pointer (some ⟨g3, 0, none⟩), .bool false, .bool true, .bool false, .bool false] (.cons (Ld.row1 (P := Tryd.prog) (t := 3) (o := 0) (v := .int .i64 10) hp2.get0 (by kernel_rfl)) .nil) (by kernel_rfl) (fun b9 => ?_)
  refine thn_n ?_
  refine WP.condF rfl ?_
  refine WP.skip ?_
  refine thn_n ?_
  refine WP.cut (fun e24 w25 => ∃ (x22 : Bool), (True) ∧ Bp x22 ((Ky = ⟨#[]⟩) ∧ (((V.n : Nat) : Int) = 0) ∧ (((L.n : Nat) : Int) = 0)) ∧ List.map e24 [2] = [.bool x22] ∧ Hp w Non [Res.row g3 [.int .i64 10, .int .i64 A, .int .i64 B, .string Ky, .slice V.a V.n V.c, .slice L.a L.n L.c] 29] w25) ?_ ?_
  · refine WP.region _ rfl (by kernel_rfl) ?_
    refine OPS.batch 25 { wraps := [88, 95, 96, 103, 104] } [.int .i64 10, .string Ky] [1, 5, 105] [.pointer (some ⟨g3, 0, none⟩), .bool false, .bool (decide (Ky = ⟨#[]⟩))] (.cons (Ld.row1 (P := Tryd.prog) (t := 3) (o := 0) (v := .int .i64 10) hp2.get0 (by kernel_rfl)) (.cons (Ld.row1 (P := Tryd.prog) (t := 9) (o := 3) (v := .string Ky) hp2.get0 (by kernel_rfl)) .nil)) (by kernel_rfl) (fun b11 => ?_)
    by_cases h12 : Ky = ⟨#[]⟩
    · refine OPS.batch 0 {} [] [1, 5, 105] [.pointer (some ⟨g3, 0, none⟩), .bool false, .bool (decide (Ky = ⟨#[]⟩))] .nil (by kernel_rfl) (fun b13 => ?_)
      refine OPS.re [.pointer (some ⟨g3, 0, none⟩), .bool false, .bool true] (by rw [show (decide (Ky = ⟨#[]⟩)) = true from Bp.dec.tt h12]) ?_
      refine OPS.batch 11 { wraps := [114, 115] } [.int .i64 10, .slice V.a V.n V.c] [1, 5, 116] [.pointer (some ⟨g3, 0, none⟩), .bool false, .bool (decide (((V.n : Nat) : Int) = 0))] (.cons (Ld.row1 (P := Tryd.prog) (t := 3) (o := 0) (v := .int .i64 10) hp2.get0 (by kernel_rfl)) (.cons (Ld.row1 (P := Tryd.prog) (t := 26) (o := 4) (v := .slice V.a V.n V.c) hp2.get0 (by kernel_rfl)) .nil)) (by kernel_rfl) (fun b14 => ?_)
      by_cases h15 : ((V.n : Nat) : Int) = 0
      · refine OPS.batch 0 {} [] [1, 5, 116] [.pointer (some ⟨g3, 0, none⟩), .bool false, .bool (decide (((V.n : Nat) : Int) = 0))] .nil (by kernel_rfl) (fun b16 => ?_)
        refine OPS.re [.pointer (some ⟨g3, 0, none⟩), .bool false, .bool true] (by rw [show (decide (((V.n : Nat) : Int) = 0)) = true from Bp.dec.tt h15]) ?_
        refine OPS.batch 9 { wraps := [123, 124] } [.slice L.a L.n L.c] [2] [.bool (decide (((L.n : Nat) : Int) = 0))] (.cons (Ld.row1 (P := Tryd.prog) (t := 27) (o := 5) (v := .slice L.a L.n L.c) hp2.get0 (by kernel_rfl)) .nil) (by kernel_rfl) (fun b17 => ?_)
        refine OPS.nil ?_
        refine thn_n ?_
        exact ⟨decide (((L.n : Nat) : Int) = 0), trivial, Bp.of Bp.dec (by first | (simp only [h12, h15, iff_false, false_iff, iff_true, true_iff, Classical.not_not, and_true, true_and, and_false, false_and, or_true, true_or, or_false, false_or, not_true_eq_false, not_false_eq_true, and_self, or_self, iff_self]; done) | (simp [h12, h15]; done) | grind | (simp_all; done)), by kernel_rfl, hp2⟩
      · refine OPS.batch 0 {} [] [1, 5, 116] [.pointer (some ⟨g3, 0, none⟩), .bool false, .bool (decide (((V.n : Nat) : Int) = 0))] .nil (by kernel_rfl) (fun b18 => ?_)
        refine OPS.re [.pointer (some ⟨g3, 0, none⟩), .bool false, .bool false] (by rw [show (decide (((V.n : Nat) : Int) = 0)) = false from Bp.dec.ff h15]) ?_
        refine OPS.batch 9 { wraps := [124] } [] [2] [.bool false] .nil (by kernel_rfl) (fun b19 => ?_)
        refine OPS.nil ?_
        refine thn_n ?_
        exact ⟨false, trivial, Bp.of Bp.f (by first | (simp only [h12, h15, iff_false, false_iff, iff_true, true_iff, Classical.not_not, and_true, true_and, and_false, false_and, or_true, true_or, or_false, false_or, not_true_eq_false, not_false_eq_true, and_self, or_self, iff_self]; done) | (simp [h12, h15]; done) | grind | (simp_all; done)), by kernel_rfl, hp2⟩
    · refine OPS.batch 0 {} [] [1, 5, 105] [.pointer (some ⟨g3, 0, none⟩), .bool false, .bool (decide (Ky = ⟨#[]⟩))] .nil (by kernel_rfl) (fun b20 => ?_)
      refine OPS.re [.pointer (some ⟨g3, 0, none⟩), .bool false, .bool false] (by rw [show (decide (Ky = ⟨#[]⟩)) = false from Bp.dec.ff h12]) ?_
      refine OPS.batch 20 { wraps := [115, 124] } [] [2] [.bool false] .nil (by kernel_rfl) (fun b21 => ?_)
      refine OPS.nil ?_
      refine thn_n ?_
      exact ⟨false, trivial, Bp.of Bp.f (by first | (simp only [h12, iff_false, false_iff, iff_true, true_iff, Classical.not_not, and_true, true_and, and_false, false_and, or_true, true_or, or_false, false_or, not_true_eq_false, not_false_eq_true, and_self, or_self, iff_self]; done) | (simp [h12]; done) | grind | (simp_all; done)), by kernel_rfl, hp2⟩
  rintro e24 w25 ⟨x22, hd27, hb23, hE28, hp26⟩
  obtain ⟨b29, rfl⟩ := toMk hE28
  clear hE28
  clear hd27
  refine WP.ret ?_
  refine bodyQ.of _ rfl [.bool x22] ⟨rfl, trivial⟩ ?_
  exact ⟨_, rfl, Bp.of hb23 (by rw [okS_10]; clear hL; skip; first | omega | grind | (simp_all; done) | (simp_all; omega)), hp26.fr⟩

theorem ft_k12 (A B : Int) (Ky : ByteArray) (V L : SlH) (v : ByteArray) (l : List Int) (w : World) (hv : V.n = v.size) (hn : L.n = l.length) (hL : SlR w L.a L.n (l.flatMap i64c)) :
    Calls Tryd.prog 6 #[GStep.val (⟨12, A, B, Ky, V, L⟩ : GStep)] w (fun r_ w' => ∃ f_, r_ = .returned (.bool f_) ∧ Bp f_ (okS ⟨12, A, B, Ky, v, l⟩) ∧ Fram Non w w') := by
  refine calls_of Tryd.func6 rfl 125 rfl (by simp) ?_
  have hp0 := Hp.init w
  have he0 : List.map (env0 [GStep.val (⟨12, A, B, Ky, V, L⟩ : GStep)]) [0] = [GStep.val (⟨12, A, B, Ky, V, L⟩ : GStep)] := by kernel_rfl
  obtain ⟨b0, he0⟩ := toMk he0
  rw [he0]
  clear he0
  refine WP.seq ?_
  refine WP.region _ rfl (by kernel_rfl) ?_
  refine OPS.cons (opStep.box hp0 [.int .i64 12, .int .i64 A, .int .i64 B, .string Ky, .slice V.a V.n V.c, .slice L.a L.n L.c] (by kernel_rfl) (fun g3 w1 hp2 => ?_))
  refine OPS.batch 1 {} [] [1] [.pointer (some ⟨g3, 0, none⟩)] .nil (by kernel_rfl) (fun b4 => ?_)
  refine OPS.nil ?_
  refine thn_n ?_
  refine WP.seq ?_
  refine WP.seq ?_
  refine WP.pure { wraps := [13] } [.int .i64 12, .int .i64 12] [1, 13] [.pointer (some ⟨g3, 0, none⟩), .bool false] (.cons (Ld.row1 (P := Tryd.prog) (t := 3) (o := 0) (v := .int .i64 12) hp2.get0 (by kernel_rfl)) (.cons (Ld.row1 (P := Tryd.prog) (t := 3) (o := 0) (v := .int .i64 12) hp2.get0 (by kernel_rfl)) .nil)) (by kernel_rfl) (fun b5 => ?_)
  refine thn_n ?_
  refine WP.condF rfl ?_
  refine WP.skip ?_
  refine thn_n ?_
  refine WP.seq ?_
  refine WP.pure { wraps := [21] } [.int .i64 12, .int .i64 12] [1, 3] [.pointer (some ⟨g3, 0, none⟩), .bool false] (.cons (Ld.row1 (P := Tryd.prog) (t := 3) (o := 0) (v := .int .i64 12) hp2.get0 (by kernel_rfl)) (.cons (Ld.row1 (P := Tryd.prog) (t := 3) (o := 0) (v := .int .i64 12) hp2.get0 (by kernel_rfl)) .nil)) (by kernel_rfl) (fun b6 => ?_)
  refine thn_n ?_
  refine WP.seq ?_
  refine WP.pure { wraps := [29, 34, 39] } [.int .i64 12, .int .i64 12, .int .i64 12, .int .i64 12] [1, 3, 4] [.pointer (some ⟨g3, 0, none⟩), .bool false, .bool false] (.cons (Ld.row1 (P := Tryd.prog) (t := 3) (o := 0) (v := .int .i64 12) hp2.get0 (by kernel_rfl)) (.cons (Ld.row1 (P := Tryd.prog) (t := 3) (o := 0) (v := .int .i64 12) hp2.get0 (by kernel_rfl)) (.cons (Ld.row1 (P := Tryd.prog) (t := 3) (o := 0) (v := .int .i64 12) hp2.get0 (by kernel_rfl)) (.cons (Ld.row1 (P := Tryd.prog) (t := 3) (o := 0) (v := .int .i64 12) hp2.get0 (by kernel_rfl)) .nil)))) (by kernel_rfl) (fun b7 => ?_)
  refine thn_n ?_
  refine WP.seq ?_
  refine WP.pure { wraps := [47, 52, 57] } [.int .i64 12, .int .i64 12] [1, 3, 4, 5] [.pointer (some ⟨g3, 0, none⟩), .bool false, .bool false, .bool true] (.cons (Ld.row1 (P := Tryd.prog) (t := 3) (o := 0) (v := .int .i64 12) hp2.get0 (by kernel_rfl)) (.cons (Ld.row1 (P := Tryd.prog) (t := 3) (o := 0) (v := .int .i64 12) hp2.get0 (by kernel_rfl)) .nil)) (by kernel_rfl) (fun b8 => ?_)
  refine thn_n ?_
  refine WP.seq ?_
  refine WP.seq ?_
  refine WP.pure { wraps := [80] } [.int .i64 12] [1, 3, 4, 5, 80] [.pointer (some ⟨g3, 0, none⟩), .bool false, .bool false, .bool true, .bool false] (.cons (Ld.row1 (P := Tryd.prog) (t := 3) (o := 0) (v := .int .i64 12) hp2.get0 (by kernel_rfl)) .nil) (by kernel_rfl) (fun b9 => ?_)
  refine thn_n ?_
  refine WP.condF rfl ?_
  refine WP.skip ?_
  refine thn_n ?_
  refine WP.cut (fun e29 w30 => ∃ (x27 : Bool), (True) ∧ Bp x27 ((B = 0) ∧ (Ky = ⟨#[]⟩) ∧ (((V.n : Nat) : Int) = 0)) ∧ List.map e29 [2] = [.bool x27] ∧ Hp w Non [Res.row g3 [.int .i64 12, .int .i64 A, .int .i64 B, .string Ky, .slice V.a V.n V.c, .slice L.a L.n L.c] 29] w30) ?_ ?_
  · refine WP.region _ rfl (by kernel_rfl) ?_
    refine OPS.batch 17 { wraps := [88, 95, 96] } [.int .i64 12, .int .i64 B] [1, 3, 5, 97] [.pointer (some ⟨g3, 0, none⟩), .bool false, .bool true, .bool (decide (B = 0))] (.cons (Ld.row1 (P := Tryd.prog) (t := 3) (o := 0) (v := .int .i64 12) hp2.get0 (by kernel_rfl)) (.cons (Ld.row1 (P := Tryd.prog) (t := 3) (o := 2) (v := .int .i64 B) hp2.get0 (by kernel_rfl)) .nil)) (by kernel_rfl) (fun b11 => ?_)
    by_cases h12 : B = 0
    · refine OPS.batch 0 {} [] [1, 3, 5, 97] [.pointer (some ⟨g3, 0, none⟩), .bool false, .bool true, .bool (decide (B = 0))] .nil (by kernel_rfl) (fun b13 => ?_)
      refine OPS.re [.pointer (some ⟨g3, 0, none⟩), .bool false, .bool true, .bool true] (by rw [show (decide (B = 0)) = true from Bp.dec.tt h12]) ?_
      refine OPS.batch 8 { wraps := [103, 104] } [.string Ky] [1, 5, 105] [.pointer (some ⟨g3, 0, none⟩), .bool true, .bool (decide (Ky = ⟨#[]⟩))] (.cons (Ld.row1 (P := Tryd.prog) (t := 9) (o := 3) (v := .string Ky) hp2.get0 (by kernel_rfl)) .nil) (by kernel_rfl) (fun b14 => ?_)
      by_cases h15 : Ky = ⟨#[]⟩
      · refine OPS.batch 0 {} [] [1, 5, 105] [.pointer (some ⟨g3, 0, none⟩), .bool true, .bool (decide (Ky = ⟨#[]⟩))] .nil (by kernel_rfl) (fun b16 => ?_)
        refine OPS.re [.pointer (some ⟨g3, 0, none⟩), .bool true, .bool true] (by rw [show (decide (Ky = ⟨#[]⟩)) = true from Bp.dec.tt h15]) ?_
        refine OPS.batch 11 { wraps := [114, 115] } [.int .i64 12, .slice V.a V.n V.c] [1, 5, 116] [.pointer (some ⟨g3, 0, none⟩), .bool true, .bool (decide (((V.n : Nat) : Int) = 0))] (.cons (Ld.row1 (P := Tryd.prog) (t := 3) (o := 0) (v := .int .i64 12) hp2.get0 (by kernel_rfl)) (.cons (Ld.row1 (P := Tryd.prog) (t := 26) (o := 4) (v := .slice V.a V.n V.c) hp2.get0 (by kernel_rfl)) .nil)) (by kernel_rfl) (fun b17 => ?_)
        by_cases h18 : ((V.n : Nat) : Int) = 0
        · refine OPS.batch 0 {} [] [1, 5, 116] [.pointer (some ⟨g3, 0, none⟩), .bool true, .bool (decide (((V.n : Nat) : Int) = 0))] .nil (by kernel_rfl) (fun b19 => ?_)
          refine OPS.re [.pointer (some ⟨g3, 0, none⟩), .bool true, .bool true] (by rw [show (decide (((V.n : Nat) : Int) = 0)) = true from Bp.dec.tt h18]) ?_
          refine OPS.batch 9 { wraps := [123, 124] } [] [2] [.bool true] .nil (by kernel_rfl) (fun b20 => ?_)
          refine OPS.nil ?_
          refine thn_n ?_
          exact ⟨true, trivial, Bp.of Bp.t (by first | (simp only [h12, h15, h18, iff_false, false_iff, iff_true, true_iff, Classical.not_not, and_true, true_and, and_false, false_and, or_true, true_or, or_false, false_or, not_true_eq_false, not_false_eq_true, and_self, or_self, iff_self]; done) | (simp [h12, h15, h18]; done) | grind | (simp_all; done)), by kernel_rfl, hp2⟩
        · refine OPS.batch 0 {} [] [1, 5, 116] [.pointer (some ⟨g3, 0, none⟩), .bool true, .bool (decide (((V.n : Nat) : Int) = 0))] .nil (by kernel_rfl) (fun b21 => ?_)
          refine OPS.re [.pointer (some ⟨g3, 0, none⟩), .bool true, .bool false] (by rw [show (decide (((V.n : Nat) : Int) = 0)) = false from Bp.dec.ff h18]) ?_
          refine OPS.batch 9 { wraps := [124] } [] [2] [.bool false] .nil (by kernel_rfl) (fun b22 => ?_)
          refine OPS.nil ?_
          refine thn_n ?_
          exact ⟨false, trivial, Bp.of Bp.f (by first | (simp only [h12, h15, h18, iff_false, false_iff, iff_true, true_iff, Classical.not_not, and_true, true_and, and_false, false_and, or_true, true_or, or_false, false_or, not_true_eq_false, not_false_eq_true, and_self, or_self, iff_self]; done) | (simp [h12, h15, h18]; done) | grind | (simp_all; done)), by kernel_rfl, hp2⟩
      · refine OPS.batch 0 {} [] [1, 5, 105] [.pointer (some ⟨g3, 0, none⟩), .bool true, .bool (decide (Ky = ⟨#[]⟩))] .nil (by kernel_rfl) (fun b23 => ?_)
        refine OPS.re [.pointer (some ⟨g3, 0, none⟩), .bool true, .bool false] (by rw [show (decide (Ky = ⟨#[]⟩)) = false from Bp.dec.ff h15]) ?_
        refine OPS.batch 20 { wraps := [115, 124] } [] [2] [.bool false] .nil (by kernel_rfl) (fun b24 => ?_)
        refine OPS.nil ?_
        refine thn_n ?_
        exact ⟨false, trivial, Bp.of Bp.f (by first | (simp only [h12, h15, iff_false, false_iff, iff_true, true_iff, Classical.not_not, and_true, true_and, and_false, false_and, or_true, true_or, or_false, false_or, not_true_eq_false, not_false_eq_true, and_self, or_self, iff_self]; done) | (simp [h12, h15]; done) | grind | (simp_all; done)), by kernel_rfl, hp2⟩
    · refine OPS.batch 0 {} [] [1, 3, 5, 97] [.pointer (some ⟨g3, 0, none⟩), .bool false, .bool true, .bool (decide (B = 0))] .nil (by kernel_rfl) (fun b25 => ?_)
      refine OPS.re [.pointer (some ⟨g3, 0, none⟩), .bool false, .bool true, .bool false] (by rw [show (decide (B = 0)) = false from Bp.dec.ff h12]) ?_
      refine OPS.batch 28 { wraps := [104, 115, 124] } [] [2] [.bool false] .nil (by kernel_rfl) (fun b26 => ?_)
      refine OPS.nil ?_
      refine thn_n ?_
      exact ⟨false, trivial, Bp.of Bp.f (by first | (simp only [h12, iff_false, false_iff, iff_true, true_iff, Classical.not_not, and_true, true_and, and_false, false_and, or_true, true_or, or_false, false_or, not_true_eq_false, not_false_eq_true, and_self, or_self, iff_self]; done) | (simp [h12]; done) | grind | (simp_all; done)), by kernel_rfl, hp2⟩
  rintro e29 w30 ⟨x27, hd32, hb28, hE33, hp31⟩
  obtain ⟨b34, rfl⟩ := toMk hE33
  clear hE33
  clear hd32
  refine WP.ret ?_
  refine bodyQ.of _ rfl [.bool x27] ⟨rfl, trivial⟩ ?_
  exact ⟨_, rfl, Bp.of hb28 (by rw [okS_12]; clear hL; skip; first | omega | grind | (simp_all; done) | (simp_all; omega)), hp31.fr⟩

theorem ft_k14 (A B : Int) (Ky : ByteArray) (V L : SlH) (v : ByteArray) (l : List Int) (w : World) (hv : V.n = v.size) (hn : L.n = l.length) (hL : SlR w L.a L.n (l.flatMap i64c)) :
    Calls Tryd.prog 6 #[GStep.val (⟨14, A, B, Ky, V, L⟩ : GStep)] w (fun r_ w' => ∃ f_, r_ = .returned (.bool f_) ∧ Bp f_ (okS ⟨14, A, B, Ky, v, l⟩) ∧ Fram Non w w') := by
  refine calls_of Tryd.func6 rfl 125 rfl (by simp) ?_
  have hp0 := Hp.init w
  have he0 : List.map (env0 [GStep.val (⟨14, A, B, Ky, V, L⟩ : GStep)]) [0] = [GStep.val (⟨14, A, B, Ky, V, L⟩ : GStep)] := by kernel_rfl
  obtain ⟨b0, he0⟩ := toMk he0
  rw [he0]
  clear he0
  refine WP.seq ?_
  refine WP.region _ rfl (by kernel_rfl) ?_
  refine OPS.cons (opStep.box hp0 [.int .i64 14, .int .i64 A, .int .i64 B, .string Ky, .slice V.a V.n V.c, .slice L.a L.n L.c] (by kernel_rfl) (fun g3 w1 hp2 => ?_))
  refine OPS.batch 1 {} [] [1] [.pointer (some ⟨g3, 0, none⟩)] .nil (by kernel_rfl) (fun b4 => ?_)
  refine OPS.nil ?_
  refine thn_n ?_
  refine WP.seq ?_
  refine WP.seq ?_
  refine WP.pure { wraps := [13] } [.int .i64 14, .int .i64 14] [1, 13] [.pointer (some ⟨g3, 0, none⟩), .bool false] (.cons (Ld.row1 (P := Tryd.prog) (t := 3) (o := 0) (v := .int .i64 14) hp2.get0 (by kernel_rfl)) (.cons (Ld.row1 (P := Tryd.prog) (t := 3) (o := 0) (v := .int .i64 14) hp2.get0 (by kernel_rfl)) .nil)) (by kernel_rfl) (fun b5 => ?_)
  refine thn_n ?_
  refine WP.condF rfl ?_
  refine WP.skip ?_
  refine thn_n ?_
  refine WP.seq ?_
  refine WP.pure { wraps := [21] } [.int .i64 14, .int .i64 14] [1, 3] [.pointer (some ⟨g3, 0, none⟩), .bool false] (.cons (Ld.row1 (P := Tryd.prog) (t := 3) (o := 0) (v := .int .i64 14) hp2.get0 (by kernel_rfl)) (.cons (Ld.row1 (P := Tryd.prog) (t := 3) (o := 0) (v := .int .i64 14) hp2.get0 (by kernel_rfl)) .nil)) (by kernel_rfl) (fun b6 => ?_)
  refine thn_n ?_
  refine WP.seq ?_
  refine WP.pure { wraps := [29, 34, 39] } [.int .i64 14, .int .i64 14, .int .i64 14] [1, 3, 4] [.pointer (some ⟨g3, 0, none⟩), .bool false, .bool true] (.cons (Ld.row1 (P := Tryd.prog) (t := 3) (o := 0) (v := .int .i64 14) hp2.get0 (by kernel_rfl)) (.cons (Ld.row1 (P := Tryd.prog) (t := 3) (o := 0) (v := .int .i64 14) hp2.get0 (by kernel_rfl)) (.cons (Ld.row1 (P := Tryd.prog) (t := 3) (o := 0) (v := .int .i64 14) hp2.get0 (by kernel_rfl)) .nil))) (by kernel_rfl) (fun b7 => ?_)
  refine thn_n ?_
  refine WP.seq ?_
  refine WP.pure { wraps := [47, 52, 57] } [.int .i64 14, .int .i64 14, .int .i64 14] [1, 3, 4, 5] [.pointer (some ⟨g3, 0, none⟩), .bool false, .bool true, .bool true] (.cons (Ld.row1 (P := Tryd.prog) (t := 3) (o := 0) (v := .int .i64 14) hp2.get0 (by kernel_rfl)) (.cons (Ld.row1 (P := Tryd.prog) (t := 3) (o := 0) (v := .int .i64 14) hp2.get0 (by kernel_rfl)) (.cons (Ld.row1 (P := Tryd.prog) (t := 3) (o := 0) (v := .int .i64 14) hp2.get0 (by kernel_rfl)) .nil))) (by kernel_rfl) (fun b8 => ?_)
  refine thn_n ?_
  refine WP.seq ?_
  refine WP.seq ?_
  refine WP.pure { wraps := [80] } [.int .i64 14] [1, 3, 4, 5, 80] [.pointer (some ⟨g3, 0, none⟩), .bool false, .bool true, .bool true, .bool false] (.cons (Ld.row1 (P := Tryd.prog) (t := 3) (o := 0) (v := .int .i64 14) hp2.get0 (by kernel_rfl)) .nil) (by kernel_rfl) (fun b9 => ?_)
  refine thn_n ?_
  refine WP.condF rfl ?_
  refine WP.skip ?_
  refine thn_n ?_
  refine WP.cut (fun e24 w25 => ∃ (x22 : Bool), (True) ∧ Bp x22 ((Ky = ⟨#[]⟩) ∧ (((V.n : Nat) : Int) = 0)) ∧ List.map e24 [2] = [.bool x22] ∧ Hp w Non [Res.row g3 [.int .i64 14, .int .i64 A, .int .i64 B, .string Ky, .slice V.a V.n V.c, .slice L.a L.n L.c] 29] w25) ?_ ?_
  · refine WP.region _ rfl (by kernel_rfl) ?_
    refine OPS.batch 25 { wraps := [88, 95, 96, 103, 104] } [.int .i64 14, .string Ky] [1, 5, 105] [.pointer (some ⟨g3, 0, none⟩), .bool true, .bool (decide (Ky = ⟨#[]⟩))] (.cons (Ld.row1 (P := Tryd.prog) (t := 3) (o := 0) (v := .int .i64 14) hp2.get0 (by kernel_rfl)) (.cons (Ld.row1 (P := Tryd.prog) (t := 9) (o := 3) (v := .string Ky) hp2.get0 (by kernel_rfl)) .nil)) (by kernel_rfl) (fun b11 => ?_)
    by_cases h12 : Ky = ⟨#[]⟩
    · refine OPS.batch 0 {} [] [1, 5, 105] [.pointer (some ⟨g3, 0, none⟩), .bool true, .bool (decide (Ky = ⟨#[]⟩))] .nil (by kernel_rfl) (fun b13 => ?_)
      refine OPS.re [.pointer (some ⟨g3, 0, none⟩), .bool true, .bool true] (by rw [show (decide (Ky = ⟨#[]⟩)) = true from Bp.dec.tt h12]) ?_
      refine OPS.batch 11 { wraps := [114, 115] } [.int .i64 14, .slice V.a V.n V.c] [1, 5, 116] [.pointer (some ⟨g3, 0, none⟩), .bool true, .bool (decide (((V.n : Nat) : Int) = 0))] (.cons (Ld.row1 (P := Tryd.prog) (t := 3) (o := 0) (v := .int .i64 14) hp2.get0 (by kernel_rfl)) (.cons (Ld.row1 (P := Tryd.prog) (t := 26) (o := 4) (v := .slice V.a V.n V.c) hp2.get0 (by kernel_rfl)) .nil)) (by kernel_rfl) (fun b14 => ?_)
      by_cases h15 : ((V.n : Nat) : Int) = 0
      · refine OPS.batch 0 {} [] [1, 5, 116] [.pointer (some ⟨g3, 0, none⟩), .bool true, .bool (decide (((V.n : Nat) : Int) = 0))] .nil (by kernel_rfl) (fun b16 => ?_)
        refine OPS.re [.pointer (some ⟨g3, 0, none⟩), .bool true, .bool true] (by rw [show (decide (((V.n : Nat) : Int) = 0)) = true from Bp.dec.tt h15]) ?_
        refine OPS.batch 9 { wraps := [123, 124] } [] [2] [.bool true] .nil (by kernel_rfl) (fun b17 => ?_)
        refine OPS.nil ?_
        refine thn_n ?_
        exact ⟨true, trivial, Bp.of Bp.t (by first | (simp only [h12, h15, iff_false, false_iff, iff_true, true_iff, Classical.not_not, and_true, true_and, and_false, false_and, or_true, true_or, or_false, false_or, not_true_eq_false, not_false_eq_true, and_self, or_self, iff_self]; done) | (simp [h12, h15]; done) | grind | (simp_all; done)), by kernel_rfl, hp2⟩
      · refine OPS.batch 0 {} [] [1, 5, 116] [.pointer (some ⟨g3, 0, none⟩), .bool true, .bool (decide (((V.n : Nat) : Int) = 0))] .nil (by kernel_rfl) (fun b18 => ?_)
        refine OPS.re [.pointer (some ⟨g3, 0, none⟩), .bool true, .bool false] (by rw [show (decide (((V.n : Nat) : Int) = 0)) = false from Bp.dec.ff h15]) ?_
        refine OPS.batch 9 { wraps := [124] } [] [2] [.bool false] .nil (by kernel_rfl) (fun b19 => ?_)
        refine OPS.nil ?_
        refine thn_n ?_
        exact ⟨false, trivial, Bp.of Bp.f (by first | (simp only [h12, h15, iff_false, false_iff, iff_true, true_iff, Classical.not_not, and_true, true_and, and_false, false_and, or_true, true_or, or_false, false_or, not_true_eq_false, not_false_eq_true, and_self, or_self, iff_self]; done) | (simp [h12, h15]; done) | grind | (simp_all; done)), by kernel_rfl, hp2⟩
    · refine OPS.batch 0 {} [] [1, 5, 105] [.pointer (some ⟨g3, 0, none⟩), .bool true, .bool (decide (Ky = ⟨#[]⟩))] .nil (by kernel_rfl) (fun b20 => ?_)
      refine OPS.re [.pointer (some ⟨g3, 0, none⟩), .bool true, .bool false] (by rw [show (decide (Ky = ⟨#[]⟩)) = false from Bp.dec.ff h12]) ?_
      refine OPS.batch 20 { wraps := [115, 124] } [] [2] [.bool false] .nil (by kernel_rfl) (fun b21 => ?_)
      refine OPS.nil ?_
      refine thn_n ?_
      exact ⟨false, trivial, Bp.of Bp.f (by first | (simp only [h12, iff_false, false_iff, iff_true, true_iff, Classical.not_not, and_true, true_and, and_false, false_and, or_true, true_or, or_false, false_or, not_true_eq_false, not_false_eq_true, and_self, or_self, iff_self]; done) | (simp [h12]; done) | grind | (simp_all; done)), by kernel_rfl, hp2⟩
  rintro e24 w25 ⟨x22, hd27, hb23, hE28, hp26⟩
  obtain ⟨b29, rfl⟩ := toMk hE28
  clear hE28
  clear hd27
  refine WP.ret ?_
  refine bodyQ.of _ rfl [.bool x22] ⟨rfl, trivial⟩ ?_
  exact ⟨_, rfl, Bp.of hb23 (by rw [okS_14]; clear hL; skip; first | omega | grind | (simp_all; done) | (simp_all; omega)), hp26.fr⟩

theorem ft_k16 (A B : Int) (Ky : ByteArray) (V L : SlH) (v : ByteArray) (l : List Int) (w : World) (hv : V.n = v.size) (hn : L.n = l.length) (hL : SlR w L.a L.n (l.flatMap i64c)) :
    Calls Tryd.prog 6 #[GStep.val (⟨16, A, B, Ky, V, L⟩ : GStep)] w (fun r_ w' => ∃ f_, r_ = .returned (.bool f_) ∧ Bp f_ (okS ⟨16, A, B, Ky, v, l⟩) ∧ Fram Non w w') := by
  refine calls_of Tryd.func6 rfl 125 rfl (by simp) ?_
  have hp0 := Hp.init w
  have he0 : List.map (env0 [GStep.val (⟨16, A, B, Ky, V, L⟩ : GStep)]) [0] = [GStep.val (⟨16, A, B, Ky, V, L⟩ : GStep)] := by kernel_rfl
  obtain ⟨b0, he0⟩ := toMk he0
  rw [he0]
  clear he0
  refine WP.seq ?_
  refine WP.region _ rfl (by kernel_rfl) ?_
  refine OPS.cons (opStep.box hp0 [.int .i64 16, .int .i64 A, .int .i64 B, .string Ky, .slice V.a V.n V.c, .slice L.a L.n L.c] (by kernel_rfl) (fun g3 w1 hp2 => ?_))
  refine OPS.batch 1 {} [] [1] [.pointer (some ⟨g3, 0, none⟩)] .nil (by kernel_rfl) (fun b4 => ?_)
  refine OPS.nil ?_
  refine thn_n ?_
  refine WP.seq ?_
  refine WP.seq ?_
  refine WP.pure { wraps := [13] } [.int .i64 16, .int .i64 16] [1, 13] [.pointer (some ⟨g3, 0, none⟩), .bool false] (.cons (Ld.row1 (P := Tryd.prog) (t := 3) (o := 0) (v := .int .i64 16) hp2.get0 (by kernel_rfl)) (.cons (Ld.row1 (P := Tryd.prog) (t := 3) (o := 0) (v := .int .i64 16) hp2.get0 (by kernel_rfl)) .nil)) (by kernel_rfl) (fun b5 => ?_)
  refine thn_n ?_
  refine WP.condF rfl ?_
  refine WP.skip ?_
  refine thn_n ?_
  refine WP.seq ?_
  refine WP.pure { wraps := [21] } [.int .i64 16, .int .i64 16] [1, 3] [.pointer (some ⟨g3, 0, none⟩), .bool false] (.cons (Ld.row1 (P := Tryd.prog) (t := 3) (o := 0) (v := .int .i64 16) hp2.get0 (by kernel_rfl)) (.cons (Ld.row1 (P := Tryd.prog) (t := 3) (o := 0) (v := .int .i64 16) hp2.get0 (by kernel_rfl)) .nil)) (by kernel_rfl) (fun b6 => ?_)
  refine thn_n ?_
  refine WP.seq ?_
  refine WP.pure { wraps := [29, 34, 39] } [.int .i64 16, .int .i64 16, .int .i64 16, .int .i64 16] [1, 3, 4] [.pointer (some ⟨g3, 0, none⟩), .bool false, .bool true] (.cons (Ld.row1 (P := Tryd.prog) (t := 3) (o := 0) (v := .int .i64 16) hp2.get0 (by kernel_rfl)) (.cons (Ld.row1 (P := Tryd.prog) (t := 3) (o := 0) (v := .int .i64 16) hp2.get0 (by kernel_rfl)) (.cons (Ld.row1 (P := Tryd.prog) (t := 3) (o := 0) (v := .int .i64 16) hp2.get0 (by kernel_rfl)) (.cons (Ld.row1 (P := Tryd.prog) (t := 3) (o := 0) (v := .int .i64 16) hp2.get0 (by kernel_rfl)) .nil)))) (by kernel_rfl) (fun b7 => ?_)
  refine thn_n ?_
  refine WP.seq ?_
  refine WP.pure { wraps := [47, 52, 57] } [.int .i64 16, .int .i64 16, .int .i64 16, .int .i64 16] [1, 3, 4, 5] [.pointer (some ⟨g3, 0, none⟩), .bool false, .bool true, .bool true] (.cons (Ld.row1 (P := Tryd.prog) (t := 3) (o := 0) (v := .int .i64 16) hp2.get0 (by kernel_rfl)) (.cons (Ld.row1 (P := Tryd.prog) (t := 3) (o := 0) (v := .int .i64 16) hp2.get0 (by kernel_rfl)) (.cons (Ld.row1 (P := Tryd.prog) (t := 3) (o := 0) (v := .int .i64 16) hp2.get0 (by kernel_rfl)) (.cons (Ld.row1 (P := Tryd.prog) (t := 3) (o := 0) (v := .int .i64 16) hp2.get0 (by kernel_rfl)) .nil)))) (by kernel_rfl) (fun b8 => ?_)
  refine thn_n ?_
  refine WP.seq ?_
  refine WP.seq ?_
  refine WP.pure { wraps := [80] } [.int .i64 16] [1, 3, 4, 5, 80] [.pointer (some ⟨g3, 0, none⟩), .bool false, .bool true, .bool true, .bool false] (.cons (Ld.row1 (P := Tryd.prog) (t := 3) (o := 0) (v := .int .i64 16) hp2.get0 (by kernel_rfl)) .nil) (by kernel_rfl) (fun b9 => ?_)
  refine thn_n ?_
  refine WP.condF rfl ?_
  refine WP.skip ?_
  refine thn_n ?_
  refine WP.cut (fun e29 w30 => ∃ (x27 : Bool), (True) ∧ Bp x27 ((A = 0) ∧ (Ky = ⟨#[]⟩) ∧ (((V.n : Nat) : Int) = 0)) ∧ List.map e29 [2] = [.bool x27] ∧ Hp w Non [Res.row g3 [.int .i64 16, .int .i64 A, .int .i64 B, .string Ky, .slice V.a V.n V.c, .slice L.a L.n L.c] 29] w30) ?_ ?_
  · refine WP.region _ rfl (by kernel_rfl) ?_
    refine OPS.batch 9 { wraps := [88] } [.int .i64 16, .int .i64 A] [1, 3, 4, 5, 89] [.pointer (some ⟨g3, 0, none⟩), .bool false, .bool true, .bool true, .bool (decide (A = 0))] (.cons (Ld.row1 (P := Tryd.prog) (t := 3) (o := 0) (v := .int .i64 16) hp2.get0 (by kernel_rfl)) (.cons (Ld.row1 (P := Tryd.prog) (t := 3) (o := 1) (v := .int .i64 A) hp2.get0 (by kernel_rfl)) .nil)) (by kernel_rfl) (fun b11 => ?_)
    by_cases h12 : A = 0
    · refine OPS.batch 0 {} [] [1, 3, 4, 5, 89] [.pointer (some ⟨g3, 0, none⟩), .bool false, .bool true, .bool true, .bool (decide (A = 0))] .nil (by kernel_rfl) (fun b13 => ?_)
      refine OPS.re [.pointer (some ⟨g3, 0, none⟩), .bool false, .bool true, .bool true, .bool true] (by rw [show (decide (A = 0)) = true from Bp.dec.tt h12]) ?_
      refine OPS.batch 16 { wraps := [95, 96, 103, 104] } [.string Ky] [1, 5, 105] [.pointer (some ⟨g3, 0, none⟩), .bool true, .bool (decide (Ky = ⟨#[]⟩))] (.cons (Ld.row1 (P := Tryd.prog) (t := 9) (o := 3) (v := .string Ky) hp2.get0 (by kernel_rfl)) .nil) (by kernel_rfl) (fun b14 => ?_)
      by_cases h15 : Ky = ⟨#[]⟩
      · refine OPS.batch 0 {} [] [1, 5, 105] [.pointer (some ⟨g3, 0, none⟩), .bool true, .bool (decide (Ky = ⟨#[]⟩))] .nil (by kernel_rfl) (fun b16 => ?_)
        refine OPS.re [.pointer (some ⟨g3, 0, none⟩), .bool true, .bool true] (by rw [show (decide (Ky = ⟨#[]⟩)) = true from Bp.dec.tt h15]) ?_
        refine OPS.batch 11 { wraps := [114, 115] } [.int .i64 16, .slice V.a V.n V.c] [1, 5, 116] [.pointer (some ⟨g3, 0, none⟩), .bool true, .bool (decide (((V.n : Nat) : Int) = 0))] (.cons (Ld.row1 (P := Tryd.prog) (t := 3) (o := 0) (v := .int .i64 16) hp2.get0 (by kernel_rfl)) (.cons (Ld.row1 (P := Tryd.prog) (t := 26) (o := 4) (v := .slice V.a V.n V.c) hp2.get0 (by kernel_rfl)) .nil)) (by kernel_rfl) (fun b17 => ?_)
        by_cases h18 : ((V.n : Nat) : Int) = 0
        · refine OPS.batch 0 {} [] [1, 5, 116] [.pointer (some ⟨g3, 0, none⟩), .bool true, .bool (decide (((V.n : Nat) : Int) = 0))] .nil (by kernel_rfl) (fun b19 => ?_)
          refine OPS.re [.pointer (some ⟨g3, 0, none⟩), .bool true, .bool true] (by rw [show (decide (((V.n : Nat) : Int) = 0)) = true from Bp.dec.tt h18]) ?_
          refine OPS.batch 9 { wraps := [123, 124] } [] [2] [.bool true] .nil (by kernel_rfl) (fun b20 => ?_)
          refine OPS.nil ?_
          refine thn_n ?_
          exact ⟨true, trivial, Bp.of Bp.t (by first | (simp only [h12, h15, h18, iff_false, false_iff, iff_true, true_iff, Classical.not_not, and_true, true_and, and_false, false_and, or_true, true_or, or_false, false_or, not_true_eq_false, not_false_eq_true, and_self, or_self, iff_self]; done) | (simp [h12, h15, h18]; done) | grind | (simp_all; done)), by kernel_rfl, hp2⟩
        · refine OPS.batch 0 {} [] [1, 5, 116] [.pointer (some ⟨g3, 0, none⟩), .bool true, .bool (decide (((V.n : Nat) : Int) = 0))] .nil (by kernel_rfl) (fun b21 => ?_)
          refine OPS.re [.pointer (some ⟨g3, 0, none⟩), .bool true, .bool false] (by rw [show (decide (((V.n : Nat) : Int) = 0)) = false from Bp.dec.ff h18]) ?_
          refine OPS.batch 9 { wraps := [124] } [] [2] [.bool false] .nil (by kernel_rfl) (fun b22 => ?_)
          refine OPS.nil ?_
          refine thn_n ?_
          exact ⟨false, trivial, Bp.of Bp.f (by first | (simp only [h12, h15, h18, iff_false, false_iff, iff_true, true_iff, Classical.not_not, and_true, true_and, and_false, false_and, or_true, true_or, or_false, false_or, not_true_eq_false, not_false_eq_true, and_self, or_self, iff_self]; done) | (simp [h12, h15, h18]; done) | grind | (simp_all; done)), by kernel_rfl, hp2⟩
      · refine OPS.batch 0 {} [] [1, 5, 105] [.pointer (some ⟨g3, 0, none⟩), .bool true, .bool (decide (Ky = ⟨#[]⟩))] .nil (by kernel_rfl) (fun b23 => ?_)
        refine OPS.re [.pointer (some ⟨g3, 0, none⟩), .bool true, .bool false] (by rw [show (decide (Ky = ⟨#[]⟩)) = false from Bp.dec.ff h15]) ?_
        refine OPS.batch 20 { wraps := [115, 124] } [] [2] [.bool false] .nil (by kernel_rfl) (fun b24 => ?_)
        refine OPS.nil ?_
        refine thn_n ?_
        exact ⟨false, trivial, Bp.of Bp.f (by first | (simp only [h12, h15, iff_false, false_iff, iff_true, true_iff, Classical.not_not, and_true, true_and, and_false, false_and, or_true, true_or, or_false, false_or, not_true_eq_false, not_false_eq_true, and_self, or_self, iff_self]; done) | (simp [h12, h15]; done) | grind | (simp_all; done)), by kernel_rfl, hp2⟩
    · refine OPS.batch 0 {} [] [1, 3, 4, 5, 89] [.pointer (some ⟨g3, 0, none⟩), .bool false, .bool true, .bool true, .bool (decide (A = 0))] .nil (by kernel_rfl) (fun b25 => ?_)
      refine OPS.re [.pointer (some ⟨g3, 0, none⟩), .bool false, .bool true, .bool true, .bool false] (by rw [show (decide (A = 0)) = false from Bp.dec.ff h12]) ?_
      refine OPS.batch 36 { wraps := [96, 104, 115, 124] } [] [2] [.bool false] .nil (by kernel_rfl) (fun b26 => ?_)
      refine OPS.nil ?_
      refine thn_n ?_
      exact ⟨false, trivial, Bp.of Bp.f (by first | (simp only [h12, iff_false, false_iff, iff_true, true_iff, Classical.not_not, and_true, true_and, and_false, false_and, or_true, true_or, or_false, false_or, not_true_eq_false, not_false_eq_true, and_self, or_self, iff_self]; done) | (simp [h12]; done) | grind | (simp_all; done)), by kernel_rfl, hp2⟩
  rintro e29 w30 ⟨x27, hd32, hb28, hE33, hp31⟩
  obtain ⟨b34, rfl⟩ := toMk hE33
  clear hE33
  clear hd32
  refine WP.ret ?_
  refine bodyQ.of _ rfl [.bool x27] ⟨rfl, trivial⟩ ?_
  exact ⟨_, rfl, Bp.of hb28 (by rw [okS_16]; clear hL; skip; first | omega | grind | (simp_all; done) | (simp_all; omega)), hp31.fr⟩

theorem ft_kk (k : Int) (hpa : PA k) (A B : Int) (Ky : ByteArray) (V L : SlH) (v : ByteArray) (l : List Int) (w : World) (hv : V.n = v.size) (hn : L.n = l.length) (hL : SlR w L.a L.n (l.flatMap i64c)) :
    Calls Tryd.prog 6 #[GStep.val (⟨k, A, B, Ky, V, L⟩ : GStep)] w (fun r_ w' => ∃ f_, r_ = .returned (.bool f_) ∧ Bp f_ (okS ⟨k, A, B, Ky, v, l⟩) ∧ Fram Non w w') := by
  obtain ⟨nl, nu, n1, n2, n9, n10, n12, n14, n16⟩ := hpa.ne
  refine calls_of Tryd.func6 rfl 125 rfl (by simp) ?_
  have hp0 := Hp.init w
  have he0 : List.map (env0 [GStep.val (⟨k, A, B, Ky, V, L⟩ : GStep)]) [0] = [GStep.val (⟨k, A, B, Ky, V, L⟩ : GStep)] := by kernel_rfl
  obtain ⟨b0, he0⟩ := toMk he0
  rw [he0]
  clear he0
  refine WP.seq ?_
  refine WP.region _ rfl (by kernel_rfl) ?_
  refine OPS.cons (opStep.box hp0 [.int .i64 k, .int .i64 A, .int .i64 B, .string Ky, .slice V.a V.n V.c, .slice L.a L.n L.c] (by kernel_rfl) (fun g3 w1 hp2 => ?_))
  refine OPS.batch 1 {} [] [1] [.pointer (some ⟨g3, 0, none⟩)] .nil (by kernel_rfl) (fun b4 => ?_)
  refine OPS.nil ?_
  refine thn_n ?_
  refine WP.seq ?_
  refine WP.seq ?_
  refine WP.pure { wraps := [13], subs := [8, 12] } [.int .i64 k, .bool false, .int .i64 k, .bool false] [1, 13] [.pointer (some ⟨g3, 0, none⟩), .bool false] (.cons (Ld.row1 (P := Tryd.prog) (t := 3) (o := 0) (v := .int .i64 k) hp2.get0 (by kernel_rfl)) (.cons (show (.bool (decide (k < 1)) : Go.Value) = .bool false from congrArg Value.bool (decide_eq_false nl)) (.cons (Ld.row1 (P := Tryd.prog) (t := 3) (o := 0) (v := .int .i64 k) hp2.get0 (by kernel_rfl)) (.cons (show (.bool (decide (16 < k)) : Go.Value) = .bool false from congrArg Value.bool (decide_eq_false nu)) .nil)))) (by kernel_rfl) (fun b5 => ?_)
  refine thn_n ?_
  refine WP.condF rfl ?_
  refine WP.skip ?_
  refine thn_n ?_
  refine WP.seq ?_
  refine WP.pure { wraps := [21], subs := [16, 20] } [.int .i64 k, .bool false, .int .i64 k, .bool false] [1, 3] [.pointer (some ⟨g3, 0, none⟩), .bool false] (.cons (Ld.row1 (P := Tryd.prog) (t := 3) (o := 0) (v := .int .i64 k) hp2.get0 (by kernel_rfl)) (.cons (show (.bool (decide (k = 1)) : Go.Value) = .bool false from congrArg Value.bool (decide_eq_false n1)) (.cons (Ld.row1 (P := Tryd.prog) (t := 3) (o := 0) (v := .int .i64 k) hp2.get0 (by kernel_rfl)) (.cons (show (.bool (decide (k = 2)) : Go.Value) = .bool false from congrArg Value.bool (decide_eq_false n2)) .nil)))) (by kernel_rfl) (fun b6 => ?_)
  refine thn_n ?_
  refine WP.seq ?_
  refine WP.pure { wraps := [29, 34, 39], subs := [24, 28, 33, 38] } [.int .i64 k, .bool false, .int .i64 k, .bool false, .int .i64 k, .bool false, .int .i64 k, .bool false] [1, 3, 4] [.pointer (some ⟨g3, 0, none⟩), .bool false, .bool false] (.cons (Ld.row1 (P := Tryd.prog) (t := 3) (o := 0) (v := .int .i64 k) hp2.get0 (by kernel_rfl)) (.cons (show (.bool (decide (k = 9)) : Go.Value) = .bool false from congrArg Value.bool (decide_eq_false n9)) (.cons (Ld.row1 (P := Tryd.prog) (t := 3) (o := 0) (v := .int .i64 k) hp2.get0 (by kernel_rfl)) (.cons (show (.bool (decide (k = 10)) : Go.Value) = .bool false from congrArg Value.bool (decide_eq_false n10)) (.cons (Ld.row1 (P := Tryd.prog) (t := 3) (o := 0) (v := .int .i64 k) hp2.get0 (by kernel_rfl)) (.cons (show (.bool (decide (k = 14)) : Go.Value) = .bool false from congrArg Value.bool (decide_eq_false n14)) (.cons (Ld.row1 (P := Tryd.prog) (t := 3) (o := 0) (v := .int .i64 k) hp2.get0 (by kernel_rfl)) (.cons (show (.bool (decide (k = 16)) : Go.Value) = .bool false from congrArg Value.bool (decide_eq_false n16)) .nil)))))))) (by kernel_rfl) (fun b7 => ?_)
  refine thn_n ?_
  refine WP.seq ?_
  refine WP.pure { wraps := [47, 52, 57], subs := [42, 46, 51, 56] } [.int .i64 k, .bool false, .int .i64 k, .bool false, .int .i64 k, .bool false, .int .i64 k, .bool false] [1, 3, 4, 5] [.pointer (some ⟨g3, 0, none⟩), .bool false, .bool false, .bool false] (.cons (Ld.row1 (P := Tryd.prog) (t := 3) (o := 0) (v := .int .i64 k) hp2.get0 (by kernel_rfl)) (.cons (show (.bool (decide (k = 9)) : Go.Value) = .bool false from congrArg Value.bool (decide_eq_false n9)) (.cons (Ld.row1 (P := Tryd.prog) (t := 3) (o := 0) (v := .int .i64 k) hp2.get0 (by kernel_rfl)) (.cons (show (.bool (decide (k = 12)) : Go.Value) = .bool false from congrArg Value.bool (decide_eq_false n12)) (.cons (Ld.row1 (P := Tryd.prog) (t := 3) (o := 0) (v := .int .i64 k) hp2.get0 (by kernel_rfl)) (.cons (show (.bool (decide (k = 14)) : Go.Value) = .bool false from congrArg Value.bool (decide_eq_false n14)) (.cons (Ld.row1 (P := Tryd.prog) (t := 3) (o := 0) (v := .int .i64 k) hp2.get0 (by kernel_rfl)) (.cons (show (.bool (decide (k = 16)) : Go.Value) = .bool false from congrArg Value.bool (decide_eq_false n16)) .nil)))))))) (by kernel_rfl) (fun b8 => ?_)
  refine thn_n ?_
  refine WP.seq ?_
  refine WP.seq ?_
  refine WP.pure { wraps := [80], subs := [60] } [.int .i64 k, .bool false] [1, 3, 4, 5, 80] [.pointer (some ⟨g3, 0, none⟩), .bool false, .bool false, .bool false, .bool false] (.cons (Ld.row1 (P := Tryd.prog) (t := 3) (o := 0) (v := .int .i64 k) hp2.get0 (by kernel_rfl)) (.cons (show (.bool (decide (k = 9)) : Go.Value) = .bool false from congrArg Value.bool (decide_eq_false n9)) .nil)) (by kernel_rfl) (fun b9 => ?_)
  refine thn_n ?_
  refine WP.condF rfl ?_
  refine WP.skip ?_
  refine thn_n ?_
  refine WP.cut (fun e29 w30 => ∃ (x27 : Bool), (True) ∧ Bp x27 ((B = 0) ∧ (Ky = ⟨#[]⟩) ∧ (((V.n : Nat) : Int) = 0) ∧ (((L.n : Nat) : Int) = 0)) ∧ List.map e29 [2] = [.bool x27] ∧ Hp w Non [Res.row g3 [.int .i64 k, .int .i64 A, .int .i64 B, .string Ky, .slice V.a V.n V.c, .slice L.a L.n L.c] 29] w30) ?_ ?_
  · refine WP.region _ rfl (by kernel_rfl) ?_
    refine OPS.batch 17 { wraps := [88, 95, 96], subs := [83] } [.int .i64 k, .bool true, .int .i64 B] [1, 3, 5, 97] [.pointer (some ⟨g3, 0, none⟩), .bool false, .bool false, .bool (decide (B = 0))] (.cons (Ld.row1 (P := Tryd.prog) (t := 3) (o := 0) (v := .int .i64 k) hp2.get0 (by kernel_rfl)) (.cons (show (.bool (decide (¬ (k = 16))) : Go.Value) = .bool true from congrArg Value.bool (decide_eq_true n16)) (.cons (Ld.row1 (P := Tryd.prog) (t := 3) (o := 2) (v := .int .i64 B) hp2.get0 (by kernel_rfl)) .nil))) (by kernel_rfl) (fun b11 => ?_)
    by_cases h12 : B = 0
    · refine OPS.batch 0 {} [] [1, 3, 5, 97] [.pointer (some ⟨g3, 0, none⟩), .bool false, .bool false, .bool (decide (B = 0))] .nil (by kernel_rfl) (fun b13 => ?_)
      refine OPS.re [.pointer (some ⟨g3, 0, none⟩), .bool false, .bool false, .bool true] (by rw [show (decide (B = 0)) = true from Bp.dec.tt h12]) ?_
      refine OPS.batch 8 { wraps := [103, 104] } [.string Ky] [1, 5, 105] [.pointer (some ⟨g3, 0, none⟩), .bool false, .bool (decide (Ky = ⟨#[]⟩))] (.cons (Ld.row1 (P := Tryd.prog) (t := 9) (o := 3) (v := .string Ky) hp2.get0 (by kernel_rfl)) .nil) (by kernel_rfl) (fun b14 => ?_)
      by_cases h15 : Ky = ⟨#[]⟩
      · refine OPS.batch 0 {} [] [1, 5, 105] [.pointer (some ⟨g3, 0, none⟩), .bool false, .bool (decide (Ky = ⟨#[]⟩))] .nil (by kernel_rfl) (fun b16 => ?_)
        refine OPS.re [.pointer (some ⟨g3, 0, none⟩), .bool false, .bool true] (by rw [show (decide (Ky = ⟨#[]⟩)) = true from Bp.dec.tt h15]) ?_
        refine OPS.batch 11 { wraps := [114, 115], subs := [108] } [.int .i64 k, .bool false, .slice V.a V.n V.c] [1, 5, 116] [.pointer (some ⟨g3, 0, none⟩), .bool false, .bool (decide (((V.n : Nat) : Int) = 0))] (.cons (Ld.row1 (P := Tryd.prog) (t := 3) (o := 0) (v := .int .i64 k) hp2.get0 (by kernel_rfl)) (.cons (show (.bool (decide (k = 1)) : Go.Value) = .bool false from congrArg Value.bool (decide_eq_false n1)) (.cons (Ld.row1 (P := Tryd.prog) (t := 26) (o := 4) (v := .slice V.a V.n V.c) hp2.get0 (by kernel_rfl)) .nil))) (by kernel_rfl) (fun b17 => ?_)
        by_cases h18 : ((V.n : Nat) : Int) = 0
        · refine OPS.batch 0 {} [] [1, 5, 116] [.pointer (some ⟨g3, 0, none⟩), .bool false, .bool (decide (((V.n : Nat) : Int) = 0))] .nil (by kernel_rfl) (fun b19 => ?_)
          refine OPS.re [.pointer (some ⟨g3, 0, none⟩), .bool false, .bool true] (by rw [show (decide (((V.n : Nat) : Int) = 0)) = true from Bp.dec.tt h18]) ?_
          refine OPS.batch 9 { wraps := [123, 124] } [.slice L.a L.n L.c] [2] [.bool (decide (((L.n : Nat) : Int) = 0))] (.cons (Ld.row1 (P := Tryd.prog) (t := 27) (o := 5) (v := .slice L.a L.n L.c) hp2.get0 (by kernel_rfl)) .nil) (by kernel_rfl) (fun b20 => ?_)
          refine OPS.nil ?_
          refine thn_n ?_
          exact ⟨decide (((L.n : Nat) : Int) = 0), trivial, Bp.of Bp.dec (by first | (simp only [h12, h15, h18, iff_false, false_iff, iff_true, true_iff, Classical.not_not, and_true, true_and, and_false, false_and, or_true, true_or, or_false, false_or, not_true_eq_false, not_false_eq_true, and_self, or_self, iff_self]; done) | (simp [h12, h15, h18]; done) | grind | (simp_all; done)), by kernel_rfl, hp2⟩
        · refine OPS.batch 0 {} [] [1, 5, 116] [.pointer (some ⟨g3, 0, none⟩), .bool false, .bool (decide (((V.n : Nat) : Int) = 0))] .nil (by kernel_rfl) (fun b21 => ?_)
          refine OPS.re [.pointer (some ⟨g3, 0, none⟩), .bool false, .bool false] (by rw [show (decide (((V.n : Nat) : Int) = 0)) = false from Bp.dec.ff h18]) ?_
          refine OPS.batch 9 { wraps := [124] } [] [2] [.bool false] .nil (by kernel_rfl) (fun b22 => ?_)
          refine OPS.nil ?_
          refine thn_n ?_
          exact ⟨false, trivial, Bp.of Bp.f (by first | (simp only [h12, h15, h18, iff_false, false_iff, iff_true, true_iff, Classical.not_not, and_true, true_and, and_false, false_and, or_true, true_or, or_false, false_or, not_true_eq_false, not_false_eq_true, and_self, or_self, iff_self]; done) | (simp [h12, h15, h18]; done) | grind | (simp_all; done)), by kernel_rfl, hp2⟩
      · refine OPS.batch 0 {} [] [1, 5, 105] [.pointer (some ⟨g3, 0, none⟩), .bool false, .bool (decide (Ky = ⟨#[]⟩))] .nil (by kernel_rfl) (fun b23 => ?_)
        refine OPS.re [.pointer (some ⟨g3, 0, none⟩), .bool false, .bool false] (by rw [show (decide (Ky = ⟨#[]⟩)) = false from Bp.dec.ff h15]) ?_
        refine OPS.batch 20 { wraps := [115, 124] } [] [2] [.bool false] .nil (by kernel_rfl) (fun b24 => ?_)
        refine OPS.nil ?_
        refine thn_n ?_
        exact ⟨false, trivial, Bp.of Bp.f (by first | (simp only [h12, h15, iff_false, false_iff, iff_true, true_iff, Classical.not_not, and_true, true_and, and_false, false_and, or_true, true_or, or_false, false_or, not_true_eq_false, not_false_eq_true, and_self, or_self, iff_self]; done) | (simp [h12, h15]; done) | grind | (simp_all; done)), by kernel_rfl, hp2⟩
    · refine OPS.batch 0 {} [] [1, 3, 5, 97] [.pointer (some ⟨g3, 0, none⟩), .bool false, .bool false, .bool (decide (B = 0))] .nil (by kernel_rfl) (fun b25 => ?_)
      refine OPS.re [.pointer (some ⟨g3, 0, none⟩), .bool false, .bool false, .bool false] (by rw [show (decide (B = 0)) = false from Bp.dec.ff h12]) ?_
      refine OPS.batch 28 { wraps := [104, 115, 124] } [] [2] [.bool false] .nil (by kernel_rfl) (fun b26 => ?_)
      refine OPS.nil ?_
      refine thn_n ?_
      exact ⟨false, trivial, Bp.of Bp.f (by first | (simp only [h12, iff_false, false_iff, iff_true, true_iff, Classical.not_not, and_true, true_and, and_false, false_and, or_true, true_or, or_false, false_or, not_true_eq_false, not_false_eq_true, and_self, or_self, iff_self]; done) | (simp [h12]; done) | grind | (simp_all; done)), by kernel_rfl, hp2⟩
  rintro e29 w30 ⟨x27, hd32, hb28, hE33, hp31⟩
  obtain ⟨b34, rfl⟩ := toMk hE33
  clear hE33
  clear hd32
  refine WP.ret ?_
  refine bodyQ.of _ rfl [.bool x27] ⟨rfl, trivial⟩ ?_
  exact ⟨_, rfl, Bp.of hb28 (by rw [okS_k hpa]; clear hL; skip; first | omega | grind | (simp_all; done) | (simp_all; omega)), hp31.fr⟩

theorem ft_kno (K : Int) (hk : ¬ (1 ≤ K ∧ K ≤ 16)) (A B : Int) (Ky : ByteArray) (V L : SlH) (v : ByteArray) (l : List Int) (w : World) (hv : V.n = v.size) (hn : L.n = l.length) (hL : SlR w L.a L.n (l.flatMap i64c)) :
    Calls Tryd.prog 6 #[GStep.val (⟨K, A, B, Ky, V, L⟩ : GStep)] w (fun r_ w' => ∃ f_, r_ = .returned (.bool f_) ∧ Bp f_ (okS ⟨K, A, B, Ky, v, l⟩) ∧ Fram Non w w') := by
  refine calls_of Tryd.func6 rfl 125 rfl (by simp) ?_
  have hp0 := Hp.init w
  have he0 : List.map (env0 [GStep.val (⟨K, A, B, Ky, V, L⟩ : GStep)]) [0] = [GStep.val (⟨K, A, B, Ky, V, L⟩ : GStep)] := by kernel_rfl
  obtain ⟨b0, he0⟩ := toMk he0
  rw [he0]
  clear he0
  refine WP.seq ?_
  refine WP.region _ rfl (by kernel_rfl) ?_
  refine OPS.cons (opStep.box hp0 [.int .i64 K, .int .i64 A, .int .i64 B, .string Ky, .slice V.a V.n V.c, .slice L.a L.n L.c] (by kernel_rfl) (fun g3 w1 hp2 => ?_))
  refine OPS.batch 1 {} [] [1] [.pointer (some ⟨g3, 0, none⟩)] .nil (by kernel_rfl) (fun b4 => ?_)
  refine OPS.nil ?_
  refine thn_n ?_
  refine WP.seq ?_
  refine WP.cut (fun e14 w15 => ∃ (x12 : Bool), (True) ∧ Bp x12 (((K < 1)) ∨ ((¬ (K < 1)) ∧ (16 < K))) ∧ List.map e14 [1, 13] = [.pointer (some ⟨g3, 0, none⟩), .bool x12] ∧ Hp w Non [Res.row g3 [.int .i64 K, .int .i64 A, .int .i64 B, .string Ky, .slice V.a V.n V.c, .slice L.a L.n L.c] 29] w15) ?_ ?_
  · refine WP.region _ rfl (by kernel_rfl) ?_
    refine OPS.batch 4 {} [.int .i64 K] [1, 9] [.pointer (some ⟨g3, 0, none⟩), .bool (decide (K < 1))] (.cons (Ld.row1 (P := Tryd.prog) (t := 3) (o := 0) (v := .int .i64 K) hp2.get0 (by kernel_rfl)) .nil) (by kernel_rfl) (fun b6 => ?_)
    by_cases h7 : K < 1
    · refine OPS.batch 0 {} [] [1, 9] [.pointer (some ⟨g3, 0, none⟩), .bool (decide (K < 1))] .nil (by kernel_rfl) (fun b8 => ?_)
      refine OPS.re [.pointer (some ⟨g3, 0, none⟩), .bool true] (by rw [show (decide (K < 1)) = true from Bp.dec.tt h7]) ?_
      refine OPS.batch 4 { wraps := [13] } [] [1, 13] [.pointer (some ⟨g3, 0, none⟩), .bool true] .nil (by kernel_rfl) (fun b9 => ?_)
      refine OPS.nil ?_
      refine thn_n ?_
      exact ⟨true, trivial, Bp.of Bp.t (by first | (simp only [h7, iff_false, false_iff, iff_true, true_iff, Classical.not_not, and_true, true_and, and_false, false_and, or_true, true_or, or_false, false_or, not_true_eq_false, not_false_eq_true, and_self, or_self, iff_self]; done) | (simp [h7]; done) | grind | (simp_all; done)), by kernel_rfl, hp2⟩
    · refine OPS.batch 0 {} [] [1, 9] [.pointer (some ⟨g3, 0, none⟩), .bool (decide (K < 1))] .nil (by kernel_rfl) (fun b10 => ?_)
      refine OPS.re [.pointer (some ⟨g3, 0, none⟩), .bool false] (by rw [show (decide (K < 1)) = false from Bp.dec.ff h7]) ?_
      refine OPS.batch 4 { wraps := [13] } [.int .i64 K] [1, 13] [.pointer (some ⟨g3, 0, none⟩), .bool (decide (16 < K))] (.cons (Ld.row1 (P := Tryd.prog) (t := 3) (o := 0) (v := .int .i64 K) hp2.get0 (by kernel_rfl)) .nil) (by kernel_rfl) (fun b11 => ?_)
      refine OPS.nil ?_
      refine thn_n ?_
      exact ⟨decide (16 < K), trivial, Bp.of Bp.dec (by first | (simp only [h7, iff_false, false_iff, iff_true, true_iff, Classical.not_not, and_true, true_and, and_false, false_and, or_true, true_or, or_false, false_or, not_true_eq_false, not_false_eq_true, and_self, or_self, iff_self]; done) | (simp [h7]; done) | grind | (simp_all; done)), by kernel_rfl, hp2⟩
  rintro e14 w15 ⟨x12, hd17, hb13, hE18, hp16⟩
  obtain ⟨b19, rfl⟩ := toMk hE18
  clear hE18
  clear hd17
  refine WP.test (p := ((K < 1)) ∨ ((¬ (K < 1)) ∧ (16 < K))) rfl hb13 (fun h20 => ?_) (fun h20 => ?_)
  · refine WP.seq ?_
    refine WP.pure {} [] [2] [.bool false] .nil (by kernel_rfl) (fun b21 => ?_)
    refine thn_n ?_
    refine WP.ret ?_
    refine thn_r ?_
    refine bodyQ.of _ rfl [.bool false] ⟨rfl, trivial⟩ ?_
    exact ⟨_, rfl, Bp.of Bp.f ⟨fun q => q.elim, fun q => hk q.1⟩, hp16.fr⟩
  · refine WP.skip ?_
    refine thn_n ?_
    refine WP.seq ?_
    exfalso
    first | omega | grind

theorem tp_fits (s : GStep) (x : StepP) (w : World) (hx : StR w Tr s x) : Calls Tryd.prog 6 #[GStep.val s] w (fun r_ w' => ∃ f_, r_ = .returned (.bool f_) ∧ Bp f_ (okS x) ∧ Fram Non w w') := by
  obtain ⟨K, A, B, Ky, V, L⟩ := s
  obtain ⟨K', A', B', Ky', v, l⟩ := x
  obtain ⟨h1, h2, h3, h4, _, hv, _, _, h9, h10⟩ := hx
  simp only at h1 h2 h3 h4 hv
  subst h1 h2 h3 h4
  by_cases hk : 1 ≤ K ∧ K ≤ 16
  · rcases kcases hk with rfl | rfl | rfl | rfl | rfl | rfl | rfl | rfl | rfl | rfl | rfl | rfl | rfl | rfl | rfl | rfl
    · exact ft_k1 A B Ky V L v l w hv h9 h10
    · exact ft_k2 A B Ky V L v l w hv h9 h10
    · exact ft_kk 3 (by unfold PA; decide) A B Ky V L v l w hv h9 h10
    · exact ft_kk 4 (by unfold PA; decide) A B Ky V L v l w hv h9 h10
    · exact ft_kk 5 (by unfold PA; decide) A B Ky V L v l w hv h9 h10
    · exact ft_kk 6 (by unfold PA; decide) A B Ky V L v l w hv h9 h10
    · exact ft_kk 7 (by unfold PA; decide) A B Ky V L v l w hv h9 h10
    · exact ft_kk 8 (by unfold PA; decide) A B Ky V L v l w hv h9 h10
    · exact ft_k9 A B Ky V L v l w hv h9 h10
    · exact ft_k10 A B Ky V L v l w hv h9 h10
    · exact ft_kk 11 (by unfold PA; decide) A B Ky V L v l w hv h9 h10
    · exact ft_k12 A B Ky V L v l w hv h9 h10
    · exact ft_kk 13 (by unfold PA; decide) A B Ky V L v l w hv h9 h10
    · exact ft_k14 A B Ky V L v l w hv h9 h10
    · exact ft_kk 15 (by unfold PA; decide) A B Ky V L v l w hv h9 h10
    · exact ft_k16 A B Ky V L v l w hv h9 h10
  · exact ft_kno K hk A B Ky V L v l w hv h9 h10
end Go.Proofs.YthplgcnoaholaajDoor.K
