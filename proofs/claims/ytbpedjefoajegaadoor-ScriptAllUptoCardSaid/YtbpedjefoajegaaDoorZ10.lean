/- Texts of this claim, merged: what the program's functions compute, and the rules that the walks use. -/
import Derived.Test.YtbpedjefoajegaaDoorProg
import Derived.Test.YtbpedjefoajegaaDoorZ1
import Derived.Test.YtbpedjefoajegaaDoorZ8
namespace Go.Proofs.YtbpedjefoajegaaDoor.K
open Go Go.Proofs Go.RowKit
set_option linter.unusedVariables false
set_option linter.unusedSimpArgs false
set_option maxRecDepth 20000
set_option maxHeartbeats 4000000

theorem bp_eq {x y : Bool} {p : Prop} (h : Bp x p) (hq : p ↔ y = true) : x = y := by
  have h2 : x = true ↔ y = true := h.trans hq
  cases x <;> cases y <;> simp_all
theorem rf_hasA (k : Int) (w : World) :
  Calls Tryd.prog 31 #[.int .i64 k] w (fun r_ w' => r_ = .returned (.bool (kA k)) ∧ Fram Non w w') := by
 refine calls_of Tryd.func31 rfl 5 rfl (by simp) ?_
 have hp0 := Hp.init w
 have he0 : List.map (env0 [iI k]) [0] = [iI k] := by kernel_rfl
 obtain ⟨b0, he0⟩ := toMk he0
 rw [he0]
 clear he0
 refine WP.seq (wP [0] [iI k] fun b1 => ?_)
 refine thn_n (WP.seq (wP [2] [.bool (decide (¬ (k = 16)))] fun b2 => ?_))
 refine thn_n (WP.ret ?_)
 refine bodyQ.of _ rfl [.bool (decide (¬ (k = 16)))] ⟨rfl, trivial⟩ ?_
 exact ⟨by simp only [pack]; rw [bp_eq (y := kA k) Bp.dec (by unfold kA; simp only [Bool.or_eq_true, Bool.not_eq_true', decide_eq_true_eq, decide_eq_false_iff_not]; try omega)], hp0.fr⟩

theorem rk_hasA {k : Int} (hp : PA k) (w : World) : Calls Tryd.prog 31 #[.int .i64 k] w (fun r_ w' => r_ = .returned (.bool true) ∧ Fram Non w w') := (rf_hasA k w).mono fun e w' ⟨h1, h2⟩ => ⟨h1.trans (by rw [hp.fl.1]), h2⟩
theorem rf_hasB (k : Int) (w : World) :
  Calls Tryd.prog 33 #[.int .i64 k] w (fun r_ w' => r_ = .returned (.bool (kB k)) ∧ Fram Non w w') := by
 refine calls_of Tryd.func33 rfl 17 rfl (by simp) ?_
 have hp0 := Hp.init w
 have he0 : List.map (env0 [iI k]) [0] = [iI k] := by kernel_rfl
 obtain ⟨b0, he0⟩ := toMk he0
 rw [he0]
 clear he0
 refine WP.seq (wP [0] [iI k] fun b1 => ?_)
 refine thn_n ?_
 refine WP.cut (fun e21 w22 => ∃ (x19 : Bool), (True) ∧ Bp x19 (((k = 9)) ∨ ((¬ (k = 9)) ∧ (k = 10)) ∨ ((¬ (k = 9)) ∧ (¬ (k = 10)) ∧ (k = 14)) ∨ ((¬ (k = 9)) ∧ (¬ (k = 10)) ∧ (¬ (k = 14)) ∧ (k = 16))) ∧ List.map e21 [2] = [.bool x19] ∧ Hp w Non [] w22) ?_ ?_
 ·refine wR (oP 3 [0, 5] [iI k, .bool (decide (k = 9))] fun b3 => ?_)
  by_cases h4 : k = 9
  ·refine oP 0 [0, 5] [iI k, .bool (decide (k = 9))] fun b5 => ?_
   refine OPS.re [iI k, bT] (by rw [show (decide (k = 9)) = true from Bp.dec.tt h4]) ?_
   refine oQ 12 { wraps := [8, 12, 16] } [] [2] [bT] .nil fun b6 => ?_
   refine OPS.nil (thn_n ?_)
   exact ⟨true, trivial, Bp.of Bp.t (by first | (simp [h4]; done) | grind | (simp_all; done)), by kernel_rfl, hp0⟩
  ·refine oP 0 [0, 5] [iI k, .bool (decide (k = 9))] fun b7 => ?_
   refine OPS.re [iI k, bF] (by rw [show (decide (k = 9)) = false from Bp.dec.ff h4]) ?_
   refine oQ 4 { wraps := [8] } [] [0, 9] [iI k, .bool (decide (k = 10))] .nil fun b8 => ?_
   by_cases h9 : k = 10
   ·refine oP 0 [0, 9] [iI k, .bool (decide (k = 10))] fun b10 => ?_
    refine OPS.re [iI k, bT] (by rw [show (decide (k = 10)) = true from Bp.dec.tt h9]) ?_
    refine oQ 8 { wraps := [12, 16] } [] [2] [bT] .nil fun b11 => ?_
    refine OPS.nil (thn_n ?_)
    exact ⟨true, trivial, Bp.of Bp.t (by first | (simp [h4, h9]; done) | grind | (simp_all; done)), by kernel_rfl, hp0⟩
   ·refine oP 0 [0, 9] [iI k, .bool (decide (k = 10))] fun b12 => ?_
    refine OPS.re [iI k, bF] (by rw [show (decide (k = 10)) = false from Bp.dec.ff h9]) ?_
    refine oQ 4 { wraps := [12] } [] [0, 13] [iI k, .bool (decide (k = 14))] .nil fun b13 => ?_
    by_cases h14 : k = 14
    ·refine oP 0 [0, 13] [iI k, .bool (decide (k = 14))] fun b15 => ?_
     refine OPS.re [iI k, bT] (by rw [show (decide (k = 14)) = true from Bp.dec.tt h14]) ?_
     refine oQ 4 { wraps := [16] } [] [2] [bT] .nil fun b16 => ?_
     refine OPS.nil (thn_n ?_)
     exact ⟨true, trivial, Bp.of Bp.t (by first | (simp [h4, h9, h14]; done) | grind | (simp_all; done)), by kernel_rfl, hp0⟩
    ·refine oP 0 [0, 13] [iI k, .bool (decide (k = 14))] fun b17 => ?_
     refine OPS.re [iI k, bF] (by rw [show (decide (k = 14)) = false from Bp.dec.ff h14]) ?_
     refine oQ 4 { wraps := [16] } [] [2] [.bool (decide (k = 16))] .nil fun b18 => ?_
     refine OPS.nil (thn_n ?_)
     exact ⟨decide (k = 16), trivial, Bp.of Bp.dec (by first | (simp [h4, h9, h14]; done) | grind | (simp_all; done)), by kernel_rfl, hp0⟩
 rintro e21 w22 ⟨x19, hd24, hb20, hE25, hp23⟩
 obtain ⟨b26, rfl⟩ := toMk hE25
 clear hE25
 clear hd24
 refine WP.ret ?_
 refine bodyQ.of _ rfl [.bool x19] ⟨rfl, trivial⟩ ?_
 exact ⟨by simp only [pack]; rw [bp_eq (y := kB k) hb20 (by unfold kB; simp only [Bool.or_eq_true, Bool.not_eq_true', decide_eq_true_eq, decide_eq_false_iff_not]; try omega)], hp23.fr⟩

theorem rk_hasB {k : Int} (hp : PA k) (w : World) : Calls Tryd.prog 33 #[.int .i64 k] w (fun r_ w' => r_ = .returned (.bool false) ∧ Fram Non w w') := (rf_hasB k w).mono fun e w' ⟨h1, h2⟩ => ⟨h1.trans (by rw [hp.fl.2.1]), h2⟩
theorem rf_hasKey (k : Int) (w : World) :
  Calls Tryd.prog 34 #[.int .i64 k] w (fun r_ w' => r_ = .returned (.bool (kK k)) ∧ Fram Non w w') := by
 refine calls_of Tryd.func34 rfl 9 rfl (by simp) ?_
 have hp0 := Hp.init w
 have he0 : List.map (env0 [iI k]) [0] = [iI k] := by kernel_rfl
 obtain ⟨b0, he0⟩ := toMk he0
 rw [he0]
 clear he0
 refine WP.seq (wP [0] [iI k] fun b1 => ?_)
 refine thn_n ?_
 refine WP.cut (fun e11 w12 => ∃ (x9 : Bool), (True) ∧ Bp x9 (((k = 1)) ∨ ((¬ (k = 1)) ∧ (k = 2))) ∧ List.map e11 [2] = [.bool x9] ∧ Hp w Non [] w12) ?_ ?_
 ·refine wR (oP 3 [0, 5] [iI k, .bool (decide (k = 1))] fun b3 => ?_)
  by_cases h4 : k = 1
  ·refine oP 0 [0, 5] [iI k, .bool (decide (k = 1))] fun b5 => ?_
   refine OPS.re [iI k, bT] (by rw [show (decide (k = 1)) = true from Bp.dec.tt h4]) ?_
   refine oQ 4 { wraps := [8] } [] [2] [bT] .nil fun b6 => ?_
   refine OPS.nil (thn_n ?_)
   exact ⟨true, trivial, Bp.of Bp.t (by first | (simp [h4]; done) | grind | (simp_all; done)), by kernel_rfl, hp0⟩
  ·refine oP 0 [0, 5] [iI k, .bool (decide (k = 1))] fun b7 => ?_
   refine OPS.re [iI k, bF] (by rw [show (decide (k = 1)) = false from Bp.dec.ff h4]) ?_
   refine oQ 4 { wraps := [8] } [] [2] [.bool (decide (k = 2))] .nil fun b8 => ?_
   refine OPS.nil (thn_n ?_)
   exact ⟨decide (k = 2), trivial, Bp.of Bp.dec (by first | (simp [h4]; done) | grind | (simp_all; done)), by kernel_rfl, hp0⟩
 rintro e11 w12 ⟨x9, hd14, hb10, hE15, hp13⟩
 obtain ⟨b16, rfl⟩ := toMk hE15
 clear hE15
 clear hd14
 refine WP.ret ?_
 refine bodyQ.of _ rfl [.bool x9] ⟨rfl, trivial⟩ ?_
 exact ⟨by simp only [pack]; rw [bp_eq (y := kK k) hb10 (by unfold kK; simp only [Bool.or_eq_true, Bool.not_eq_true', decide_eq_true_eq, decide_eq_false_iff_not]; try omega)], hp13.fr⟩

theorem rk_hasKey {k : Int} (hp : PA k) (w : World) : Calls Tryd.prog 34 #[.int .i64 k] w (fun r_ w' => r_ = .returned (.bool false) ∧ Fram Non w w') := (rf_hasKey k w).mono fun e w' ⟨h1, h2⟩ => ⟨h1.trans (by rw [hp.fl.2.2.1]), h2⟩
theorem rf_hasList (k : Int) (w : World) :
  Calls Tryd.prog 36 #[.int .i64 k] w (fun r_ w' => r_ = .returned (.bool (kL k)) ∧ Fram Non w w') := by
 refine calls_of Tryd.func36 rfl 17 rfl (by simp) ?_
 have hp0 := Hp.init w
 have he0 : List.map (env0 [iI k]) [0] = [iI k] := by kernel_rfl
 obtain ⟨b0, he0⟩ := toMk he0
 rw [he0]
 clear he0
 refine WP.seq (wP [0] [iI k] fun b1 => ?_)
 refine thn_n ?_
 refine WP.cut (fun e21 w22 => ∃ (x19 : Bool), (True) ∧ Bp x19 (((k = 9)) ∨ ((¬ (k = 9)) ∧ (k = 12)) ∨ ((¬ (k = 9)) ∧ (¬ (k = 12)) ∧ (k = 14)) ∨ ((¬ (k = 9)) ∧ (¬ (k = 12)) ∧ (¬ (k = 14)) ∧ (k = 16))) ∧ List.map e21 [2] = [.bool x19] ∧ Hp w Non [] w22) ?_ ?_
 ·refine wR (oP 3 [0, 5] [iI k, .bool (decide (k = 9))] fun b3 => ?_)
  by_cases h4 : k = 9
  ·refine oP 0 [0, 5] [iI k, .bool (decide (k = 9))] fun b5 => ?_
   refine OPS.re [iI k, bT] (by rw [show (decide (k = 9)) = true from Bp.dec.tt h4]) ?_
   refine oQ 12 { wraps := [8, 12, 16] } [] [2] [bT] .nil fun b6 => ?_
   refine OPS.nil (thn_n ?_)
   exact ⟨true, trivial, Bp.of Bp.t (by first | (simp [h4]; done) | grind | (simp_all; done)), by kernel_rfl, hp0⟩
  ·refine oP 0 [0, 5] [iI k, .bool (decide (k = 9))] fun b7 => ?_
   refine OPS.re [iI k, bF] (by rw [show (decide (k = 9)) = false from Bp.dec.ff h4]) ?_
   refine oQ 4 { wraps := [8] } [] [0, 9] [iI k, .bool (decide (k = 12))] .nil fun b8 => ?_
   by_cases h9 : k = 12
   ·refine oP 0 [0, 9] [iI k, .bool (decide (k = 12))] fun b10 => ?_
    refine OPS.re [iI k, bT] (by rw [show (decide (k = 12)) = true from Bp.dec.tt h9]) ?_
    refine oQ 8 { wraps := [12, 16] } [] [2] [bT] .nil fun b11 => ?_
    refine OPS.nil (thn_n ?_)
    exact ⟨true, trivial, Bp.of Bp.t (by first | (simp [h4, h9]; done) | grind | (simp_all; done)), by kernel_rfl, hp0⟩
   ·refine oP 0 [0, 9] [iI k, .bool (decide (k = 12))] fun b12 => ?_
    refine OPS.re [iI k, bF] (by rw [show (decide (k = 12)) = false from Bp.dec.ff h9]) ?_
    refine oQ 4 { wraps := [12] } [] [0, 13] [iI k, .bool (decide (k = 14))] .nil fun b13 => ?_
    by_cases h14 : k = 14
    ·refine oP 0 [0, 13] [iI k, .bool (decide (k = 14))] fun b15 => ?_
     refine OPS.re [iI k, bT] (by rw [show (decide (k = 14)) = true from Bp.dec.tt h14]) ?_
     refine oQ 4 { wraps := [16] } [] [2] [bT] .nil fun b16 => ?_
     refine OPS.nil (thn_n ?_)
     exact ⟨true, trivial, Bp.of Bp.t (by first | (simp [h4, h9, h14]; done) | grind | (simp_all; done)), by kernel_rfl, hp0⟩
    ·refine oP 0 [0, 13] [iI k, .bool (decide (k = 14))] fun b17 => ?_
     refine OPS.re [iI k, bF] (by rw [show (decide (k = 14)) = false from Bp.dec.ff h14]) ?_
     refine oQ 4 { wraps := [16] } [] [2] [.bool (decide (k = 16))] .nil fun b18 => ?_
     refine OPS.nil (thn_n ?_)
     exact ⟨decide (k = 16), trivial, Bp.of Bp.dec (by first | (simp [h4, h9, h14]; done) | grind | (simp_all; done)), by kernel_rfl, hp0⟩
 rintro e21 w22 ⟨x19, hd24, hb20, hE25, hp23⟩
 obtain ⟨b26, rfl⟩ := toMk hE25
 clear hE25
 clear hd24
 refine WP.ret ?_
 refine bodyQ.of _ rfl [.bool x19] ⟨rfl, trivial⟩ ?_
 exact ⟨by simp only [pack]; rw [bp_eq (y := kL k) hb20 (by unfold kL; simp only [Bool.or_eq_true, Bool.not_eq_true', decide_eq_true_eq, decide_eq_false_iff_not]; try omega)], hp23.fr⟩

theorem rk_hasList {k : Int} (hp : PA k) (w : World) : Calls Tryd.prog 36 #[.int .i64 k] w (fun r_ w' => r_ = .returned (.bool false) ∧ Fram Non w w') := (rf_hasList k w).mono fun e w' ⟨h1, h2⟩ => ⟨h1.trans (by rw [hp.fl.2.2.2.2.1]), h2⟩
theorem PA.ne {k : Int} (h : PA k) : ¬ k < 1 ∧ ¬ 16 < k ∧ ¬ k = 1 ∧ ¬ k = 2 ∧ ¬ k = 9 ∧ ¬ k = 10 ∧ ¬ k = 12 ∧ ¬ k = 14 ∧ ¬ k = 16 := by unfold PA at h; omega
theorem rc_k1 (A B : Int) (Ky : ByteArray) (V L : SlH) (v : ByteArray) (l : List Int) (w : World) (hv : V.n = v.size) (hn : L.n = l.length) (hL : SlR w L.a L.n (l.flatMap i64c)) :
  Calls Tryd.prog 14 #[GStep.val (⟨1, A, B, Ky, V, L⟩ : GStep)] w (fun r_ w' => r_ = .returned (.int .i64 (chkI ⟨1, A, B, Ky, v, l⟩)) ∧ Fram Non w w') := by
 refine calls_of Tryd.func14 rfl 88 rfl (by simp) ?_
 have hp0 := Hp.init w
 have he0 : List.map (env0 [GStep.val (⟨1, A, B, Ky, V, L⟩ : GStep)]) [0] = [GStep.val (⟨1, A, B, Ky, V, L⟩ : GStep)] := by kernel_rfl
 obtain ⟨b0, he0⟩ := toMk he0
 rw [he0]
 clear he0
 refine WP.seq (wR ?_)
 refine OPS.cons (opStep.box hp0 [iI 1, iI A, iI B, .string Ky, .slice V.a V.n V.c, .slice L.a L.n L.c] (by kernel_rfl) (fun g3 w1 hp2 => ?_))
 refine oP 1 [1] [pP g3] fun b4 => ?_
 refine OPS.nil (thn_n (WP.seq (WP.seq (wQ { wraps := [10] } [iI 1, iI 1] [1, 10] [pP g3, bF] (.cons (l1 3 0 (iI 1) hp2.get0) (.cons (l1 3 0 (iI 1) hp2.get0) .nil)) fun b5 => ?_))))
 refine thn_n (WP.condF rfl (WP.skip (thn_n (WP.seq ?_))))
 refine WP.cut (fun e39 w40 => ∃ (x37 : Bool), (True) ∧ Bp x37 (((¬ (B = 0))) ∨ ((B = 0) ∧ (0 < ((L.n : Nat) : Int)))) ∧ List.map e39 [1, 64] = [pP g3, .bool x37] ∧ Hp w Non [Res.row g3 [iI 1, iI A, iI B, .string Ky, .slice V.a V.n V.c, .slice L.a L.n L.c] 31] w40) ?_ ?_
 ·refine wR (oQ 2 {} [iI 1] [1, 12] [pP g3, iI 1] (.cons (l1 3 0 (iI 1) hp2.get0) .nil) fun b7 => ?_)
  refine OPS.cons (opStep.call (some 13) [iI 1] (by kernel_rfl) (rf_hasA 1 _) ?_)
  rintro _ w10 ⟨rfl, hf11⟩
  refine ⟨_, rfl, ?_⟩
  have hp12 := hp2.step hf11
  refine oQ 9 { wraps := [19] } [iI 1] [1, 20, 22] [pP g3, bF, iI 1] (.cons (l1 3 0 (iI 1) hp12.get0) .nil) fun b13 => ?_
  refine OPS.want (by kernel_rfl) ?_
  refine OPS.cons (opStep.call (some 23) [iI 1] (by kernel_rfl) (rf_hasB 1 _) ?_)
  rintro _ w16 ⟨rfl, hf17⟩
  refine ⟨_, rfl, ?_⟩
  have hp18 := hp12.step hf17
  refine oQ 8 { wraps := [29, 30] } [iI B] [1, 31] [pP g3, .bool (decide (¬ (B = 0)))] (.cons (l1 3 2 (iI B) hp18.get0) .nil) fun b19 => ?_
  by_cases h20 : B = 0
  ·refine oP 0 [1, 31] [pP g3, .bool (decide (¬ (B = 0)))] fun b23 => ?_
   refine OPS.re [pP g3, bF] (by rw [show (decide (¬ (B = 0))) = false from Bp.dec.ff (fun k => k h20)]) ?_
   refine oQ 2 {} [iI 1] [1, 31, 33] [pP g3, bF, iI 1] (.cons (l1 3 0 (iI 1) hp18.get0) .nil) fun b24 => ?_
   refine OPS.want (by kernel_rfl) ?_
   refine OPS.cons (opStep.call (some 34) [iI 1] (by kernel_rfl) (rf_hasKey 1 _) ?_)
   rintro _ w27 ⟨rfl, hf28⟩
   refine ⟨_, rfl, ?_⟩
   have hp29 := hp18.step hf28
   refine oQ 21 { wraps := [40, 41, 51, 52] } [iI 1, iI 1] [1, 53, 55] [pP g3, bF, iI 1] (.cons (l1 3 0 (iI 1) hp29.get0) (.cons (l1 3 0 (iI 1) hp29.get0) .nil)) fun b30 => ?_
   refine OPS.want (by kernel_rfl) ?_
   refine OPS.cons (opStep.call (some 56) [iI 1] (by kernel_rfl) (rf_hasList 1 _) ?_)
   rintro _ w33 ⟨rfl, hf34⟩
   refine ⟨_, rfl, ?_⟩
   have hp35 := hp29.step hf34
   refine oQ 8 { wraps := [63, 64] } [.slice L.a L.n L.c] [1, 64] [pP g3, .bool (decide (0 < ((L.n : Nat) : Int)))] (.cons (l1 29 5 (.slice L.a L.n L.c) hp35.get0) .nil) fun b36 => ?_
   refine OPS.nil (thn_n ?_)
   exact ⟨decide (0 < ((L.n : Nat) : Int)), trivial, Bp.of Bp.dec (by first | (simp [h20]; done) | grind | (simp_all; done)), by kernel_rfl, hp35⟩
  ·refine oP 0 [1, 31] [pP g3, .bool (decide (¬ (B = 0)))] fun b21 => ?_
   refine OPS.re [pP g3, bT] (by rw [show (decide (¬ (B = 0))) = true from Bp.dec.tt h20]) ?_
   refine oQ 33 { wraps := [41, 52, 64] } [] [1, 64] [pP g3, bT] .nil fun b22 => ?_
   refine OPS.nil (thn_n ?_)
   exact ⟨true, trivial, Bp.of Bp.t (by first | (simp [h20]; done) | grind | (simp_all; done)), by kernel_rfl, hp18⟩
 rintro e39 w40 ⟨x37, hd42, hb38, hE43, hp41⟩
 obtain ⟨b44, rfl⟩ := toMk hE43
 clear hE43
 clear hd42
 refine WP.test (p := ((¬ (B = 0))) ∨ ((B = 0) ∧ (0 < ((L.n : Nat) : Int)))) rfl hb38 (fun h45 => ?_) (fun h45 => ?_)
 ·refine WP.seq (wP [2] [iI 1] fun b46 => ?_)
  refine thn_n (WP.ret (thn_r ?_))
  refine bodyQ.of _ rfl [iI 1] ⟨rfl, trivial⟩ ?_
  exact ⟨by simp only [pack]; rw [chk_1 (show (1 : Int) ≤ 1 ∧ (1 : Int) ≤ 16 by decide) (fun q => by rw [okS_1] at q; have q0_ := h45; clear hL; first | omega | grind | (simp_all; done) | (simp_all; omega))], hp41.fr⟩
 ·refine WP.skip (thn_n (WP.seq (WP.seq (wQ { wraps := [87] } [iI 1] [87] [bF] (.cons (l1 3 0 (iI 1) hp41.get0) .nil) fun b47 => ?_))))
  refine thn_n (WP.condF rfl (WP.skip (thn_n (WP.seq (wP [2] [iI 0] fun b48 => ?_)))))
  refine thn_n (WP.ret ?_)
  refine bodyQ.of _ rfl [iI 0] ⟨rfl, trivial⟩ ?_
  exact ⟨by simp only [pack]; rw [chk_0 (by rw [okS_1]; have q0_ := h45; clear hL; first | omega | grind | (simp_all; done) | (simp_all; omega))], hp41.fr⟩

theorem rc_k2 (A B : Int) (Ky : ByteArray) (V L : SlH) (v : ByteArray) (l : List Int) (w : World) (hv : V.n = v.size) (hn : L.n = l.length) (hL : SlR w L.a L.n (l.flatMap i64c)) :
  Calls Tryd.prog 14 #[GStep.val (⟨2, A, B, Ky, V, L⟩ : GStep)] w (fun r_ w' => r_ = .returned (.int .i64 (chkI ⟨2, A, B, Ky, v, l⟩)) ∧ Fram Non w w') := by
 refine calls_of Tryd.func14 rfl 88 rfl (by simp) ?_
 have hp0 := Hp.init w
 have he0 : List.map (env0 [GStep.val (⟨2, A, B, Ky, V, L⟩ : GStep)]) [0] = [GStep.val (⟨2, A, B, Ky, V, L⟩ : GStep)] := by kernel_rfl
 obtain ⟨b0, he0⟩ := toMk he0
 rw [he0]
 clear he0
 refine WP.seq (wR ?_)
 refine OPS.cons (opStep.box hp0 [iI 2, iI A, iI B, .string Ky, .slice V.a V.n V.c, .slice L.a L.n L.c] (by kernel_rfl) (fun g3 w1 hp2 => ?_))
 refine oP 1 [1] [pP g3] fun b4 => ?_
 refine OPS.nil (thn_n (WP.seq (WP.seq (wQ { wraps := [10] } [iI 2, iI 2] [1, 10] [pP g3, bF] (.cons (l1 3 0 (iI 2) hp2.get0) (.cons (l1 3 0 (iI 2) hp2.get0) .nil)) fun b5 => ?_))))
 refine thn_n (WP.condF rfl (WP.skip (thn_n (WP.seq ?_))))
 refine WP.cut (fun e44 w45 => ∃ (x42 : Bool), (True) ∧ Bp x42 (((¬ (B = 0))) ∨ ((B = 0) ∧ (0 < ((V.n : Nat) : Int))) ∨ ((B = 0) ∧ (¬ (0 < ((V.n : Nat) : Int))) ∧ (0 < ((L.n : Nat) : Int)))) ∧ List.map e44 [1, 64] = [pP g3, .bool x42] ∧ Hp w Non [Res.row g3 [iI 2, iI A, iI B, .string Ky, .slice V.a V.n V.c, .slice L.a L.n L.c] 31] w45) ?_ ?_
 ·refine wR (oQ 2 {} [iI 2] [1, 12] [pP g3, iI 2] (.cons (l1 3 0 (iI 2) hp2.get0) .nil) fun b7 => ?_)
  refine OPS.cons (opStep.call (some 13) [iI 2] (by kernel_rfl) (rf_hasA 2 _) ?_)
  rintro _ w10 ⟨rfl, hf11⟩
  refine ⟨_, rfl, ?_⟩
  have hp12 := hp2.step hf11
  refine oQ 9 { wraps := [19] } [iI 2] [1, 20, 22] [pP g3, bF, iI 2] (.cons (l1 3 0 (iI 2) hp12.get0) .nil) fun b13 => ?_
  refine OPS.want (by kernel_rfl) ?_
  refine OPS.cons (opStep.call (some 23) [iI 2] (by kernel_rfl) (rf_hasB 2 _) ?_)
  rintro _ w16 ⟨rfl, hf17⟩
  refine ⟨_, rfl, ?_⟩
  have hp18 := hp12.step hf17
  refine oQ 8 { wraps := [29, 30] } [iI B] [1, 31] [pP g3, .bool (decide (¬ (B = 0)))] (.cons (l1 3 2 (iI B) hp18.get0) .nil) fun b19 => ?_
  by_cases h20 : B = 0
  ·refine oP 0 [1, 31] [pP g3, .bool (decide (¬ (B = 0)))] fun b23 => ?_
   refine OPS.re [pP g3, bF] (by rw [show (decide (¬ (B = 0))) = false from Bp.dec.ff (fun k => k h20)]) ?_
   refine oQ 2 {} [iI 2] [1, 31, 33] [pP g3, bF, iI 2] (.cons (l1 3 0 (iI 2) hp18.get0) .nil) fun b24 => ?_
   refine OPS.want (by kernel_rfl) ?_
   refine OPS.cons (opStep.call (some 34) [iI 2] (by kernel_rfl) (rf_hasKey 2 _) ?_)
   rintro _ w27 ⟨rfl, hf28⟩
   refine ⟨_, rfl, ?_⟩
   have hp29 := hp18.step hf28
   refine oQ 19 { wraps := [40, 41, 51, 52] } [iI 2, .slice V.a V.n V.c] [1, 53] [pP g3, .bool (decide (0 < ((V.n : Nat) : Int)))] (.cons (l1 3 0 (iI 2) hp29.get0) (.cons (l1 28 4 (.slice V.a V.n V.c) hp29.get0) .nil)) fun b30 => ?_
   by_cases h31 : 0 < ((V.n : Nat) : Int)
   ·refine oP 0 [1, 53] [pP g3, .bool (decide (0 < ((V.n : Nat) : Int)))] fun b32 => ?_
    refine OPS.re [pP g3, bT] (by rw [show (decide (0 < ((V.n : Nat) : Int))) = true from Bp.dec.tt h31]) ?_
    refine oQ 11 { wraps := [64] } [] [1, 64] [pP g3, bT] .nil fun b33 => ?_
    refine OPS.nil (thn_n ?_)
    exact ⟨true, trivial, Bp.of Bp.t (by first | (simp [h20, h31]; done) | grind | (simp_all; done)), by kernel_rfl, hp29⟩
   ·refine oP 0 [1, 53] [pP g3, .bool (decide (0 < ((V.n : Nat) : Int)))] fun b34 => ?_
    refine OPS.re [pP g3, bF] (by rw [show (decide (0 < ((V.n : Nat) : Int))) = false from Bp.dec.ff h31]) ?_
    refine oQ 2 {} [iI 2] [1, 53, 55] [pP g3, bF, iI 2] (.cons (l1 3 0 (iI 2) hp29.get0) .nil) fun b35 => ?_
    refine OPS.want (by kernel_rfl) ?_
    refine OPS.cons (opStep.call (some 56) [iI 2] (by kernel_rfl) (rf_hasList 2 _) ?_)
    rintro _ w38 ⟨rfl, hf39⟩
    refine ⟨_, rfl, ?_⟩
    have hp40 := hp29.step hf39
    refine oQ 8 { wraps := [63, 64] } [.slice L.a L.n L.c] [1, 64] [pP g3, .bool (decide (0 < ((L.n : Nat) : Int)))] (.cons (l1 29 5 (.slice L.a L.n L.c) hp40.get0) .nil) fun b41 => ?_
    refine OPS.nil (thn_n ?_)
    exact ⟨decide (0 < ((L.n : Nat) : Int)), trivial, Bp.of Bp.dec (by first | (simp [h20, h31]; done) | grind | (simp_all; done)), by kernel_rfl, hp40⟩
  ·refine oP 0 [1, 31] [pP g3, .bool (decide (¬ (B = 0)))] fun b21 => ?_
   refine OPS.re [pP g3, bT] (by rw [show (decide (¬ (B = 0))) = true from Bp.dec.tt h20]) ?_
   refine oQ 33 { wraps := [41, 52, 64] } [] [1, 64] [pP g3, bT] .nil fun b22 => ?_
   refine OPS.nil (thn_n ?_)
   exact ⟨true, trivial, Bp.of Bp.t (by first | (simp [h20]; done) | grind | (simp_all; done)), by kernel_rfl, hp18⟩
 rintro e44 w45 ⟨x42, hd47, hb43, hE48, hp46⟩
 obtain ⟨b49, rfl⟩ := toMk hE48
 clear hE48
 clear hd47
 refine WP.test (p := ((¬ (B = 0))) ∨ ((B = 0) ∧ (0 < ((V.n : Nat) : Int))) ∨ ((B = 0) ∧ (¬ (0 < ((V.n : Nat) : Int))) ∧ (0 < ((L.n : Nat) : Int)))) rfl hb43 (fun h50 => ?_) (fun h50 => ?_)
 ·refine WP.seq (wP [2] [iI 1] fun b51 => ?_)
  refine thn_n (WP.ret (thn_r ?_))
  refine bodyQ.of _ rfl [iI 1] ⟨rfl, trivial⟩ ?_
  exact ⟨by simp only [pack]; rw [chk_1 (show (1 : Int) ≤ 2 ∧ (2 : Int) ≤ 16 by decide) (fun q => by rw [okS_2] at q; have q0_ := h50; clear hL; first | omega | grind | (simp_all; done) | (simp_all; omega))], hp46.fr⟩
 ·refine WP.skip (thn_n (WP.seq (WP.seq (wQ { wraps := [87] } [iI 2] [87] [bF] (.cons (l1 3 0 (iI 2) hp46.get0) .nil) fun b52 => ?_))))
  refine thn_n (WP.condF rfl (WP.skip (thn_n (WP.seq (wP [2] [iI 0] fun b53 => ?_)))))
  refine thn_n (WP.ret ?_)
  refine bodyQ.of _ rfl [iI 0] ⟨rfl, trivial⟩ ?_
  exact ⟨by simp only [pack]; rw [chk_0 (by rw [okS_2]; have q0_ := h50; clear hL; first | omega | grind | (simp_all; done) | (simp_all; omega))], hp46.fr⟩

theorem rc_k9 (A B : Int) (Ky : ByteArray) (V L : SlH) (v : ByteArray) (l : List Int) (w : World) (hv : V.n = v.size) (hn : L.n = l.length) (hL : SlR w L.a L.n (l.flatMap i64c)) :
  Calls Tryd.prog 14 #[GStep.val (⟨9, A, B, Ky, V, L⟩ : GStep)] w (fun r_ w' => r_ = .returned (.int .i64 (chkI ⟨9, A, B, Ky, v, l⟩)) ∧ Fram Non w w') := by
 refine calls_of Tryd.func14 rfl 88 rfl (by simp) ?_
 have hp0 := Hp.init w
 have he0 : List.map (env0 [GStep.val (⟨9, A, B, Ky, V, L⟩ : GStep)]) [0] = [GStep.val (⟨9, A, B, Ky, V, L⟩ : GStep)] := by kernel_rfl
 obtain ⟨b0, he0⟩ := toMk he0
 rw [he0]
 clear he0
 refine WP.seq (wR ?_)
 refine OPS.cons (opStep.box hp0 [iI 9, iI A, iI B, .string Ky, .slice V.a V.n V.c, .slice L.a L.n L.c] (by kernel_rfl) (fun g3 w1 hp2 => ?_))
 refine oP 1 [1] [pP g3] fun b4 => ?_
 refine OPS.nil (thn_n (WP.seq (WP.seq (wQ { wraps := [10] } [iI 9, iI 9] [1, 10] [pP g3, bF] (.cons (l1 3 0 (iI 9) hp2.get0) (.cons (l1 3 0 (iI 9) hp2.get0) .nil)) fun b5 => ?_))))
 refine thn_n (WP.condF rfl (WP.skip (thn_n (WP.seq ?_))))
 refine WP.cut (fun e44 w45 => ∃ (x42 : Bool), (True) ∧ Bp x42 (((¬ (Ky = ⟨#[]⟩))) ∨ ((Ky = ⟨#[]⟩) ∧ (0 < ((V.n : Nat) : Int)))) ∧ List.map e44 [1, 64] = [pP g3, .bool x42] ∧ Hp w Non [Res.row g3 [iI 9, iI A, iI B, .string Ky, .slice V.a V.n V.c, .slice L.a L.n L.c] 31] w45) ?_ ?_
 ·refine wR (oQ 2 {} [iI 9] [1, 12] [pP g3, iI 9] (.cons (l1 3 0 (iI 9) hp2.get0) .nil) fun b7 => ?_)
  refine OPS.cons (opStep.call (some 13) [iI 9] (by kernel_rfl) (rf_hasA 9 _) ?_)
  rintro _ w10 ⟨rfl, hf11⟩
  refine ⟨_, rfl, ?_⟩
  have hp12 := hp2.step hf11
  refine oQ 9 { wraps := [19] } [iI 9] [1, 20, 22] [pP g3, bF, iI 9] (.cons (l1 3 0 (iI 9) hp12.get0) .nil) fun b13 => ?_
  refine OPS.want (by kernel_rfl) ?_
  refine OPS.cons (opStep.call (some 23) [iI 9] (by kernel_rfl) (rf_hasB 9 _) ?_)
  rintro _ w16 ⟨rfl, hf17⟩
  refine ⟨_, rfl, ?_⟩
  have hp18 := hp12.step hf17
  refine oQ 10 { wraps := [29, 30] } [iI 9] [1, 31, 33] [pP g3, bF, iI 9] (.cons (l1 3 0 (iI 9) hp18.get0) .nil) fun b19 => ?_
  refine OPS.want (by kernel_rfl) ?_
  refine OPS.cons (opStep.call (some 34) [iI 9] (by kernel_rfl) (rf_hasKey 9 _) ?_)
  rintro _ w22 ⟨rfl, hf23⟩
  refine ⟨_, rfl, ?_⟩
  have hp24 := hp18.step hf23
  refine oQ 8 { wraps := [40, 41] } [.string Ky] [1, 42] [pP g3, .bool (decide (¬ (Ky = ⟨#[]⟩)))] (.cons (l1 9 3 (.string Ky) hp24.get0) .nil) fun b25 => ?_
  by_cases h26 : Ky = ⟨#[]⟩
  ·refine oP 0 [1, 42] [pP g3, .bool (decide (¬ (Ky = ⟨#[]⟩)))] fun b29 => ?_
   refine OPS.re [pP g3, bF] (by rw [show (decide (¬ (Ky = ⟨#[]⟩))) = false from Bp.dec.ff (fun k => k h26)]) ?_
   refine oQ 11 { wraps := [51, 52] } [iI 9, .slice V.a V.n V.c] [1, 53] [pP g3, .bool (decide (0 < ((V.n : Nat) : Int)))] (.cons (l1 3 0 (iI 9) hp24.get0) (.cons (l1 28 4 (.slice V.a V.n V.c) hp24.get0) .nil)) fun b30 => ?_
   by_cases h31 : 0 < ((V.n : Nat) : Int)
   ·refine oP 0 [1, 53] [pP g3, .bool (decide (0 < ((V.n : Nat) : Int)))] fun b32 => ?_
    refine OPS.re [pP g3, bT] (by rw [show (decide (0 < ((V.n : Nat) : Int))) = true from Bp.dec.tt h31]) ?_
    refine oQ 11 { wraps := [64] } [] [1, 64] [pP g3, bT] .nil fun b33 => ?_
    refine OPS.nil (thn_n ?_)
    exact ⟨true, trivial, Bp.of Bp.t (by first | (simp [h26, h31]; done) | grind | (simp_all; done)), by kernel_rfl, hp24⟩
   ·refine oP 0 [1, 53] [pP g3, .bool (decide (0 < ((V.n : Nat) : Int)))] fun b34 => ?_
    refine OPS.re [pP g3, bF] (by rw [show (decide (0 < ((V.n : Nat) : Int))) = false from Bp.dec.ff h31]) ?_
    refine oQ 2 {} [iI 9] [1, 53, 55] [pP g3, bF, iI 9] (.cons (l1 3 0 (iI 9) hp24.get0) .nil) fun b35 => ?_
    refine OPS.want (by kernel_rfl) ?_
    refine OPS.cons (opStep.call (some 56) [iI 9] (by kernel_rfl) (rf_hasList 9 _) ?_)
    rintro _ w38 ⟨rfl, hf39⟩
    refine ⟨_, rfl, ?_⟩
    have hp40 := hp24.step hf39
    refine oQ 8 { wraps := [63, 64] } [] [1, 64] [pP g3, bF] .nil fun b41 => ?_
    refine OPS.nil (thn_n ?_)
    exact ⟨false, trivial, Bp.of Bp.f (by first | (simp [h26, h31]; done) | grind | (simp_all; done)), by kernel_rfl, hp40⟩
  ·refine oP 0 [1, 42] [pP g3, .bool (decide (¬ (Ky = ⟨#[]⟩)))] fun b27 => ?_
   refine OPS.re [pP g3, bT] (by rw [show (decide (¬ (Ky = ⟨#[]⟩))) = true from Bp.dec.tt h26]) ?_
   refine oQ 22 { wraps := [52, 64] } [] [1, 64] [pP g3, bT] .nil fun b28 => ?_
   refine OPS.nil (thn_n ?_)
   exact ⟨true, trivial, Bp.of Bp.t (by first | (simp [h26]; done) | grind | (simp_all; done)), by kernel_rfl, hp24⟩
 rintro e44 w45 ⟨x42, hd47, hb43, hE48, hp46⟩
 obtain ⟨b49, rfl⟩ := toMk hE48
 clear hE48
 clear hd47
 refine WP.test (p := ((¬ (Ky = ⟨#[]⟩))) ∨ ((Ky = ⟨#[]⟩) ∧ (0 < ((V.n : Nat) : Int)))) rfl hb43 (fun h50 => ?_) (fun h50 => ?_)
 ·refine WP.seq (wP [2] [iI 1] fun b51 => ?_)
  refine thn_n (WP.ret (thn_r ?_))
  refine bodyQ.of _ rfl [iI 1] ⟨rfl, trivial⟩ ?_
  exact ⟨by simp only [pack]; rw [chk_1 (show (1 : Int) ≤ 9 ∧ (9 : Int) ≤ 16 by decide) (fun q => by rw [okS_9] at q; have q0_ := h50; clear hL; first | omega | grind | (simp_all; done) | (simp_all; omega))], hp46.fr⟩
 ·refine WP.skip (thn_n (WP.seq ?_))
  refine WP.cut (fun e68 w69 => ∃ (x66 : Bool), (True) ∧ Bp x66 (((¬ (((L.n : Nat) : Int) = 1))) ∨ ((((L.n : Nat) : Int) = 1) ∧ ((l[0]!) < 0)) ∨ ((((L.n : Nat) : Int) = 1) ∧ (¬ ((l[0]!) < 0)) ∧ (4294967295 < (l[0]!)))) ∧ List.map e68 [87] = [.bool x66] ∧ Hp w Non [Res.row g3 [iI 9, iI A, iI B, .string Ky, .slice V.a V.n V.c, .slice L.a L.n L.c] 31] w69) ?_ ?_
  ·refine wR (oQ 9 {} [iI 9, .slice L.a L.n L.c] [1, 68, 73] [pP g3, bT, .bool (decide (¬ (((L.n : Nat) : Int) = 1)))] (.cons (l1 3 0 (iI 9) hp46.get0) (.cons (l1 29 5 (.slice L.a L.n L.c) hp46.get0) .nil)) fun b53 => ?_)
   by_cases h54 : ((L.n : Nat) : Int) = 1
   ·refine oP 0 [1, 68, 73] [pP g3, bT, .bool (decide (¬ (((L.n : Nat) : Int) = 1)))] fun b57 => ?_
    refine OPS.re [pP g3, bT, bF] (by rw [show (decide (¬ (((L.n : Nat) : Int) = 1))) = false from Bp.dec.ff (fun k => k h54)]) ?_
    have hy59 : (l)[0]? = some l[0]! := get_bang (by first | (omega) | (simp only [List.length_append, List.length_cons, List.length_nil]; omega) | (simp only [List.length_take, List.length_append, List.length_cons, List.length_nil]; omega))
    refine oQ 7 { wraps := [79] } [.slice L.a L.n L.c, iI (l[0]!)] [1, 68, 80] [pP g3, bT, .bool (decide ((l[0]!) < 0))] (.cons (l1 29 5 (.slice L.a L.n L.c) hp46.get0) (.cons (show InB (0) (L.n) from ⟨by omega, by omega⟩) (.cons ((hL.at hp46).some (by omega)) (.cons (Ld.add0 (Ld.el1 (P := Tryd.prog) (t := 3) (hL.at hp46).rd 1 (fun _ => rfl) hy59 (o := 0) (v := iI (l[0]!)) (by kernel_rfl))) .nil)))) fun b60 => ?_
    by_cases h61 : (l[0]!) < 0
    ·refine oP 0 [1, 68, 80] [pP g3, bT, .bool (decide ((l[0]!) < 0))] fun b62 => ?_
     refine OPS.re [pP g3, bT, bT] (by rw [show (decide ((l[0]!) < 0)) = true from Bp.dec.tt h61]) ?_
     refine oQ 7 { wraps := [86, 87] } [] [87] [bT] .nil fun b63 => ?_
     refine OPS.nil (thn_n ?_)
     exact ⟨true, trivial, Bp.of Bp.t (by first | (simp [h54, h61]; done) | grind | (simp_all; done)), by kernel_rfl, hp46⟩
    ·refine oP 0 [1, 68, 80] [pP g3, bT, .bool (decide ((l[0]!) < 0))] fun b64 => ?_
     refine OPS.re [pP g3, bT, bF] (by rw [show (decide ((l[0]!) < 0)) = false from Bp.dec.ff h61]) ?_
     refine oQ 7 { wraps := [86, 87] } [.slice L.a L.n L.c, iI (l[0]!)] [87] [.bool (decide (4294967295 < (l[0]!)))] (.cons (l1 29 5 (.slice L.a L.n L.c) hp46.get0) (.cons (show InB (0) (L.n) from ⟨by omega, by omega⟩) (.cons ((hL.at hp46).some (by omega)) (.cons (Ld.add0 (Ld.el1 (P := Tryd.prog) (t := 3) (hL.at hp46).rd 1 (fun _ => rfl) hy59 (o := 0) (v := iI (l[0]!)) (by kernel_rfl))) .nil)))) fun b65 => ?_
     refine OPS.nil (thn_n ?_)
     exact ⟨decide (4294967295 < (l[0]!)), trivial, Bp.of Bp.dec (by first | (simp [h54, h61]; done) | grind | (simp_all; done)), by kernel_rfl, hp46⟩
   ·refine oP 0 [1, 68, 73] [pP g3, bT, .bool (decide (¬ (((L.n : Nat) : Int) = 1)))] fun b55 => ?_
    refine OPS.re [pP g3, bT, bT] (by rw [show (decide (¬ (((L.n : Nat) : Int) = 1))) = true from Bp.dec.tt h54]) ?_
    refine oQ 14 { wraps := [79, 86, 87] } [] [87] [bT] .nil fun b56 => ?_
    refine OPS.nil (thn_n ?_)
    exact ⟨true, trivial, Bp.of Bp.t (by first | (simp [h54]; done) | grind | (simp_all; done)), by kernel_rfl, hp46⟩
  rintro e68 w69 ⟨x66, hd71, hb67, hE72, hp70⟩
  obtain ⟨b73, rfl⟩ := toMk hE72
  clear hE72
  clear hd71
  refine WP.test (p := ((¬ (((L.n : Nat) : Int) = 1))) ∨ ((((L.n : Nat) : Int) = 1) ∧ ((l[0]!) < 0)) ∨ ((((L.n : Nat) : Int) = 1) ∧ (¬ ((l[0]!) < 0)) ∧ (4294967295 < (l[0]!)))) rfl hb67 (fun h74 => ?_) (fun h74 => ?_)
  ·refine WP.seq (wP [2] [iI 1] fun b75 => ?_)
   refine thn_n (WP.ret (thn_r ?_))
   refine bodyQ.of _ rfl [iI 1] ⟨rfl, trivial⟩ ?_
   exact ⟨by simp only [pack]; rw [chk_1 (show (1 : Int) ≤ 9 ∧ (9 : Int) ≤ 16 by decide) (fun q => by rw [okS_9] at q; have q0_ := h50; have q1_ := h74; clear hL; first | omega | grind | (simp_all; done) | (simp_all; omega))], hp70.fr⟩
  ·refine WP.skip (thn_n (WP.seq (wP [2] [iI 0] fun b76 => ?_)))
   refine thn_n (WP.ret ?_)
   refine bodyQ.of _ rfl [iI 0] ⟨rfl, trivial⟩ ?_
   exact ⟨by simp only [pack]; rw [chk_0 (by rw [okS_9]; have q0_ := h50; have q1_ := h74; clear hL; first | omega | grind | (simp_all; done) | (simp_all; omega))], hp70.fr⟩

theorem rc_k10 (A B : Int) (Ky : ByteArray) (V L : SlH) (v : ByteArray) (l : List Int) (w : World) (hv : V.n = v.size) (hn : L.n = l.length) (hL : SlR w L.a L.n (l.flatMap i64c)) :
  Calls Tryd.prog 14 #[GStep.val (⟨10, A, B, Ky, V, L⟩ : GStep)] w (fun r_ w' => r_ = .returned (.int .i64 (chkI ⟨10, A, B, Ky, v, l⟩)) ∧ Fram Non w w') := by
 refine calls_of Tryd.func14 rfl 88 rfl (by simp) ?_
 have hp0 := Hp.init w
 have he0 : List.map (env0 [GStep.val (⟨10, A, B, Ky, V, L⟩ : GStep)]) [0] = [GStep.val (⟨10, A, B, Ky, V, L⟩ : GStep)] := by kernel_rfl
 obtain ⟨b0, he0⟩ := toMk he0
 rw [he0]
 clear he0
 refine WP.seq (wR ?_)
 refine OPS.cons (opStep.box hp0 [iI 10, iI A, iI B, .string Ky, .slice V.a V.n V.c, .slice L.a L.n L.c] (by kernel_rfl) (fun g3 w1 hp2 => ?_))
 refine oP 1 [1] [pP g3] fun b4 => ?_
 refine OPS.nil (thn_n (WP.seq (WP.seq (wQ { wraps := [10] } [iI 10, iI 10] [1, 10] [pP g3, bF] (.cons (l1 3 0 (iI 10) hp2.get0) (.cons (l1 3 0 (iI 10) hp2.get0) .nil)) fun b5 => ?_))))
 refine thn_n (WP.condF rfl (WP.skip (thn_n (WP.seq ?_))))
 refine WP.cut (fun e44 w45 => ∃ (x42 : Bool), (True) ∧ Bp x42 (((¬ (Ky = ⟨#[]⟩))) ∨ ((Ky = ⟨#[]⟩) ∧ (0 < ((V.n : Nat) : Int))) ∨ ((Ky = ⟨#[]⟩) ∧ (¬ (0 < ((V.n : Nat) : Int))) ∧ (0 < ((L.n : Nat) : Int)))) ∧ List.map e44 [1, 64] = [pP g3, .bool x42] ∧ Hp w Non [Res.row g3 [iI 10, iI A, iI B, .string Ky, .slice V.a V.n V.c, .slice L.a L.n L.c] 31] w45) ?_ ?_
 ·refine wR (oQ 2 {} [iI 10] [1, 12] [pP g3, iI 10] (.cons (l1 3 0 (iI 10) hp2.get0) .nil) fun b7 => ?_)
  refine OPS.cons (opStep.call (some 13) [iI 10] (by kernel_rfl) (rf_hasA 10 _) ?_)
  rintro _ w10 ⟨rfl, hf11⟩
  refine ⟨_, rfl, ?_⟩
  have hp12 := hp2.step hf11
  refine oQ 9 { wraps := [19] } [iI 10] [1, 20, 22] [pP g3, bF, iI 10] (.cons (l1 3 0 (iI 10) hp12.get0) .nil) fun b13 => ?_
  refine OPS.want (by kernel_rfl) ?_
  refine OPS.cons (opStep.call (some 23) [iI 10] (by kernel_rfl) (rf_hasB 10 _) ?_)
  rintro _ w16 ⟨rfl, hf17⟩
  refine ⟨_, rfl, ?_⟩
  have hp18 := hp12.step hf17
  refine oQ 10 { wraps := [29, 30] } [iI 10] [1, 31, 33] [pP g3, bF, iI 10] (.cons (l1 3 0 (iI 10) hp18.get0) .nil) fun b19 => ?_
  refine OPS.want (by kernel_rfl) ?_
  refine OPS.cons (opStep.call (some 34) [iI 10] (by kernel_rfl) (rf_hasKey 10 _) ?_)
  rintro _ w22 ⟨rfl, hf23⟩
  refine ⟨_, rfl, ?_⟩
  have hp24 := hp18.step hf23
  refine oQ 8 { wraps := [40, 41] } [.string Ky] [1, 42] [pP g3, .bool (decide (¬ (Ky = ⟨#[]⟩)))] (.cons (l1 9 3 (.string Ky) hp24.get0) .nil) fun b25 => ?_
  by_cases h26 : Ky = ⟨#[]⟩
  ·refine oP 0 [1, 42] [pP g3, .bool (decide (¬ (Ky = ⟨#[]⟩)))] fun b29 => ?_
   refine OPS.re [pP g3, bF] (by rw [show (decide (¬ (Ky = ⟨#[]⟩))) = false from Bp.dec.ff (fun k => k h26)]) ?_
   refine oQ 11 { wraps := [51, 52] } [iI 10, .slice V.a V.n V.c] [1, 53] [pP g3, .bool (decide (0 < ((V.n : Nat) : Int)))] (.cons (l1 3 0 (iI 10) hp24.get0) (.cons (l1 28 4 (.slice V.a V.n V.c) hp24.get0) .nil)) fun b30 => ?_
   by_cases h31 : 0 < ((V.n : Nat) : Int)
   ·refine oP 0 [1, 53] [pP g3, .bool (decide (0 < ((V.n : Nat) : Int)))] fun b32 => ?_
    refine OPS.re [pP g3, bT] (by rw [show (decide (0 < ((V.n : Nat) : Int))) = true from Bp.dec.tt h31]) ?_
    refine oQ 11 { wraps := [64] } [] [1, 64] [pP g3, bT] .nil fun b33 => ?_
    refine OPS.nil (thn_n ?_)
    exact ⟨true, trivial, Bp.of Bp.t (by first | (simp [h26, h31]; done) | grind | (simp_all; done)), by kernel_rfl, hp24⟩
   ·refine oP 0 [1, 53] [pP g3, .bool (decide (0 < ((V.n : Nat) : Int)))] fun b34 => ?_
    refine OPS.re [pP g3, bF] (by rw [show (decide (0 < ((V.n : Nat) : Int))) = false from Bp.dec.ff h31]) ?_
    refine oQ 2 {} [iI 10] [1, 53, 55] [pP g3, bF, iI 10] (.cons (l1 3 0 (iI 10) hp24.get0) .nil) fun b35 => ?_
    refine OPS.want (by kernel_rfl) ?_
    refine OPS.cons (opStep.call (some 56) [iI 10] (by kernel_rfl) (rf_hasList 10 _) ?_)
    rintro _ w38 ⟨rfl, hf39⟩
    refine ⟨_, rfl, ?_⟩
    have hp40 := hp24.step hf39
    refine oQ 8 { wraps := [63, 64] } [.slice L.a L.n L.c] [1, 64] [pP g3, .bool (decide (0 < ((L.n : Nat) : Int)))] (.cons (l1 29 5 (.slice L.a L.n L.c) hp40.get0) .nil) fun b41 => ?_
    refine OPS.nil (thn_n ?_)
    exact ⟨decide (0 < ((L.n : Nat) : Int)), trivial, Bp.of Bp.dec (by first | (simp [h26, h31]; done) | grind | (simp_all; done)), by kernel_rfl, hp40⟩
  ·refine oP 0 [1, 42] [pP g3, .bool (decide (¬ (Ky = ⟨#[]⟩)))] fun b27 => ?_
   refine OPS.re [pP g3, bT] (by rw [show (decide (¬ (Ky = ⟨#[]⟩))) = true from Bp.dec.tt h26]) ?_
   refine oQ 22 { wraps := [52, 64] } [] [1, 64] [pP g3, bT] .nil fun b28 => ?_
   refine OPS.nil (thn_n ?_)
   exact ⟨true, trivial, Bp.of Bp.t (by first | (simp [h26]; done) | grind | (simp_all; done)), by kernel_rfl, hp24⟩
 rintro e44 w45 ⟨x42, hd47, hb43, hE48, hp46⟩
 obtain ⟨b49, rfl⟩ := toMk hE48
 clear hE48
 clear hd47
 refine WP.test (p := ((¬ (Ky = ⟨#[]⟩))) ∨ ((Ky = ⟨#[]⟩) ∧ (0 < ((V.n : Nat) : Int))) ∨ ((Ky = ⟨#[]⟩) ∧ (¬ (0 < ((V.n : Nat) : Int))) ∧ (0 < ((L.n : Nat) : Int)))) rfl hb43 (fun h50 => ?_) (fun h50 => ?_)
 ·refine WP.seq (wP [2] [iI 1] fun b51 => ?_)
  refine thn_n (WP.ret (thn_r ?_))
  refine bodyQ.of _ rfl [iI 1] ⟨rfl, trivial⟩ ?_
  exact ⟨by simp only [pack]; rw [chk_1 (show (1 : Int) ≤ 10 ∧ (10 : Int) ≤ 16 by decide) (fun q => by rw [okS_10] at q; have q0_ := h50; clear hL; first | omega | grind | (simp_all; done) | (simp_all; omega))], hp46.fr⟩
 ·refine WP.skip (thn_n (WP.seq (WP.seq (wQ { wraps := [87] } [iI 10] [87] [bF] (.cons (l1 3 0 (iI 10) hp46.get0) .nil) fun b52 => ?_))))
  refine thn_n (WP.condF rfl (WP.skip (thn_n (WP.seq (wP [2] [iI 0] fun b53 => ?_)))))
  refine thn_n (WP.ret ?_)
  refine bodyQ.of _ rfl [iI 0] ⟨rfl, trivial⟩ ?_
  exact ⟨by simp only [pack]; rw [chk_0 (by rw [okS_10]; have q0_ := h50; clear hL; first | omega | grind | (simp_all; done) | (simp_all; omega))], hp46.fr⟩

theorem rc_k12 (A B : Int) (Ky : ByteArray) (V L : SlH) (v : ByteArray) (l : List Int) (w : World) (hv : V.n = v.size) (hn : L.n = l.length) (hL : SlR w L.a L.n (l.flatMap i64c)) :
  Calls Tryd.prog 14 #[GStep.val (⟨12, A, B, Ky, V, L⟩ : GStep)] w (fun r_ w' => r_ = .returned (.int .i64 (chkI ⟨12, A, B, Ky, v, l⟩)) ∧ Fram Non w w') := by
 refine calls_of Tryd.func14 rfl 88 rfl (by simp) ?_
 have hp0 := Hp.init w
 have he0 : List.map (env0 [GStep.val (⟨12, A, B, Ky, V, L⟩ : GStep)]) [0] = [GStep.val (⟨12, A, B, Ky, V, L⟩ : GStep)] := by kernel_rfl
 obtain ⟨b0, he0⟩ := toMk he0
 rw [he0]
 clear he0
 refine WP.seq (wR ?_)
 refine OPS.cons (opStep.box hp0 [iI 12, iI A, iI B, .string Ky, .slice V.a V.n V.c, .slice L.a L.n L.c] (by kernel_rfl) (fun g3 w1 hp2 => ?_))
 refine oP 1 [1] [pP g3] fun b4 => ?_
 refine OPS.nil (thn_n (WP.seq (WP.seq (wQ { wraps := [10] } [iI 12, iI 12] [1, 10] [pP g3, bF] (.cons (l1 3 0 (iI 12) hp2.get0) (.cons (l1 3 0 (iI 12) hp2.get0) .nil)) fun b5 => ?_))))
 refine thn_n (WP.condF rfl (WP.skip (thn_n (WP.seq ?_))))
 refine WP.cut (fun e49 w50 => ∃ (x47 : Bool), (True) ∧ Bp x47 (((¬ (B = 0))) ∨ ((B = 0) ∧ (¬ (Ky = ⟨#[]⟩))) ∨ ((B = 0) ∧ (Ky = ⟨#[]⟩) ∧ (0 < ((V.n : Nat) : Int)))) ∧ List.map e49 [1, 64] = [pP g3, .bool x47] ∧ Hp w Non [Res.row g3 [iI 12, iI A, iI B, .string Ky, .slice V.a V.n V.c, .slice L.a L.n L.c] 31] w50) ?_ ?_
 ·refine wR (oQ 2 {} [iI 12] [1, 12] [pP g3, iI 12] (.cons (l1 3 0 (iI 12) hp2.get0) .nil) fun b7 => ?_)
  refine OPS.cons (opStep.call (some 13) [iI 12] (by kernel_rfl) (rf_hasA 12 _) ?_)
  rintro _ w10 ⟨rfl, hf11⟩
  refine ⟨_, rfl, ?_⟩
  have hp12 := hp2.step hf11
  refine oQ 9 { wraps := [19] } [iI 12] [1, 20, 22] [pP g3, bF, iI 12] (.cons (l1 3 0 (iI 12) hp12.get0) .nil) fun b13 => ?_
  refine OPS.want (by kernel_rfl) ?_
  refine OPS.cons (opStep.call (some 23) [iI 12] (by kernel_rfl) (rf_hasB 12 _) ?_)
  rintro _ w16 ⟨rfl, hf17⟩
  refine ⟨_, rfl, ?_⟩
  have hp18 := hp12.step hf17
  refine oQ 8 { wraps := [29, 30] } [iI B] [1, 31] [pP g3, .bool (decide (¬ (B = 0)))] (.cons (l1 3 2 (iI B) hp18.get0) .nil) fun b19 => ?_
  by_cases h20 : B = 0
  ·refine oP 0 [1, 31] [pP g3, .bool (decide (¬ (B = 0)))] fun b23 => ?_
   refine OPS.re [pP g3, bF] (by rw [show (decide (¬ (B = 0))) = false from Bp.dec.ff (fun k => k h20)]) ?_
   refine oQ 2 {} [iI 12] [1, 31, 33] [pP g3, bF, iI 12] (.cons (l1 3 0 (iI 12) hp18.get0) .nil) fun b24 => ?_
   refine OPS.want (by kernel_rfl) ?_
   refine OPS.cons (opStep.call (some 34) [iI 12] (by kernel_rfl) (rf_hasKey 12 _) ?_)
   rintro _ w27 ⟨rfl, hf28⟩
   refine ⟨_, rfl, ?_⟩
   have hp29 := hp18.step hf28
   refine oQ 8 { wraps := [40, 41] } [.string Ky] [1, 42] [pP g3, .bool (decide (¬ (Ky = ⟨#[]⟩)))] (.cons (l1 9 3 (.string Ky) hp29.get0) .nil) fun b30 => ?_
   by_cases h31 : Ky = ⟨#[]⟩
   ·refine oP 0 [1, 42] [pP g3, .bool (decide (¬ (Ky = ⟨#[]⟩)))] fun b34 => ?_
    refine OPS.re [pP g3, bF] (by rw [show (decide (¬ (Ky = ⟨#[]⟩))) = false from Bp.dec.ff (fun k => k h31)]) ?_
    refine oQ 11 { wraps := [51, 52] } [iI 12, .slice V.a V.n V.c] [1, 53] [pP g3, .bool (decide (0 < ((V.n : Nat) : Int)))] (.cons (l1 3 0 (iI 12) hp29.get0) (.cons (l1 28 4 (.slice V.a V.n V.c) hp29.get0) .nil)) fun b35 => ?_
    by_cases h36 : 0 < ((V.n : Nat) : Int)
    ·refine oP 0 [1, 53] [pP g3, .bool (decide (0 < ((V.n : Nat) : Int)))] fun b37 => ?_
     refine OPS.re [pP g3, bT] (by rw [show (decide (0 < ((V.n : Nat) : Int))) = true from Bp.dec.tt h36]) ?_
     refine oQ 11 { wraps := [64] } [] [1, 64] [pP g3, bT] .nil fun b38 => ?_
     refine OPS.nil (thn_n ?_)
     exact ⟨true, trivial, Bp.of Bp.t (by first | (simp [h20, h31, h36]; done) | grind | (simp_all; done)), by kernel_rfl, hp29⟩
    ·refine oP 0 [1, 53] [pP g3, .bool (decide (0 < ((V.n : Nat) : Int)))] fun b39 => ?_
     refine OPS.re [pP g3, bF] (by rw [show (decide (0 < ((V.n : Nat) : Int))) = false from Bp.dec.ff h36]) ?_
     refine oQ 2 {} [iI 12] [1, 53, 55] [pP g3, bF, iI 12] (.cons (l1 3 0 (iI 12) hp29.get0) .nil) fun b40 => ?_
     refine OPS.want (by kernel_rfl) ?_
     refine OPS.cons (opStep.call (some 56) [iI 12] (by kernel_rfl) (rf_hasList 12 _) ?_)
     rintro _ w43 ⟨rfl, hf44⟩
     refine ⟨_, rfl, ?_⟩
     have hp45 := hp29.step hf44
     refine oQ 8 { wraps := [63, 64] } [] [1, 64] [pP g3, bF] .nil fun b46 => ?_
     refine OPS.nil (thn_n ?_)
     exact ⟨false, trivial, Bp.of Bp.f (by first | (simp [h20, h31, h36]; done) | grind | (simp_all; done)), by kernel_rfl, hp45⟩
   ·refine oP 0 [1, 42] [pP g3, .bool (decide (¬ (Ky = ⟨#[]⟩)))] fun b32 => ?_
    refine OPS.re [pP g3, bT] (by rw [show (decide (¬ (Ky = ⟨#[]⟩))) = true from Bp.dec.tt h31]) ?_
    refine oQ 22 { wraps := [52, 64] } [] [1, 64] [pP g3, bT] .nil fun b33 => ?_
    refine OPS.nil (thn_n ?_)
    exact ⟨true, trivial, Bp.of Bp.t (by first | (simp [h20, h31]; done) | grind | (simp_all; done)), by kernel_rfl, hp29⟩
  ·refine oP 0 [1, 31] [pP g3, .bool (decide (¬ (B = 0)))] fun b21 => ?_
   refine OPS.re [pP g3, bT] (by rw [show (decide (¬ (B = 0))) = true from Bp.dec.tt h20]) ?_
   refine oQ 33 { wraps := [41, 52, 64] } [] [1, 64] [pP g3, bT] .nil fun b22 => ?_
   refine OPS.nil (thn_n ?_)
   exact ⟨true, trivial, Bp.of Bp.t (by first | (simp [h20]; done) | grind | (simp_all; done)), by kernel_rfl, hp18⟩
 rintro e49 w50 ⟨x47, hd52, hb48, hE53, hp51⟩
 obtain ⟨b54, rfl⟩ := toMk hE53
 clear hE53
 clear hd52
 refine WP.test (p := ((¬ (B = 0))) ∨ ((B = 0) ∧ (¬ (Ky = ⟨#[]⟩))) ∨ ((B = 0) ∧ (Ky = ⟨#[]⟩) ∧ (0 < ((V.n : Nat) : Int)))) rfl hb48 (fun h55 => ?_) (fun h55 => ?_)
 ·refine WP.seq (wP [2] [iI 1] fun b56 => ?_)
  refine thn_n (WP.ret (thn_r ?_))
  refine bodyQ.of _ rfl [iI 1] ⟨rfl, trivial⟩ ?_
  exact ⟨by simp only [pack]; rw [chk_1 (show (1 : Int) ≤ 12 ∧ (12 : Int) ≤ 16 by decide) (fun q => by rw [okS_12] at q; have q0_ := h55; clear hL; first | omega | grind | (simp_all; done) | (simp_all; omega))], hp51.fr⟩
 ·refine WP.skip (thn_n (WP.seq (WP.seq (wQ { wraps := [87] } [iI 12] [87] [bF] (.cons (l1 3 0 (iI 12) hp51.get0) .nil) fun b57 => ?_))))
  refine thn_n (WP.condF rfl (WP.skip (thn_n (WP.seq (wP [2] [iI 0] fun b58 => ?_)))))
  refine thn_n (WP.ret ?_)
  refine bodyQ.of _ rfl [iI 0] ⟨rfl, trivial⟩ ?_
  exact ⟨by simp only [pack]; rw [chk_0 (by rw [okS_12]; have q0_ := h55; clear hL; first | omega | grind | (simp_all; done) | (simp_all; omega))], hp51.fr⟩

theorem rc_k14 (A B : Int) (Ky : ByteArray) (V L : SlH) (v : ByteArray) (l : List Int) (w : World) (hv : V.n = v.size) (hn : L.n = l.length) (hL : SlR w L.a L.n (l.flatMap i64c)) :
  Calls Tryd.prog 14 #[GStep.val (⟨14, A, B, Ky, V, L⟩ : GStep)] w (fun r_ w' => r_ = .returned (.int .i64 (chkI ⟨14, A, B, Ky, v, l⟩)) ∧ Fram Non w w') := by
 refine calls_of Tryd.func14 rfl 88 rfl (by simp) ?_
 have hp0 := Hp.init w
 have he0 : List.map (env0 [GStep.val (⟨14, A, B, Ky, V, L⟩ : GStep)]) [0] = [GStep.val (⟨14, A, B, Ky, V, L⟩ : GStep)] := by kernel_rfl
 obtain ⟨b0, he0⟩ := toMk he0
 rw [he0]
 clear he0
 refine WP.seq (wR ?_)
 refine OPS.cons (opStep.box hp0 [iI 14, iI A, iI B, .string Ky, .slice V.a V.n V.c, .slice L.a L.n L.c] (by kernel_rfl) (fun g3 w1 hp2 => ?_))
 refine oP 1 [1] [pP g3] fun b4 => ?_
 refine OPS.nil (thn_n (WP.seq (WP.seq (wQ { wraps := [10] } [iI 14, iI 14] [1, 10] [pP g3, bF] (.cons (l1 3 0 (iI 14) hp2.get0) (.cons (l1 3 0 (iI 14) hp2.get0) .nil)) fun b5 => ?_))))
 refine thn_n (WP.condF rfl (WP.skip (thn_n (WP.seq ?_))))
 refine WP.cut (fun e44 w45 => ∃ (x42 : Bool), (True) ∧ Bp x42 (((¬ (Ky = ⟨#[]⟩))) ∨ ((Ky = ⟨#[]⟩) ∧ (0 < ((V.n : Nat) : Int)))) ∧ List.map e44 [1, 64] = [pP g3, .bool x42] ∧ Hp w Non [Res.row g3 [iI 14, iI A, iI B, .string Ky, .slice V.a V.n V.c, .slice L.a L.n L.c] 31] w45) ?_ ?_
 ·refine wR (oQ 2 {} [iI 14] [1, 12] [pP g3, iI 14] (.cons (l1 3 0 (iI 14) hp2.get0) .nil) fun b7 => ?_)
  refine OPS.cons (opStep.call (some 13) [iI 14] (by kernel_rfl) (rf_hasA 14 _) ?_)
  rintro _ w10 ⟨rfl, hf11⟩
  refine ⟨_, rfl, ?_⟩
  have hp12 := hp2.step hf11
  refine oQ 9 { wraps := [19] } [iI 14] [1, 20, 22] [pP g3, bF, iI 14] (.cons (l1 3 0 (iI 14) hp12.get0) .nil) fun b13 => ?_
  refine OPS.want (by kernel_rfl) ?_
  refine OPS.cons (opStep.call (some 23) [iI 14] (by kernel_rfl) (rf_hasB 14 _) ?_)
  rintro _ w16 ⟨rfl, hf17⟩
  refine ⟨_, rfl, ?_⟩
  have hp18 := hp12.step hf17
  refine oQ 10 { wraps := [29, 30] } [iI 14] [1, 31, 33] [pP g3, bF, iI 14] (.cons (l1 3 0 (iI 14) hp18.get0) .nil) fun b19 => ?_
  refine OPS.want (by kernel_rfl) ?_
  refine OPS.cons (opStep.call (some 34) [iI 14] (by kernel_rfl) (rf_hasKey 14 _) ?_)
  rintro _ w22 ⟨rfl, hf23⟩
  refine ⟨_, rfl, ?_⟩
  have hp24 := hp18.step hf23
  refine oQ 8 { wraps := [40, 41] } [.string Ky] [1, 42] [pP g3, .bool (decide (¬ (Ky = ⟨#[]⟩)))] (.cons (l1 9 3 (.string Ky) hp24.get0) .nil) fun b25 => ?_
  by_cases h26 : Ky = ⟨#[]⟩
  ·refine oP 0 [1, 42] [pP g3, .bool (decide (¬ (Ky = ⟨#[]⟩)))] fun b29 => ?_
   refine OPS.re [pP g3, bF] (by rw [show (decide (¬ (Ky = ⟨#[]⟩))) = false from Bp.dec.ff (fun k => k h26)]) ?_
   refine oQ 11 { wraps := [51, 52] } [iI 14, .slice V.a V.n V.c] [1, 53] [pP g3, .bool (decide (0 < ((V.n : Nat) : Int)))] (.cons (l1 3 0 (iI 14) hp24.get0) (.cons (l1 28 4 (.slice V.a V.n V.c) hp24.get0) .nil)) fun b30 => ?_
   by_cases h31 : 0 < ((V.n : Nat) : Int)
   ·refine oP 0 [1, 53] [pP g3, .bool (decide (0 < ((V.n : Nat) : Int)))] fun b32 => ?_
    refine OPS.re [pP g3, bT] (by rw [show (decide (0 < ((V.n : Nat) : Int))) = true from Bp.dec.tt h31]) ?_
    refine oQ 11 { wraps := [64] } [] [1, 64] [pP g3, bT] .nil fun b33 => ?_
    refine OPS.nil (thn_n ?_)
    exact ⟨true, trivial, Bp.of Bp.t (by first | (simp [h26, h31]; done) | grind | (simp_all; done)), by kernel_rfl, hp24⟩
   ·refine oP 0 [1, 53] [pP g3, .bool (decide (0 < ((V.n : Nat) : Int)))] fun b34 => ?_
    refine OPS.re [pP g3, bF] (by rw [show (decide (0 < ((V.n : Nat) : Int))) = false from Bp.dec.ff h31]) ?_
    refine oQ 2 {} [iI 14] [1, 53, 55] [pP g3, bF, iI 14] (.cons (l1 3 0 (iI 14) hp24.get0) .nil) fun b35 => ?_
    refine OPS.want (by kernel_rfl) ?_
    refine OPS.cons (opStep.call (some 56) [iI 14] (by kernel_rfl) (rf_hasList 14 _) ?_)
    rintro _ w38 ⟨rfl, hf39⟩
    refine ⟨_, rfl, ?_⟩
    have hp40 := hp24.step hf39
    refine oQ 8 { wraps := [63, 64] } [] [1, 64] [pP g3, bF] .nil fun b41 => ?_
    refine OPS.nil (thn_n ?_)
    exact ⟨false, trivial, Bp.of Bp.f (by first | (simp [h26, h31]; done) | grind | (simp_all; done)), by kernel_rfl, hp40⟩
  ·refine oP 0 [1, 42] [pP g3, .bool (decide (¬ (Ky = ⟨#[]⟩)))] fun b27 => ?_
   refine OPS.re [pP g3, bT] (by rw [show (decide (¬ (Ky = ⟨#[]⟩))) = true from Bp.dec.tt h26]) ?_
   refine oQ 22 { wraps := [52, 64] } [] [1, 64] [pP g3, bT] .nil fun b28 => ?_
   refine OPS.nil (thn_n ?_)
   exact ⟨true, trivial, Bp.of Bp.t (by first | (simp [h26]; done) | grind | (simp_all; done)), by kernel_rfl, hp24⟩
 rintro e44 w45 ⟨x42, hd47, hb43, hE48, hp46⟩
 obtain ⟨b49, rfl⟩ := toMk hE48
 clear hE48
 clear hd47
 refine WP.test (p := ((¬ (Ky = ⟨#[]⟩))) ∨ ((Ky = ⟨#[]⟩) ∧ (0 < ((V.n : Nat) : Int)))) rfl hb43 (fun h50 => ?_) (fun h50 => ?_)
 ·refine WP.seq (wP [2] [iI 1] fun b51 => ?_)
  refine thn_n (WP.ret (thn_r ?_))
  refine bodyQ.of _ rfl [iI 1] ⟨rfl, trivial⟩ ?_
  exact ⟨by simp only [pack]; rw [chk_1 (show (1 : Int) ≤ 14 ∧ (14 : Int) ≤ 16 by decide) (fun q => by rw [okS_14] at q; have q0_ := h50; clear hL; first | omega | grind | (simp_all; done) | (simp_all; omega))], hp46.fr⟩
 ·refine WP.skip (thn_n (WP.seq (WP.seq (wQ { wraps := [87] } [iI 14] [87] [bF] (.cons (l1 3 0 (iI 14) hp46.get0) .nil) fun b52 => ?_))))
  refine thn_n (WP.condF rfl (WP.skip (thn_n (WP.seq (wP [2] [iI 0] fun b53 => ?_)))))
  refine thn_n (WP.ret ?_)
  refine bodyQ.of _ rfl [iI 0] ⟨rfl, trivial⟩ ?_
  exact ⟨by simp only [pack]; rw [chk_0 (by rw [okS_14]; have q0_ := h50; clear hL; first | omega | grind | (simp_all; done) | (simp_all; omega))], hp46.fr⟩

theorem rc_k16 (A B : Int) (Ky : ByteArray) (V L : SlH) (v : ByteArray) (l : List Int) (w : World) (hv : V.n = v.size) (hn : L.n = l.length) (hL : SlR w L.a L.n (l.flatMap i64c)) :
  Calls Tryd.prog 14 #[GStep.val (⟨16, A, B, Ky, V, L⟩ : GStep)] w (fun r_ w' => r_ = .returned (.int .i64 (chkI ⟨16, A, B, Ky, v, l⟩)) ∧ Fram Non w w') := by
 refine calls_of Tryd.func14 rfl 88 rfl (by simp) ?_
 have hp0 := Hp.init w
 have he0 : List.map (env0 [GStep.val (⟨16, A, B, Ky, V, L⟩ : GStep)]) [0] = [GStep.val (⟨16, A, B, Ky, V, L⟩ : GStep)] := by kernel_rfl
 obtain ⟨b0, he0⟩ := toMk he0
 rw [he0]
 clear he0
 refine WP.seq (wR ?_)
 refine OPS.cons (opStep.box hp0 [iI 16, iI A, iI B, .string Ky, .slice V.a V.n V.c, .slice L.a L.n L.c] (by kernel_rfl) (fun g3 w1 hp2 => ?_))
 refine oP 1 [1] [pP g3] fun b4 => ?_
 refine OPS.nil (thn_n (WP.seq (WP.seq (wQ { wraps := [10] } [iI 16, iI 16] [1, 10] [pP g3, bF] (.cons (l1 3 0 (iI 16) hp2.get0) (.cons (l1 3 0 (iI 16) hp2.get0) .nil)) fun b5 => ?_))))
 refine thn_n (WP.condF rfl (WP.skip (thn_n (WP.seq ?_))))
 refine WP.cut (fun e49 w50 => ∃ (x47 : Bool), (True) ∧ Bp x47 (((¬ (A = 0))) ∨ ((A = 0) ∧ (¬ (Ky = ⟨#[]⟩))) ∨ ((A = 0) ∧ (Ky = ⟨#[]⟩) ∧ (0 < ((V.n : Nat) : Int)))) ∧ List.map e49 [1, 64] = [pP g3, .bool x47] ∧ Hp w Non [Res.row g3 [iI 16, iI A, iI B, .string Ky, .slice V.a V.n V.c, .slice L.a L.n L.c] 31] w50) ?_ ?_
 ·refine wR (oQ 2 {} [iI 16] [1, 12] [pP g3, iI 16] (.cons (l1 3 0 (iI 16) hp2.get0) .nil) fun b7 => ?_)
  refine OPS.cons (opStep.call (some 13) [iI 16] (by kernel_rfl) (rf_hasA 16 _) ?_)
  rintro _ w10 ⟨rfl, hf11⟩
  refine ⟨_, rfl, ?_⟩
  have hp12 := hp2.step hf11
  refine oQ 7 { wraps := [19] } [iI A] [1, 20] [pP g3, .bool (decide (¬ (A = 0)))] (.cons (l1 3 1 (iI A) hp12.get0) .nil) fun b13 => ?_
  by_cases h14 : A = 0
  ·refine oP 0 [1, 20] [pP g3, .bool (decide (¬ (A = 0)))] fun b17 => ?_
   refine OPS.re [pP g3, bF] (by rw [show (decide (¬ (A = 0))) = false from Bp.dec.ff (fun k => k h14)]) ?_
   refine oQ 2 {} [iI 16] [1, 20, 22] [pP g3, bF, iI 16] (.cons (l1 3 0 (iI 16) hp12.get0) .nil) fun b18 => ?_
   refine OPS.want (by kernel_rfl) ?_
   refine OPS.cons (opStep.call (some 23) [iI 16] (by kernel_rfl) (rf_hasB 16 _) ?_)
   rintro _ w21 ⟨rfl, hf22⟩
   refine ⟨_, rfl, ?_⟩
   have hp23 := hp12.step hf22
   refine oQ 10 { wraps := [29, 30] } [iI 16] [1, 31, 33] [pP g3, bF, iI 16] (.cons (l1 3 0 (iI 16) hp23.get0) .nil) fun b24 => ?_
   refine OPS.want (by kernel_rfl) ?_
   refine OPS.cons (opStep.call (some 34) [iI 16] (by kernel_rfl) (rf_hasKey 16 _) ?_)
   rintro _ w27 ⟨rfl, hf28⟩
   refine ⟨_, rfl, ?_⟩
   have hp29 := hp23.step hf28
   refine oQ 8 { wraps := [40, 41] } [.string Ky] [1, 42] [pP g3, .bool (decide (¬ (Ky = ⟨#[]⟩)))] (.cons (l1 9 3 (.string Ky) hp29.get0) .nil) fun b30 => ?_
   by_cases h31 : Ky = ⟨#[]⟩
   ·refine oP 0 [1, 42] [pP g3, .bool (decide (¬ (Ky = ⟨#[]⟩)))] fun b34 => ?_
    refine OPS.re [pP g3, bF] (by rw [show (decide (¬ (Ky = ⟨#[]⟩))) = false from Bp.dec.ff (fun k => k h31)]) ?_
    refine oQ 11 { wraps := [51, 52] } [iI 16, .slice V.a V.n V.c] [1, 53] [pP g3, .bool (decide (0 < ((V.n : Nat) : Int)))] (.cons (l1 3 0 (iI 16) hp29.get0) (.cons (l1 28 4 (.slice V.a V.n V.c) hp29.get0) .nil)) fun b35 => ?_
    by_cases h36 : 0 < ((V.n : Nat) : Int)
    ·refine oP 0 [1, 53] [pP g3, .bool (decide (0 < ((V.n : Nat) : Int)))] fun b37 => ?_
     refine OPS.re [pP g3, bT] (by rw [show (decide (0 < ((V.n : Nat) : Int))) = true from Bp.dec.tt h36]) ?_
     refine oQ 11 { wraps := [64] } [] [1, 64] [pP g3, bT] .nil fun b38 => ?_
     refine OPS.nil (thn_n ?_)
     exact ⟨true, trivial, Bp.of Bp.t (by first | (simp [h14, h31, h36]; done) | grind | (simp_all; done)), by kernel_rfl, hp29⟩
    ·refine oP 0 [1, 53] [pP g3, .bool (decide (0 < ((V.n : Nat) : Int)))] fun b39 => ?_
     refine OPS.re [pP g3, bF] (by rw [show (decide (0 < ((V.n : Nat) : Int))) = false from Bp.dec.ff h36]) ?_
     refine oQ 2 {} [iI 16] [1, 53, 55] [pP g3, bF, iI 16] (.cons (l1 3 0 (iI 16) hp29.get0) .nil) fun b40 => ?_
     refine OPS.want (by kernel_rfl) ?_
     refine OPS.cons (opStep.call (some 56) [iI 16] (by kernel_rfl) (rf_hasList 16 _) ?_)
     rintro _ w43 ⟨rfl, hf44⟩
     refine ⟨_, rfl, ?_⟩
     have hp45 := hp29.step hf44
     refine oQ 8 { wraps := [63, 64] } [] [1, 64] [pP g3, bF] .nil fun b46 => ?_
     refine OPS.nil (thn_n ?_)
     exact ⟨false, trivial, Bp.of Bp.f (by first | (simp [h14, h31, h36]; done) | grind | (simp_all; done)), by kernel_rfl, hp45⟩
   ·refine oP 0 [1, 42] [pP g3, .bool (decide (¬ (Ky = ⟨#[]⟩)))] fun b32 => ?_
    refine OPS.re [pP g3, bT] (by rw [show (decide (¬ (Ky = ⟨#[]⟩))) = true from Bp.dec.tt h31]) ?_
    refine oQ 22 { wraps := [52, 64] } [] [1, 64] [pP g3, bT] .nil fun b33 => ?_
    refine OPS.nil (thn_n ?_)
    exact ⟨true, trivial, Bp.of Bp.t (by first | (simp [h14, h31]; done) | grind | (simp_all; done)), by kernel_rfl, hp29⟩
  ·refine oP 0 [1, 20] [pP g3, .bool (decide (¬ (A = 0)))] fun b15 => ?_
   refine OPS.re [pP g3, bT] (by rw [show (decide (¬ (A = 0))) = true from Bp.dec.tt h14]) ?_
   refine oQ 44 { wraps := [30, 41, 52, 64] } [] [1, 64] [pP g3, bT] .nil fun b16 => ?_
   refine OPS.nil (thn_n ?_)
   exact ⟨true, trivial, Bp.of Bp.t (by first | (simp [h14]; done) | grind | (simp_all; done)), by kernel_rfl, hp12⟩
 rintro e49 w50 ⟨x47, hd52, hb48, hE53, hp51⟩
 obtain ⟨b54, rfl⟩ := toMk hE53
 clear hE53
 clear hd52
 refine WP.test (p := ((¬ (A = 0))) ∨ ((A = 0) ∧ (¬ (Ky = ⟨#[]⟩))) ∨ ((A = 0) ∧ (Ky = ⟨#[]⟩) ∧ (0 < ((V.n : Nat) : Int)))) rfl hb48 (fun h55 => ?_) (fun h55 => ?_)
 ·refine WP.seq (wP [2] [iI 1] fun b56 => ?_)
  refine thn_n (WP.ret (thn_r ?_))
  refine bodyQ.of _ rfl [iI 1] ⟨rfl, trivial⟩ ?_
  exact ⟨by simp only [pack]; rw [chk_1 (show (1 : Int) ≤ 16 ∧ (16 : Int) ≤ 16 by decide) (fun q => by rw [okS_16] at q; have q0_ := h55; clear hL; first | omega | grind | (simp_all; done) | (simp_all; omega))], hp51.fr⟩
 ·refine WP.skip (thn_n (WP.seq (WP.seq (wQ { wraps := [87] } [iI 16] [87] [bF] (.cons (l1 3 0 (iI 16) hp51.get0) .nil) fun b57 => ?_))))
  refine thn_n (WP.condF rfl (WP.skip (thn_n (WP.seq (wP [2] [iI 0] fun b58 => ?_)))))
  refine thn_n (WP.ret ?_)
  refine bodyQ.of _ rfl [iI 0] ⟨rfl, trivial⟩ ?_
  exact ⟨by simp only [pack]; rw [chk_0 (by rw [okS_16]; have q0_ := h55; clear hL; first | omega | grind | (simp_all; done) | (simp_all; omega))], hp51.fr⟩

theorem rc_kk (k : Int) (hpa : PA k) (A B : Int) (Ky : ByteArray) (V L : SlH) (v : ByteArray) (l : List Int) (w : World) (hv : V.n = v.size) (hn : L.n = l.length) (hL : SlR w L.a L.n (l.flatMap i64c)) :
  Calls Tryd.prog 14 #[GStep.val (⟨k, A, B, Ky, V, L⟩ : GStep)] w (fun r_ w' => r_ = .returned (.int .i64 (chkI ⟨k, A, B, Ky, v, l⟩)) ∧ Fram Non w w') := by
 obtain ⟨nl, nu, n1, n2, n9, n10, n12, n14, n16⟩ := hpa.ne
 refine calls_of Tryd.func14 rfl 88 rfl (by simp) ?_
 have hp0 := Hp.init w
 have he0 : List.map (env0 [GStep.val (⟨k, A, B, Ky, V, L⟩ : GStep)]) [0] = [GStep.val (⟨k, A, B, Ky, V, L⟩ : GStep)] := by kernel_rfl
 obtain ⟨b0, he0⟩ := toMk he0
 rw [he0]
 clear he0
 refine WP.seq (wR ?_)
 refine OPS.cons (opStep.box hp0 [iI k, iI A, iI B, .string Ky, .slice V.a V.n V.c, .slice L.a L.n L.c] (by kernel_rfl) (fun g3 w1 hp2 => ?_))
 refine oP 1 [1] [pP g3] fun b4 => ?_
 refine OPS.nil (thn_n (WP.seq (WP.seq (wQ { wraps := [10], subs := [5, 9] } [iI k, bF, iI k, bF] [1, 10] [pP g3, bF] (.cons (l1 3 0 (iI k) hp2.get0) (.cons (show (.bool (decide (k < 1)) : Go.Value) = bF from congrArg Value.bool (decide_eq_false nl)) (.cons (l1 3 0 (iI k) hp2.get0) (.cons (show (.bool (decide (16 < k)) : Go.Value) = bF from congrArg Value.bool (decide_eq_false nu)) .nil)))) fun b5 => ?_))))
 refine thn_n (WP.condF rfl (WP.skip (thn_n (WP.seq ?_))))
 refine WP.cut (fun e49 w50 => ∃ (x47 : Bool), (True) ∧ Bp x47 (((¬ (B = 0))) ∨ ((B = 0) ∧ (¬ (Ky = ⟨#[]⟩))) ∨ ((B = 0) ∧ (Ky = ⟨#[]⟩) ∧ (0 < ((V.n : Nat) : Int))) ∨ ((B = 0) ∧ (Ky = ⟨#[]⟩) ∧ (¬ (0 < ((V.n : Nat) : Int))) ∧ (0 < ((L.n : Nat) : Int)))) ∧ List.map e49 [1, 64] = [pP g3, .bool x47] ∧ Hp w Non [Res.row g3 [iI k, iI A, iI B, .string Ky, .slice V.a V.n V.c, .slice L.a L.n L.c] 31] w50) ?_ ?_
 ·refine wR (oQ 2 {} [iI k] [1, 12] [pP g3, iI k] (.cons (l1 3 0 (iI k) hp2.get0) .nil) fun b7 => ?_)
  refine OPS.cons (opStep.call (some 13) [iI k] (by kernel_rfl) (rk_hasA hpa _) ?_)
  rintro _ w10 ⟨rfl, hf11⟩
  refine ⟨_, rfl, ?_⟩
  have hp12 := hp2.step hf11
  refine oQ 9 { wraps := [19] } [iI k] [1, 20, 22] [pP g3, bF, iI k] (.cons (l1 3 0 (iI k) hp12.get0) .nil) fun b13 => ?_
  refine OPS.want (by kernel_rfl) ?_
  refine OPS.cons (opStep.call (some 23) [iI k] (by kernel_rfl) (rk_hasB hpa _) ?_)
  rintro _ w16 ⟨rfl, hf17⟩
  refine ⟨_, rfl, ?_⟩
  have hp18 := hp12.step hf17
  refine oQ 8 { wraps := [29, 30] } [iI B] [1, 31] [pP g3, .bool (decide (¬ (B = 0)))] (.cons (l1 3 2 (iI B) hp18.get0) .nil) fun b19 => ?_
  by_cases h20 : B = 0
  ·refine oP 0 [1, 31] [pP g3, .bool (decide (¬ (B = 0)))] fun b23 => ?_
   refine OPS.re [pP g3, bF] (by rw [show (decide (¬ (B = 0))) = false from Bp.dec.ff (fun k => k h20)]) ?_
   refine oQ 2 {} [iI k] [1, 31, 33] [pP g3, bF, iI k] (.cons (l1 3 0 (iI k) hp18.get0) .nil) fun b24 => ?_
   refine OPS.want (by kernel_rfl) ?_
   refine OPS.cons (opStep.call (some 34) [iI k] (by kernel_rfl) (rk_hasKey hpa _) ?_)
   rintro _ w27 ⟨rfl, hf28⟩
   refine ⟨_, rfl, ?_⟩
   have hp29 := hp18.step hf28
   refine oQ 8 { wraps := [40, 41] } [.string Ky] [1, 42] [pP g3, .bool (decide (¬ (Ky = ⟨#[]⟩)))] (.cons (l1 9 3 (.string Ky) hp29.get0) .nil) fun b30 => ?_
   by_cases h31 : Ky = ⟨#[]⟩
   ·refine oP 0 [1, 42] [pP g3, .bool (decide (¬ (Ky = ⟨#[]⟩)))] fun b34 => ?_
    refine OPS.re [pP g3, bF] (by rw [show (decide (¬ (Ky = ⟨#[]⟩))) = false from Bp.dec.ff (fun k => k h31)]) ?_
    refine oQ 11 { wraps := [51, 52], subs := [45] } [iI k, bT, .slice V.a V.n V.c] [1, 53] [pP g3, .bool (decide (0 < ((V.n : Nat) : Int)))] (.cons (l1 3 0 (iI k) hp29.get0) (.cons (show (.bool (decide (¬ (k = 1))) : Go.Value) = bT from congrArg Value.bool (decide_eq_true n1)) (.cons (l1 28 4 (.slice V.a V.n V.c) hp29.get0) .nil))) fun b35 => ?_
    by_cases h36 : 0 < ((V.n : Nat) : Int)
    ·refine oP 0 [1, 53] [pP g3, .bool (decide (0 < ((V.n : Nat) : Int)))] fun b37 => ?_
     refine OPS.re [pP g3, bT] (by rw [show (decide (0 < ((V.n : Nat) : Int))) = true from Bp.dec.tt h36]) ?_
     refine oQ 11 { wraps := [64] } [] [1, 64] [pP g3, bT] .nil fun b38 => ?_
     refine OPS.nil (thn_n ?_)
     exact ⟨true, trivial, Bp.of Bp.t (by first | (simp [h20, h31, h36]; done) | grind | (simp_all; done)), by kernel_rfl, hp29⟩
    ·refine oP 0 [1, 53] [pP g3, .bool (decide (0 < ((V.n : Nat) : Int)))] fun b39 => ?_
     refine OPS.re [pP g3, bF] (by rw [show (decide (0 < ((V.n : Nat) : Int))) = false from Bp.dec.ff h36]) ?_
     refine oQ 2 {} [iI k] [1, 53, 55] [pP g3, bF, iI k] (.cons (l1 3 0 (iI k) hp29.get0) .nil) fun b40 => ?_
     refine OPS.want (by kernel_rfl) ?_
     refine OPS.cons (opStep.call (some 56) [iI k] (by kernel_rfl) (rk_hasList hpa _) ?_)
     rintro _ w43 ⟨rfl, hf44⟩
     refine ⟨_, rfl, ?_⟩
     have hp45 := hp29.step hf44
     refine oQ 8 { wraps := [63, 64] } [.slice L.a L.n L.c] [1, 64] [pP g3, .bool (decide (0 < ((L.n : Nat) : Int)))] (.cons (l1 29 5 (.slice L.a L.n L.c) hp45.get0) .nil) fun b46 => ?_
     refine OPS.nil (thn_n ?_)
     exact ⟨decide (0 < ((L.n : Nat) : Int)), trivial, Bp.of Bp.dec (by first | (simp [h20, h31, h36]; done) | grind | (simp_all; done)), by kernel_rfl, hp45⟩
   ·refine oP 0 [1, 42] [pP g3, .bool (decide (¬ (Ky = ⟨#[]⟩)))] fun b32 => ?_
    refine OPS.re [pP g3, bT] (by rw [show (decide (¬ (Ky = ⟨#[]⟩))) = true from Bp.dec.tt h31]) ?_
    refine oQ 22 { wraps := [52, 64] } [] [1, 64] [pP g3, bT] .nil fun b33 => ?_
    refine OPS.nil (thn_n ?_)
    exact ⟨true, trivial, Bp.of Bp.t (by first | (simp [h20, h31]; done) | grind | (simp_all; done)), by kernel_rfl, hp29⟩
  ·refine oP 0 [1, 31] [pP g3, .bool (decide (¬ (B = 0)))] fun b21 => ?_
   refine OPS.re [pP g3, bT] (by rw [show (decide (¬ (B = 0))) = true from Bp.dec.tt h20]) ?_
   refine oQ 33 { wraps := [41, 52, 64] } [] [1, 64] [pP g3, bT] .nil fun b22 => ?_
   refine OPS.nil (thn_n ?_)
   exact ⟨true, trivial, Bp.of Bp.t (by first | (simp [h20]; done) | grind | (simp_all; done)), by kernel_rfl, hp18⟩
 rintro e49 w50 ⟨x47, hd52, hb48, hE53, hp51⟩
 obtain ⟨b54, rfl⟩ := toMk hE53
 clear hE53
 clear hd52
 refine WP.test (p := ((¬ (B = 0))) ∨ ((B = 0) ∧ (¬ (Ky = ⟨#[]⟩))) ∨ ((B = 0) ∧ (Ky = ⟨#[]⟩) ∧ (0 < ((V.n : Nat) : Int))) ∨ ((B = 0) ∧ (Ky = ⟨#[]⟩) ∧ (¬ (0 < ((V.n : Nat) : Int))) ∧ (0 < ((L.n : Nat) : Int)))) rfl hb48 (fun h55 => ?_) (fun h55 => ?_)
 ·refine WP.seq (wP [2] [iI 1] fun b56 => ?_)
  refine thn_n (WP.ret (thn_r ?_))
  refine bodyQ.of _ rfl [iI 1] ⟨rfl, trivial⟩ ?_
  exact ⟨by simp only [pack]; rw [chk_1 hpa.rng (fun q => by rw [okS_k hpa] at q; have q0_ := h55; clear hL; first | omega | grind | (simp_all; done) | (simp_all; omega))], hp51.fr⟩
 ·refine WP.skip (thn_n (WP.seq (WP.seq (wQ { wraps := [87], subs := [67] } [iI k, bF] [87] [bF] (.cons (l1 3 0 (iI k) hp51.get0) (.cons (show (.bool (decide (k = 9)) : Go.Value) = bF from congrArg Value.bool (decide_eq_false n9)) .nil)) fun b57 => ?_))))
  refine thn_n (WP.condF rfl (WP.skip (thn_n (WP.seq (wP [2] [iI 0] fun b58 => ?_)))))
  refine thn_n (WP.ret ?_)
  refine bodyQ.of _ rfl [iI 0] ⟨rfl, trivial⟩ ?_
  exact ⟨by simp only [pack]; rw [chk_0 (by rw [okS_k hpa]; have q0_ := h55; clear hL; first | omega | grind | (simp_all; done) | (simp_all; omega))], hp51.fr⟩

theorem rc_kno (K : Int) (hk : ¬ (1 ≤ K ∧ K ≤ 16)) (A B : Int) (Ky : ByteArray) (V L : SlH) (v : ByteArray) (l : List Int) (w : World) (hv : V.n = v.size) (hn : L.n = l.length) (hL : SlR w L.a L.n (l.flatMap i64c)) :
  Calls Tryd.prog 14 #[GStep.val (⟨K, A, B, Ky, V, L⟩ : GStep)] w (fun r_ w' => r_ = .returned (.int .i64 (chkI ⟨K, A, B, Ky, v, l⟩)) ∧ Fram Non w w') := by
 refine calls_of Tryd.func14 rfl 88 rfl (by simp) ?_
 have hp0 := Hp.init w
 have he0 : List.map (env0 [GStep.val (⟨K, A, B, Ky, V, L⟩ : GStep)]) [0] = [GStep.val (⟨K, A, B, Ky, V, L⟩ : GStep)] := by kernel_rfl
 obtain ⟨b0, he0⟩ := toMk he0
 rw [he0]
 clear he0
 refine WP.seq (wR ?_)
 refine OPS.cons (opStep.box hp0 [iI K, iI A, iI B, .string Ky, .slice V.a V.n V.c, .slice L.a L.n L.c] (by kernel_rfl) (fun g3 w1 hp2 => ?_))
 refine oP 1 [1] [pP g3] fun b4 => ?_
 refine OPS.nil (thn_n (WP.seq ?_))
 refine WP.cut (fun e14 w15 => ∃ (x12 : Bool), (True) ∧ Bp x12 (((K < 1)) ∨ ((¬ (K < 1)) ∧ (16 < K))) ∧ List.map e14 [1, 10] = [pP g3, .bool x12] ∧ Hp w Non [Res.row g3 [iI K, iI A, iI B, .string Ky, .slice V.a V.n V.c, .slice L.a L.n L.c] 31] w15) ?_ ?_
 ·refine wR (oQ 4 {} [iI K] [1, 6] [pP g3, .bool (decide (K < 1))] (.cons (l1 3 0 (iI K) hp2.get0) .nil) fun b6 => ?_)
  by_cases h7 : K < 1
  ·refine oP 0 [1, 6] [pP g3, .bool (decide (K < 1))] fun b8 => ?_
   refine OPS.re [pP g3, bT] (by rw [show (decide (K < 1)) = true from Bp.dec.tt h7]) ?_
   refine oQ 4 { wraps := [10] } [] [1, 10] [pP g3, bT] .nil fun b9 => ?_
   refine OPS.nil (thn_n ?_)
   exact ⟨true, trivial, Bp.of Bp.t (by first | (simp [h7]; done) | grind | (simp_all; done)), by kernel_rfl, hp2⟩
  ·refine oP 0 [1, 6] [pP g3, .bool (decide (K < 1))] fun b10 => ?_
   refine OPS.re [pP g3, bF] (by rw [show (decide (K < 1)) = false from Bp.dec.ff h7]) ?_
   refine oQ 4 { wraps := [10] } [iI K] [1, 10] [pP g3, .bool (decide (16 < K))] (.cons (l1 3 0 (iI K) hp2.get0) .nil) fun b11 => ?_
   refine OPS.nil (thn_n ?_)
   exact ⟨decide (16 < K), trivial, Bp.of Bp.dec (by first | (simp [h7]; done) | grind | (simp_all; done)), by kernel_rfl, hp2⟩
 rintro e14 w15 ⟨x12, hd17, hb13, hE18, hp16⟩
 obtain ⟨b19, rfl⟩ := toMk hE18
 clear hE18
 clear hd17
 refine WP.test (p := ((K < 1)) ∨ ((¬ (K < 1)) ∧ (16 < K))) rfl hb13 (fun h20 => ?_) (fun h20 => ?_)
 ·refine WP.seq (wP [2] [iI 32] fun b21 => ?_)
  refine thn_n (WP.ret (thn_r ?_))
  refine bodyQ.of _ rfl [iI 32] ⟨rfl, trivial⟩ ?_
  exact ⟨by simp only [pack]; rw [chk_32 hk], hp16.fr⟩
 ·refine WP.skip (thn_n (WP.seq (WP.seq ?_)))
  exfalso
  first | omega | grind

theorem rf_Check (s : GStep) (x : StepP) (w : World) (hx : StR w Tr s x) : Calls Tryd.prog 14 #[GStep.val s] w (fun r_ w' => r_ = .returned (.int .i64 (chkI x)) ∧ Fram Non w w') := by
  obtain ⟨K, A, B, Ky, V, L⟩ := s
  obtain ⟨K', A', B', Ky', v, l⟩ := x
  obtain ⟨h1, h2, h3, h4, _, hv, _, _, h9, h10⟩ := hx
  simp only at h1 h2 h3 h4 hv
  subst h1 h2 h3 h4
  by_cases hk : 1 ≤ K ∧ K ≤ 16
  · rcases kcases hk with rfl | rfl | rfl | rfl | rfl | rfl | rfl | rfl | rfl | rfl | rfl | rfl | rfl | rfl | rfl | rfl
    · exact rc_k1 A B Ky V L v l w hv h9 h10
    · exact rc_k2 A B Ky V L v l w hv h9 h10
    · exact rc_kk 3 (by unfold PA; decide) A B Ky V L v l w hv h9 h10
    · exact rc_kk 4 (by unfold PA; decide) A B Ky V L v l w hv h9 h10
    · exact rc_kk 5 (by unfold PA; decide) A B Ky V L v l w hv h9 h10
    · exact rc_kk 6 (by unfold PA; decide) A B Ky V L v l w hv h9 h10
    · exact rc_kk 7 (by unfold PA; decide) A B Ky V L v l w hv h9 h10
    · exact rc_kk 8 (by unfold PA; decide) A B Ky V L v l w hv h9 h10
    · exact rc_k9 A B Ky V L v l w hv h9 h10
    · exact rc_k10 A B Ky V L v l w hv h9 h10
    · exact rc_kk 11 (by unfold PA; decide) A B Ky V L v l w hv h9 h10
    · exact rc_k12 A B Ky V L v l w hv h9 h10
    · exact rc_kk 13 (by unfold PA; decide) A B Ky V L v l w hv h9 h10
    · exact rc_k14 A B Ky V L v l w hv h9 h10
    · exact rc_kk 15 (by unfold PA; decide) A B Ky V L v l w hv h9 h10
    · exact rc_k16 A B Ky V L v l w hv h9 h10
  · exact rc_kno K hk A B Ky V L v l w hv h9 h10
end Go.Proofs.YtbpedjefoajegaaDoor.K
namespace Go.Proofs.YtbpedjefoajegaaDoor.K
open Go Go.Proofs Go.RowKit
set_option linter.unusedVariables false
set_option linter.unusedSimpArgs false
set_option maxRecDepth 20000
set_option maxHeartbeats 4000000
noncomputable abbrev ql0 := fun a0 => ([.string ((⟨#[45]⟩ : ByteArray) ++ a0)] : List Go.Value)

def DecI (m uu : Nat) (tx : ByteArray) : Prop := (tx = ⟨#[]⟩ ∧ uu = m) ∨ (¬ tx = ⟨#[]⟩ ∧ (uu = 0 → tx = itoaT (m : Int)) ∧ (0 < uu → itoaT (m : Int) = itoaT (uu : Int) ++ tx))
theorem one_ne (c : Int) (tx : ByteArray) : ¬ strOf [c] ++ tx = ⟨#[]⟩ := fun e => by
  have h := congrArg ByteArray.size e
  rw [ByteArray.size_append, strOf_len] at h
  have : (⟨#[]⟩ : ByteArray).size = 0 := rfl
  simp at h
  omega
theorem dec1 {n : Nat} (h : n < 10) : strOf [((48 + n % 10 : Nat) : Int)] = itoaT (n : Int) := by
  apply ba_ext
  rw [str_one, itoaT_list]
  unfold Lib.itoa
  rw [if_neg (by omega), Lib.decDigits, dif_pos (by omega), show (((48 + n % 10 : Nat) : Int)).toNat = 48 + ((n : Int)).toNat from by omega]
theorem dec10 {n : Nat} (h : ¬ n < 10) : itoaT ((n / 10 : Nat) : Int) ++ strOf [((48 + n % 10 : Nat) : Int)] = itoaT (n : Int) := by
  apply ba_ext
  rw [ByteArray.data_append, Array.toList_append, str_one, itoaT_list, itoaT_list]
  unfold Lib.itoa
  rw [if_neg (by omega), if_neg (by omega)]
  conv => rhs; rw [Lib.decDigits]
  rw [dif_neg (by omega), show (((n / 10 : Nat) : Int)).toNat = ((n : Int)).toNat / 10 from by omega, show (((48 + n % 10 : Nat) : Int)).toNat = 48 + ((n : Int)).toNat % 10 from by omega]
theorem dneg {m : Nat} (h : 0 < m) : (⟨#[45]⟩ : ByteArray) ++ itoaT (m : Int) = itoaT (-(m : Int)) := by
  apply ba_ext
  rw [ByteArray.data_append, Array.toList_append, itoaT_list, itoaT_list]
  unfold Lib.itoa
  rw [if_neg (by omega), if_pos (by omega), show ((m : Int)).toNat = (-(m : Int)).natAbs from by omega]; rfl
theorem DecI.step {m uu : Nat} {tx : ByteArray} (h : DecI m uu tx) (hc : 0 < uu ∨ tx = ⟨#[]⟩) : DecI m (uu / 10) (strOf [((48 + uu % 10 : Nat) : Int)] ++ tx) := by
  refine .inr ⟨one_ne _ _, fun q => ?_, fun q => ?_⟩
  · rw [dec1 (by omega)]
    rcases h with ⟨rfl, rfl⟩ | ⟨h1, h2, h3⟩
    · apply ba_ext; simp
    · exact (h3 (hc.resolve_right h1)).symm
  · have hk : ¬ uu < 10 := by omega
    rcases h with ⟨rfl, rfl⟩ | ⟨h1, h2, h3⟩
    · rw [← dec10 hk]; congr 1
      try (apply ba_ext; simp)
    · rw [h3 (by omega), ← dec10 hk]
      apply ba_ext
      simp
theorem DecI.fin {m uu : Nat} {tx : ByteArray} (h : DecI m uu tx) (h0 : ¬ 0 < uu) (h1 : ¬ tx = ⟨#[]⟩) : tx = itoaT (m : Int) := by
  rcases h with ⟨q, _⟩ | ⟨_, q, _⟩
  · exact absurd q h1
  · exact q (by omega)
theorem wrap_c {m : Nat} (h0 : 0 < m) (h : m ≤ 9223372036854775808) : IntKind.u64.wrap (-(m : Int)) = ((18446744073709551616 - m : Nat) : Int) := by
  simp only [IntKind.wrap, IntKind.bits, IntKind.signed, Bool.false_and, Bool.false_eq_true, if_false]; omega
theorem wrap_n {m : Nat} (h0 : 0 < m) (h : m ≤ 9223372036854775808) : IntKind.u64.wrap (0 - ((18446744073709551616 - m : Nat) : Int)) = ((m : Nat) : Int) := by
  simp only [IntKind.wrap, IntKind.bits, IntKind.signed, Bool.false_and, Bool.false_eq_true, if_false]; omega
theorem ba_zero {tx : ByteArray} (h : tx.size = 0) : tx = ⟨#[]⟩ := ba_ext (by rw [show tx.data.toList = [] from List.eq_nil_of_length_eq_zero (by rw [← size_list]; exact h)])
theorem rd_pos (m : Nat) (hm : m ≤ 9223372036854775807) (w : World) :
  Calls Tryd.prog 32 #[.int .i64 (m : Int)] w (fun r_ w' => r_ = .returned (.string (itoaT (m : Int))) ∧ Fram Non w w') := by
 refine calls_of Tryd.func32 rfl 32 rfl (by simp) ?_
 have hp0 := Hp.init w
 have he0 : List.map (env0 [iI (m : Int)]) [0] = [iI (m : Int)] := by kernel_rfl
 obtain ⟨b0, he0⟩ := toMk he0
 rw [he0]
 clear he0
 refine WP.seq (wP [0] [iI (m : Int)] fun b1 => ?_)
 refine thn_n (WP.seq (wQ { subs := [6] } [.int .u64 ((m : Nat) : Int)] [0, 3] [iI (m : Int), .int .u64 ((m : Nat) : Int)] (.cons (show Rng .u64 ((m : Int)) from Rng.u64 (by omega)) (.cons (show (.int .u64 (m : Int) : Go.Value) = .int .u64 ((m : Nat) : Int) from congrArg (Value.int .u64) (rfl)) .nil)) fun b2 => ?_))
 refine thn_n (WP.seq (WP.seq (wQ { subs := [8] } [bF] [0, 3, 8] [iI (m : Int), .int .u64 ((m : Nat) : Int), bF] (.cons (show (.bool (decide ((m : Int) < 0)) : Go.Value) = bF from congrArg Value.bool (decide_eq_false (by omega))) .nil) fun b3 => ?_)))
 refine thn_n (WP.condF rfl (WP.skip (thn_n (WP.seq (wP [0, 3, 4] [iI (m : Int), .int .u64 ((m : Nat) : Int), .string ⟨#[]⟩] fun b4 => ?_)))))
 refine thn_n (WP.seq (WP.block ?_))
 refine WP.loop (fun mz_ e5 w6 => ∃ (uu : Nat) (tx : ByteArray), mz_ = uu + (1 - tx.size) ∧ (uu ≤ m ∧ DecI m uu tx ∧ (uu = 0 → 2 * tx.size ≤ m + 2) ∧ (0 < uu → 2 * tx.size + uu ≤ m)) ∧ List.map e5 [0, 3, 4] = [iI (m : Int), .int .u64 ((uu : Nat) : Int), .string tx] ∧ Hp w Non [] w6) ((m) + (1 - ((⟨#[]⟩ : ByteArray)).size)) ⟨m, (⟨#[]⟩ : ByteArray), rfl, ⟨Nat.le_refl _, .inl ⟨rfl, rfl⟩, by have : (⟨#[]⟩ : ByteArray).size = 0 := rfl; omega, by have : (⟨#[]⟩ : ByteArray).size = 0 := rfl; omega⟩, by kernel_rfl, hp0⟩ ?_
 rintro _ e5 w6 ⟨uu, tx, rfl, hI8, hE9, hp7⟩
 obtain ⟨b10, rfl⟩ := toMk hE9
 clear hE9
 obtain ⟨pa, pb, pc, pd⟩ := hI8
 have td : ((uu : Nat) : Int).tdiv 10 = ((uu / 10 : Nat) : Int) := rfl
 have tm : ((uu : Nat) : Int).tmod 10 = ((uu % 10 : Nat) : Int) := rfl
 have h45 : (⟨#[45]⟩ : ByteArray).size = 1 := rfl
 have hz0 : (⟨#[]⟩ : ByteArray).size = 0 := rfl
 have hz1 := strOf_len [((48 + uu % 10 : Nat) : Int)]
 simp only [List.length_singleton] at hz1
 have hzs := @ByteArray.size_append (strOf [((48 + uu % 10 : Nat) : Int)]) tx
 have hzt : tx = ⟨#[]⟩ → tx.size = 0 := fun e => e ▸ rfl
 have hzu : tx.size = 0 → tx = ⟨#[]⟩ := ba_zero
 refine WP.seq ?_
 refine WP.cut (fun e20 w21 => ∃ (x18 : Bool), (True) ∧ Bp x18 (((0 < ((uu : Nat) : Int))) ∨ ((¬ (0 < ((uu : Nat) : Int))) ∧ (tx = ⟨#[]⟩))) ∧ List.map e20 [0, 3, 4, 16] = [iI (m : Int), .int .u64 ((uu : Nat) : Int), .string tx, .bool x18] ∧ Hp w Non [] w21) ?_ ?_
 ·refine wR (oP 3 [0, 3, 4, 13] [iI (m : Int), .int .u64 ((uu : Nat) : Int), .string tx, .bool (decide (0 < ((uu : Nat) : Int)))] fun b12 => ?_)
  by_cases h13 : 0 < ((uu : Nat) : Int)
  ·refine oP 0 [0, 3, 4, 13] [iI (m : Int), .int .u64 ((uu : Nat) : Int), .string tx, .bool (decide (0 < ((uu : Nat) : Int)))] fun b14 => ?_
   refine OPS.re [iI (m : Int), .int .u64 ((uu : Nat) : Int), .string tx, bT] (by rw [show (decide (0 < ((uu : Nat) : Int))) = true from Bp.dec.tt h13]) ?_
   refine oQ 3 { wraps := [16] } [] [0, 3, 4, 16] [iI (m : Int), .int .u64 ((uu : Nat) : Int), .string tx, bT] .nil fun b15 => ?_
   refine OPS.nil (thn_n ?_)
   exact ⟨true, trivial, Bp.of Bp.t (by first | (simp [h13]; done) | grind | (simp_all; done)), by kernel_rfl, hp7⟩
  ·refine oP 0 [0, 3, 4, 13] [iI (m : Int), .int .u64 ((uu : Nat) : Int), .string tx, .bool (decide (0 < ((uu : Nat) : Int)))] fun b16 => ?_
   refine OPS.re [iI (m : Int), .int .u64 ((uu : Nat) : Int), .string tx, bF] (by rw [show (decide (0 < ((uu : Nat) : Int))) = false from Bp.dec.ff h13]) ?_
   refine oQ 3 { wraps := [16] } [] [0, 3, 4, 16] [iI (m : Int), .int .u64 ((uu : Nat) : Int), .string tx, .bool (decide (tx = ⟨#[]⟩))] .nil fun b17 => ?_
   refine OPS.nil (thn_n ?_)
   exact ⟨decide (tx = ⟨#[]⟩), trivial, Bp.of Bp.dec (by first | (simp [h13]; done) | grind | (simp_all; done)), by kernel_rfl, hp7⟩
 rintro e20 w21 ⟨x18, hd23, hb19, hE24, hp22⟩
 obtain ⟨b25, rfl⟩ := toMk hE24
 clear hE24
 clear hd23
 refine WP.test (p := ((0 < ((uu : Nat) : Int))) ∨ ((¬ (0 < ((uu : Nat) : Int))) ∧ (tx = ⟨#[]⟩))) rfl hb19 (fun h26 => ?_) (fun h26 => ?_)
 ·refine WP.skip (thn_n (WP.block (WP.seq ?_)))
  have hcs : 0 < uu ∨ tx.size = 0 := by rcases h26 with q | q; exact .inl (by omega); exact .inr (hzt q.2)
  refine wR (oQ 4 { subs := [18, 19, 20] } [.int .u64 ((uu % 10 : Nat) : Int), .int .u64 ((48 + uu % 10 : Nat) : Int), .int .u8 ((48 + uu % 10 : Nat) : Int)] [0, 3, 4, 20] [iI (m : Int), .int .u64 ((uu : Nat) : Int), .string tx, .int .u8 ((48 + uu % 10 : Nat) : Int)] (.cons (show (10 : Int) ≠ 0 from by omega) (.cons (show (.int .u64 (((uu : Nat) : Int).tmod 10) : Go.Value) = .int .u64 ((uu % 10 : Nat) : Int) from congrArg (Value.int .u64) (rfl)) (.cons (show Rng .u64 (48 + ((uu % 10 : Nat) : Int)) from Rng.u64 (by omega)) (.cons (show (.int .u64 (48 + ((uu % 10 : Nat) : Int)) : Go.Value) = .int .u64 ((48 + uu % 10 : Nat) : Int) from congrArg (Value.int .u64) (rfl)) (.cons (show Rng .u8 (((48 + uu % 10 : Nat) : Int)) from Rng.u8 (by omega)) (.cons (show (.int .u8 ((48 + uu % 10 : Nat) : Int) : Go.Value) = .int .u8 ((48 + uu % 10 : Nat) : Int) from congrArg (Value.int .u8) (rfl)) .nil)))))) fun b27 => ?_)
  refine OPS.cons (opStep.buildSlice (E := 5) hp22 [.int .u8 ((48 + uu % 10 : Nat) : Int)] (by kernel_rfl) (fun g30 w28 hp29 => ?_))
  refine oQ 4 {} [.string (strOf [((48 + uu % 10 : Nat) : Int)])] [0, 3, 4] [iI (m : Int), .int .u64 ((uu : Nat) : Int), .string ((strOf [((48 + uu % 10 : Nat) : Int)]) ++ tx)] (.cons (show Bs Tryd.prog w28 (.slice (some ⟨g30, 0, none⟩) 1 1) (.string (strOf [((48 + uu % 10 : Nat) : Int)])) from Bs.of (show SlR w28 (some ⟨g30, 0, none⟩) 1 (List.flatMap u8c [((48 + uu % 10 : Nat) : Int)]) from SlR.row (n := 1) hp29.get0 rfl) rfl) (.cons (show (strOf [((48 + uu % 10 : Nat) : Int)]).size + tx.size ≤ 9223372036854775807 from by omega) .nil)) fun b31 => ?_
  refine OPS.nil (thn_n (wQ { subs := [26] } [.int .u64 ((uu / 10 : Nat) : Int)] [0, 3, 4] [iI (m : Int), .int .u64 ((uu / 10 : Nat) : Int), .string ((strOf [((48 + uu % 10 : Nat) : Int)]) ++ tx)] (.cons (show (10 : Int) ≠ 0 from by omega) (.cons (show Rng .u64 (((uu : Nat) : Int).tdiv 10) from Rng.u64 (by omega)) (.cons (show (.int .u64 (((uu : Nat) : Int).tdiv 10) : Go.Value) = .int .u64 ((uu / 10 : Nat) : Int) from congrArg (Value.int .u64) (rfl)) .nil))) fun b32 => ?_))
  refine blk_n (thn_n ?_)
  exact ⟨(uu / 10) + (1 - ((strOf [((48 + uu % 10 : Nat) : Int)]) ++ tx).size), (by omega), uu / 10, (strOf [((48 + uu % 10 : Nat) : Int)]) ++ tx, rfl, ⟨by omega, pb.step (by have h_ := h26; first | exact h_ | exact h_.imp id And.right | (rcases h_ with h_ | h_; exact .inl (by omega); exact .inr h_.2)), by first | omega | (have h_ := h26; rcases h_ with h_ | h_; omega; have := hzt h_.2; omega), by first | omega | (have h_ := h26; rcases h_ with h_ | h_; omega; have := hzt h_.2; omega)⟩, by kernel_rfl, (hp29.sub (.cons _ (.slnil)))⟩
 ·refine WP.exit (thn_x (thn_x (blk_hit (thn_n (WP.seq (WP.seq (wQ { subs := [28] } [bF] [4, 28] [.string tx, bF] (.cons (show (.bool (decide ((m : Int) < 0)) : Go.Value) = bF from congrArg Value.bool (decide_eq_false (by omega))) .nil) fun b33 => ?_)))))))
  refine thn_n (WP.condF rfl (WP.skip (thn_n (WP.seq (wP [2] [.string tx] fun b34 => ?_)))))
  refine thn_n (WP.ret ?_)
  refine bodyQ.of _ rfl [.string tx] ⟨rfl, trivial⟩ ?_
  have h_ := h26
  have hf := pb.fin (by first | exact fun q => h_ (.inl q) | omega) (fun q => by first | exact h_ (.inr ⟨by omega, q⟩) | exact h_ (.inr q) | (simp_all; done))
  exact ⟨by simp only [pack]; rw [hf], hp22.fr⟩

theorem rd_neg (m : Nat) (h0 : 0 < m) (hm : m ≤ 9223372036854775808) (w : World) :
  Calls Tryd.prog 32 #[.int .i64 (-(m : Int))] w (fun r_ w' => r_ = .returned (.string (itoaT (-(m : Int)))) ∧ Fram Non w w') := by
 refine calls_of Tryd.func32 rfl 32 rfl (by simp) ?_
 have hp0 := Hp.init w
 have he0 : List.map (env0 [iI (-(m : Int))]) [0] = [iI (-(m : Int))] := by kernel_rfl
 obtain ⟨b0, he0⟩ := toMk he0
 rw [he0]
 clear he0
 refine WP.seq (wP [0] [iI (-(m : Int))] fun b1 => ?_)
 refine thn_n (WP.seq (wQ { wraps := [6], subs := [6] } [.int .u64 ((18446744073709551616 - m : Nat) : Int)] [0, 3] [iI (-(m : Int)), .int .u64 ((18446744073709551616 - m : Nat) : Int)] (.cons (show (.int .u64 (IntKind.u64.wrap (-(m : Int))) : Go.Value) = .int .u64 ((18446744073709551616 - m : Nat) : Int) from congrArg (Value.int .u64) (wrap_c h0 hm)) .nil) fun b2 => ?_))
 refine thn_n (WP.seq (WP.seq (wQ { subs := [8] } [bT] [0, 3, 8] [iI (-(m : Int)), .int .u64 ((18446744073709551616 - m : Nat) : Int), bT] (.cons (show (.bool (decide ((-(m : Int)) < 0)) : Go.Value) = bT from congrArg Value.bool (decide_eq_true (by omega))) .nil) fun b3 => ?_)))
 refine thn_n (WP.condT rfl (wQ { wraps := [10], subs := [10] } [.int .u64 ((m : Nat) : Int)] [0, 3] [iI (-(m : Int)), .int .u64 ((m : Nat) : Int)] (.cons (show (.int .u64 (IntKind.u64.wrap (0 - ((18446744073709551616 - m : Nat) : Int))) : Go.Value) = .int .u64 ((m : Nat) : Int) from congrArg (Value.int .u64) (wrap_n h0 hm)) .nil) fun b4 => ?_))
 refine thn_n (WP.seq (wP [0, 3, 4] [iI (-(m : Int)), .int .u64 ((m : Nat) : Int), .string ⟨#[]⟩] fun b5 => ?_))
 refine thn_n (WP.seq (WP.block ?_))
 refine WP.loop (fun mz_ e6 w7 => ∃ (uu : Nat) (tx : ByteArray), mz_ = uu + (1 - tx.size) ∧ (uu ≤ m ∧ DecI m uu tx ∧ (uu = 0 → 2 * tx.size ≤ m + 2) ∧ (0 < uu → 2 * tx.size + uu ≤ m)) ∧ List.map e6 [0, 3, 4] = [iI (-(m : Int)), .int .u64 ((uu : Nat) : Int), .string tx] ∧ Hp w Non [] w7) ((m) + (1 - ((⟨#[]⟩ : ByteArray)).size)) ⟨m, (⟨#[]⟩ : ByteArray), rfl, ⟨Nat.le_refl _, .inl ⟨rfl, rfl⟩, by have : (⟨#[]⟩ : ByteArray).size = 0 := rfl; omega, by have : (⟨#[]⟩ : ByteArray).size = 0 := rfl; omega⟩, by kernel_rfl, hp0⟩ ?_
 rintro _ e6 w7 ⟨uu, tx, rfl, hI9, hE10, hp8⟩
 obtain ⟨b11, rfl⟩ := toMk hE10
 clear hE10
 obtain ⟨pa, pb, pc, pd⟩ := hI9
 have td : ((uu : Nat) : Int).tdiv 10 = ((uu / 10 : Nat) : Int) := rfl
 have tm : ((uu : Nat) : Int).tmod 10 = ((uu % 10 : Nat) : Int) := rfl
 have h45 : (⟨#[45]⟩ : ByteArray).size = 1 := rfl
 have hz0 : (⟨#[]⟩ : ByteArray).size = 0 := rfl
 have hz1 := strOf_len [((48 + uu % 10 : Nat) : Int)]
 simp only [List.length_singleton] at hz1
 have hzs := @ByteArray.size_append (strOf [((48 + uu % 10 : Nat) : Int)]) tx
 have hzt : tx = ⟨#[]⟩ → tx.size = 0 := fun e => e ▸ rfl
 have hzu : tx.size = 0 → tx = ⟨#[]⟩ := ba_zero
 refine WP.seq ?_
 refine WP.cut (fun e21 w22 => ∃ (x19 : Bool), (True) ∧ Bp x19 (((0 < ((uu : Nat) : Int))) ∨ ((¬ (0 < ((uu : Nat) : Int))) ∧ (tx = ⟨#[]⟩))) ∧ List.map e21 [0, 3, 4, 16] = [iI (-(m : Int)), .int .u64 ((uu : Nat) : Int), .string tx, .bool x19] ∧ Hp w Non [] w22) ?_ ?_
 ·refine wR (oP 3 [0, 3, 4, 13] [iI (-(m : Int)), .int .u64 ((uu : Nat) : Int), .string tx, .bool (decide (0 < ((uu : Nat) : Int)))] fun b13 => ?_)
  by_cases h14 : 0 < ((uu : Nat) : Int)
  ·refine oP 0 [0, 3, 4, 13] [iI (-(m : Int)), .int .u64 ((uu : Nat) : Int), .string tx, .bool (decide (0 < ((uu : Nat) : Int)))] fun b15 => ?_
   refine OPS.re [iI (-(m : Int)), .int .u64 ((uu : Nat) : Int), .string tx, bT] (by rw [show (decide (0 < ((uu : Nat) : Int))) = true from Bp.dec.tt h14]) ?_
   refine oQ 3 { wraps := [16] } [] [0, 3, 4, 16] [iI (-(m : Int)), .int .u64 ((uu : Nat) : Int), .string tx, bT] .nil fun b16 => ?_
   refine OPS.nil (thn_n ?_)
   exact ⟨true, trivial, Bp.of Bp.t (by first | (simp [h14]; done) | grind | (simp_all; done)), by kernel_rfl, hp8⟩
  ·refine oP 0 [0, 3, 4, 13] [iI (-(m : Int)), .int .u64 ((uu : Nat) : Int), .string tx, .bool (decide (0 < ((uu : Nat) : Int)))] fun b17 => ?_
   refine OPS.re [iI (-(m : Int)), .int .u64 ((uu : Nat) : Int), .string tx, bF] (by rw [show (decide (0 < ((uu : Nat) : Int))) = false from Bp.dec.ff h14]) ?_
   refine oQ 3 { wraps := [16] } [] [0, 3, 4, 16] [iI (-(m : Int)), .int .u64 ((uu : Nat) : Int), .string tx, .bool (decide (tx = ⟨#[]⟩))] .nil fun b18 => ?_
   refine OPS.nil (thn_n ?_)
   exact ⟨decide (tx = ⟨#[]⟩), trivial, Bp.of Bp.dec (by first | (simp [h14]; done) | grind | (simp_all; done)), by kernel_rfl, hp8⟩
 rintro e21 w22 ⟨x19, hd24, hb20, hE25, hp23⟩
 obtain ⟨b26, rfl⟩ := toMk hE25
 clear hE25
 clear hd24
 refine WP.test (p := ((0 < ((uu : Nat) : Int))) ∨ ((¬ (0 < ((uu : Nat) : Int))) ∧ (tx = ⟨#[]⟩))) rfl hb20 (fun h27 => ?_) (fun h27 => ?_)
 ·refine WP.skip (thn_n (WP.block (WP.seq ?_)))
  have hcs : 0 < uu ∨ tx.size = 0 := by rcases h27 with q | q; exact .inl (by omega); exact .inr (hzt q.2)
  refine wR (oQ 4 { subs := [18, 19, 20] } [.int .u64 ((uu % 10 : Nat) : Int), .int .u64 ((48 + uu % 10 : Nat) : Int), .int .u8 ((48 + uu % 10 : Nat) : Int)] [0, 3, 4, 20] [iI (-(m : Int)), .int .u64 ((uu : Nat) : Int), .string tx, .int .u8 ((48 + uu % 10 : Nat) : Int)] (.cons (show (10 : Int) ≠ 0 from by omega) (.cons (show (.int .u64 (((uu : Nat) : Int).tmod 10) : Go.Value) = .int .u64 ((uu % 10 : Nat) : Int) from congrArg (Value.int .u64) (rfl)) (.cons (show Rng .u64 (48 + ((uu % 10 : Nat) : Int)) from Rng.u64 (by omega)) (.cons (show (.int .u64 (48 + ((uu % 10 : Nat) : Int)) : Go.Value) = .int .u64 ((48 + uu % 10 : Nat) : Int) from congrArg (Value.int .u64) (rfl)) (.cons (show Rng .u8 (((48 + uu % 10 : Nat) : Int)) from Rng.u8 (by omega)) (.cons (show (.int .u8 ((48 + uu % 10 : Nat) : Int) : Go.Value) = .int .u8 ((48 + uu % 10 : Nat) : Int) from congrArg (Value.int .u8) (rfl)) .nil)))))) fun b28 => ?_)
  refine OPS.cons (opStep.buildSlice (E := 5) hp23 [.int .u8 ((48 + uu % 10 : Nat) : Int)] (by kernel_rfl) (fun g31 w29 hp30 => ?_))
  refine oQ 4 {} [.string (strOf [((48 + uu % 10 : Nat) : Int)])] [0, 3, 4] [iI (-(m : Int)), .int .u64 ((uu : Nat) : Int), .string ((strOf [((48 + uu % 10 : Nat) : Int)]) ++ tx)] (.cons (show Bs Tryd.prog w29 (.slice (some ⟨g31, 0, none⟩) 1 1) (.string (strOf [((48 + uu % 10 : Nat) : Int)])) from Bs.of (show SlR w29 (some ⟨g31, 0, none⟩) 1 (List.flatMap u8c [((48 + uu % 10 : Nat) : Int)]) from SlR.row (n := 1) hp30.get0 rfl) rfl) (.cons (show (strOf [((48 + uu % 10 : Nat) : Int)]).size + tx.size ≤ 9223372036854775807 from by omega) .nil)) fun b32 => ?_
  refine OPS.nil (thn_n (wQ { subs := [26] } [.int .u64 ((uu / 10 : Nat) : Int)] [0, 3, 4] [iI (-(m : Int)), .int .u64 ((uu / 10 : Nat) : Int), .string ((strOf [((48 + uu % 10 : Nat) : Int)]) ++ tx)] (.cons (show (10 : Int) ≠ 0 from by omega) (.cons (show Rng .u64 (((uu : Nat) : Int).tdiv 10) from Rng.u64 (by omega)) (.cons (show (.int .u64 (((uu : Nat) : Int).tdiv 10) : Go.Value) = .int .u64 ((uu / 10 : Nat) : Int) from congrArg (Value.int .u64) (rfl)) .nil))) fun b33 => ?_))
  refine blk_n (thn_n ?_)
  exact ⟨(uu / 10) + (1 - ((strOf [((48 + uu % 10 : Nat) : Int)]) ++ tx).size), (by omega), uu / 10, (strOf [((48 + uu % 10 : Nat) : Int)]) ++ tx, rfl, ⟨by omega, pb.step (by have h_ := h27; first | exact h_ | exact h_.imp id And.right | (rcases h_ with h_ | h_; exact .inl (by omega); exact .inr h_.2)), by first | omega | (have h_ := h27; rcases h_ with h_ | h_; omega; have := hzt h_.2; omega), by first | omega | (have h_ := h27; rcases h_ with h_ | h_; omega; have := hzt h_.2; omega)⟩, by kernel_rfl, (hp30.sub (.cons _ (.slnil)))⟩
 ·refine WP.exit (thn_x (thn_x (blk_hit (thn_n (WP.seq (WP.seq (wQ { subs := [28] } [bT] [4, 28] [.string tx, bT] (.cons (show (.bool (decide ((-(m : Int)) < 0)) : Go.Value) = bT from congrArg Value.bool (decide_eq_true (by omega))) .nil) fun b34 => ?_)))))))
  refine thn_n (WP.condT rfl (wQ {} [] [4] (ql0 tx) (.cons (show (⟨#[45]⟩ : ByteArray).size + tx.size ≤ 9223372036854775807 from by omega) .nil) fun b35 => ?_))
  refine thn_n (WP.seq (wP [2] (ql0 tx) fun b36 => ?_))
  refine thn_n (WP.ret ?_)
  refine bodyQ.of _ rfl (ql0 tx) ⟨rfl, trivial⟩ ?_
  have h_ := h27
  have hf := pb.fin (by first | exact fun q => h_ (.inl q) | omega) (fun q => by first | exact h_ (.inr ⟨by omega, q⟩) | exact h_ (.inr q) | (simp_all; done))
  exact ⟨by simp only [pack]; rw [hf, dneg h0], hp23.fr⟩

theorem rf_decimal (n : Int) (hn : inI n) (w : World) : Calls Tryd.prog 32 #[.int .i64 n] w (fun r_ w' => r_ = .returned (.string (itoaT n)) ∧ Fram Non w w') := by
  obtain ⟨h1, h2⟩ := hn
  by_cases h : n < 0
  · obtain ⟨m, rfl⟩ : ∃ m : Nat, n = -(m : Int) := ⟨(-n).toNat, by omega⟩
    exact rd_neg m (by omega) (by omega) w
  · obtain ⟨m, rfl⟩ : ∃ m : Nat, n = (m : Int) := ⟨n.toNat, by omega⟩
    exact rd_pos m (by omega) w
theorem by_rng (v : ByteArray) (k : Nat) : 0 ≤ (bytesI v)[k]! ∧ (bytesI v)[k]! ≤ 255 ∧ (bytesI v)[k]!.tdiv 16 = (bytesI v)[k]! / 16 ∧ (bytesI v)[k]!.tmod 16 = (bytesI v)[k]! % 16 := by
  have h : 0 ≤ (bytesI v)[k]! ∧ (bytesI v)[k]! ≤ 255 := by
    by_cases hk : k < (bytesI v).length
    · rw [getElem!_pos _ k hk]
      have hm := List.getElem_mem hk
      generalize (bytesI v)[k] = y at hm
      unfold bytesI at hm
      obtain ⟨c, _, rfl⟩ := List.mem_map.1 hm
      have := c.toNat_lt
      omega
    · rw [getElem!_neg _ k hk]; exact ⟨by decide, by decide⟩
  exact ⟨h.1, h.2, Int.tdiv_eq_ediv_of_nonneg h.1, Int.tmod_eq_emod_of_nonneg h.1⟩
theorem by_at {v : ByteArray} {k : Nat} (hk : k < v.size) : (bytesI v)[k]! = byteAt v ((k : Nat) : Int) := by
  have h2 : k < v.data.toList.length := by rw [← size_list]; exact hk
  rw [byte_get h2, getElem!_pos _ k (by rw [bytesI_len]; exact hk)]
  unfold bytesI
  rw [List.getElem_map]
theorem rf_hex (b : SlH) (v : ByteArray) (w : World) (hn : b.n = v.size) (hbs : v.size ≤ 1099511627776) (hb : SlR w b.a b.n ((bytesI v).flatMap u8c)) :
  Calls Tryd.prog 35 #[.slice b.a b.n b.c] w (fun r_ w' => r_ = .returned (.string (hexT v)) ∧ Fram Non w w') := by
 have hbl := bytesI_len v
 refine calls_of Tryd.func35 rfl 31 rfl (by simp) ?_
 have hp0 := Hp.init w
 have he0 : List.map (env0 [.slice b.a b.n b.c]) [0] = [.slice b.a b.n b.c] := by kernel_rfl
 obtain ⟨b0, he0⟩ := toMk he0
 rw [he0]
 clear he0
 refine WP.seq (wP [0] [.slice b.a b.n b.c] fun b1 => ?_)
 refine thn_n (WP.seq (WP.seq (wP [0, 7] [.slice b.a b.n b.c, .bool (decide (((b.n : Nat) : Int) = 0))] fun b2 => ?_)))
 refine thn_n ?_
 refine WP.test (p := ((b.n : Nat) : Int) = 0) rfl Bp.dec (fun h3 => ?_) (fun h3 => ?_)
 ·refine WP.seq (wP [2] [.string ⟨#[45]⟩] fun b4 => ?_)
  refine thn_n (WP.ret (thn_r ?_))
  refine bodyQ.of _ rfl [.string ⟨#[45]⟩] ⟨rfl, trivial⟩ ?_
  exact ⟨by simp only [pack]; unfold hexT; rw [if_pos (List.eq_nil_of_length_eq_zero (by rw [← size_list]; have h_ := h3; omega))], hp0.fr⟩
 ·refine WP.skip (thn_n (WP.seq (wP [0, 3] [.slice b.a b.n b.c, nS] fun b5 => ?_)))
  refine thn_n (WP.seq (WP.seq (wP [0, 3, 4] [.slice b.a b.n b.c, nS, iI 0] fun b6 => ?_)))
  refine thn_n (WP.block ?_)
  have hp7 := (show Hp w Non [Res.own 5 1 (nS) 0 (List.flatMap u8c ([] : List Int))] w from hp0.nilOwn 5 1)
  refine WP.loop (fun mz_ e8 w9 => ∃ (k : Nat) (xs : List Int) (ao : Option Addr) (no : Nat) (co : Nat), mz_ = v.size - k ∧ (k ≤ v.size ∧ (strOf xs).data.toList = hexL (v.data.toList.take k)) ∧ List.map e8 [0, 3, 4] = [.slice b.a b.n b.c, .slice ao no co, iI (k : Int)] ∧ Hp w Non [Res.own 5 1 (.slice ao no co) no (List.flatMap u8c xs)] w9) (v.size - (0)) ⟨0, [], none, 0, 0, rfl, ⟨by omega, rfl⟩, by kernel_rfl, hp7⟩ ?_
  rintro _ e8 w9 ⟨k, xs, ao, no, co, rfl, hI11, hE12, hp10⟩
  obtain ⟨b13, rfl⟩ := toMk hE12
  clear hE12
  obtain ⟨pa, pb⟩ := hI11
  have pe := own_flat (sz := 1) (fun _ => rfl) (by decide) hp10.get0
  have pl : xs.length = 2 * k := by have := congrArg List.length pb; rw [hexL_len, List.length_take, ← size_list, ← size_list, strOf_len] at this; omega
  obtain ⟨nb1, nb2, nb3, nb4⟩ := by_rng v k
  have nat_ : k < v.size → (bytesI v)[k]! = byteAt v (k : Int) := fun q => by_at q
  have hds : (⟨#[48, 49, 50, 51, 52, 53, 54, 55, 56, 57, 97, 98, 99, 100, 101, 102]⟩ : ByteArray).size = 16 := rfl
  refine WP.seq (WP.seq (wP [0, 3, 4, 11] [.slice b.a b.n b.c, .slice ao no co, iI (k : Int), .bool (decide ((k : Int) < ((b.n : Nat) : Int)))] fun b14 => ?_))
  refine thn_n ?_
  refine WP.test (p := (k : Int) < ((b.n : Nat) : Int)) rfl Bp.dec (fun h15 => ?_) (fun h15 => ?_)
  ·refine WP.skip (thn_n (WP.seq (WP.block ?_)))
   have hp16 := hp10.drew
   have hy18 : ((bytesI v))[k]? = some (bytesI v)[k]! := get_bang (by first | (omega) | (simp only [List.length_append, List.length_cons, List.length_nil]; omega) | (simp only [List.length_take, List.length_append, List.length_cons, List.length_nil]; omega))
   refine WP.held (fun w19 => Ld Tryd.prog w19 5 ((adr b.a).add (k * 1)) (.int .u8 ((bytesI v)[k]!)) ∧ True) [] [(0, true), (1, true), (2, true), (3, true), (4, true), (5, true), (6, true), (7, true), (8, true), (9, true), (10, true), (11, true), (12, true), (13, false), (14, false), (15, true)] (np_blk (np_thn (np_thn (np_blk (np_thn np_body))))) (by kernel_rfl) ?_
   refine hQ 13 {} [.int .u8 ((bytesI v)[k]!), .int .u8 ((bytesI v)[k]!)] [0, 4, 14, 20, 26] [.slice b.a b.n b.c, iI (k : Int), .slice ao no co, .int .u8 (byteAt ⟨#[48, 49, 50, 51, 52, 53, 54, 55, 56, 57, 97, 98, 99, 100, 101, 102]⟩ (((bytesI v)[k]!).tdiv 16)), .int .u8 (byteAt ⟨#[48, 49, 50, 51, 52, 53, 54, 55, 56, 57, 97, 98, 99, 100, 101, 102]⟩ (((bytesI v)[k]!).tmod 16))] ⟨(show Ld Tryd.prog w9.drew 5 ((adr b.a).add (k * 1)) (.int .u8 ((bytesI v)[k]!)) from (Ld.add0 (Ld.el1 (P := Tryd.prog) (t := 5) (hb.at hp16).rd 1 (fun _ => rfl) hy18 (o := 0) (v := .int .u8 ((bytesI v)[k]!)) (by kernel_rfl)))), trivial⟩ (fun w20 hS21 => (.cons (show InB ((k : Int)) (b.n) from ⟨by omega, by omega⟩) (.cons ((hb.at hp16).some (by omega)) (.cons (hS21.1) (.cons (show (16 : Int) ≠ 0 from by omega) (.cons (show Rng .u8 (((bytesI v)[k]!).tdiv 16) from Rng.u8 (by omega)) (.cons (show InB (((bytesI v)[k]!).tdiv 16) (⟨#[48, 49, 50, 51, 52, 53, 54, 55, 56, 57, 97, 98, 99, 100, 101, 102]⟩ : ByteArray).size from ⟨by omega, by omega⟩) (.cons (show InB ((k : Int)) (b.n) from ⟨by omega, by omega⟩) (.cons ((hb.at hp16).some (by omega)) (.cons (hS21.1) (.cons (show (16 : Int) ≠ 0 from by omega) (.cons (show InB (((bytesI v)[k]!).tmod 16) (⟨#[48, 49, 50, 51, 52, 53, 54, 55, 56, 57, 97, 98, 99, 100, 101, 102]⟩ : ByteArray).size from ⟨by omega, by omega⟩) .nil)))))))))))) fun b22 => ?_
   refine HOPS.eff _ rfl (opStep.buildSlice (E := 5) hp16 [.int .u8 (byteAt ⟨#[48, 49, 50, 51, 52, 53, 54, 55, 56, 57, 97, 98, 99, 100, 101, 102]⟩ (((bytesI v)[k]!).tdiv 16)), .int .u8 (byteAt ⟨#[48, 49, 50, 51, 52, 53, 54, 55, 56, 57, 97, 98, 99, 100, 101, 102]⟩ (((bytesI v)[k]!).tmod 16))] (by kernel_rfl) (fun g25 w23 hp24 => ?_))
   refine ⟨.inr ⟨(show Ld Tryd.prog w23 5 ((adr b.a).add (k * 1)) (.int .u8 ((bytesI v)[k]!)) from (Ld.add0 (Ld.el1 (P := Tryd.prog) (t := 5) (hb.at hp24).rd 1 (fun _ => rfl) hy18 (o := 0) (v := .int .u8 ((bytesI v)[k]!)) (by kernel_rfl)))), trivial⟩, ?_⟩
   have hrd33 := (SlR.row (n := 2) hp24.get0 rfl).rd
   refine HOPS.eff _ rfl (opStep.append1 _ hp24 1 (by kernel_rfl) rfl rfl rfl hrd33 (List.all_eq_true.1 (by kernel_rfl)) (by decide) (by omega) (by omega) (fun a28 c29 w30 hp31 hn32 => ?_))
   rw [(show List.flatMap u8c xs ++ [.int .u8 (byteAt ⟨#[48, 49, 50, 51, 52, 53, 54, 55, 56, 57, 97, 98, 99, 100, 101, 102]⟩ (((bytesI v)[k]!).tdiv 16)), .int .u8 (byteAt ⟨#[48, 49, 50, 51, 52, 53, 54, 55, 56, 57, 97, 98, 99, 100, 101, 102]⟩ (((bytesI v)[k]!).tmod 16))] = List.flatMap u8c (xs ++ [byteAt ⟨#[48, 49, 50, 51, 52, 53, 54, 55, 56, 57, 97, 98, 99, 100, 101, 102]⟩ (((bytesI v)[k]!).tdiv 16), byteAt ⟨#[48, 49, 50, 51, 52, 53, 54, 55, 56, 57, 97, 98, 99, 100, 101, 102]⟩ (((bytesI v)[k]!).tmod 16)]) from (List.flatMap_append (xs := xs) (ys := [byteAt ⟨#[48, 49, 50, 51, 52, 53, 54, 55, 56, 57, 97, 98, 99, 100, 101, 102]⟩ (((bytesI v)[k]!).tdiv 16), byteAt ⟨#[48, 49, 50, 51, 52, 53, 54, 55, 56, 57, 97, 98, 99, 100, 101, 102]⟩ (((bytesI v)[k]!).tmod 16)])).symm)] at hp31
   refine ⟨.inr ⟨(show Ld Tryd.prog w30 5 ((adr b.a).add (k * 1)) (.int .u8 ((bytesI v)[k]!)) from (Ld.add0 (Ld.el1 (P := Tryd.prog) (t := 5) (hb.at hp31).rd 1 (fun _ => rfl) hy18 (o := 0) (v := .int .u8 ((bytesI v)[k]!)) (by kernel_rfl)))), trivial⟩, ?_⟩
   refine hP 1 [0, 3, 4] [.slice b.a b.n b.c, .slice a28 (no + 2) c29, iI (k : Int)] ⟨(show Ld Tryd.prog w30 5 ((adr b.a).add (k * 1)) (.int .u8 ((bytesI v)[k]!)) from (Ld.add0 (Ld.el1 (P := Tryd.prog) (t := 5) (hb.at hp31).rd 1 (fun _ => rfl) hy18 (o := 0) (v := .int .u8 ((bytesI v)[k]!)) (by kernel_rfl)))), trivial⟩ fun b36 => ?_
   refine HOPS.nil (blk_n (thn_n (wQ {} [] [0, 3, 4] [.slice b.a b.n b.c, .slice a28 (no + 2) c29, iI ((k : Int) + 1)] (.cons (show Rng .i64 ((k : Int) + 1) from Rng.i64 (by omega)) .nil) fun b37 => ?_)))
   refine thn_n ?_
   exact ⟨v.size - (k + 1), (by omega), k + 1, xs ++ [byteAt ⟨#[48, 49, 50, 51, 52, 53, 54, 55, 56, 57, 97, 98, 99, 100, 101, 102]⟩ (((bytesI v)[k]!).tdiv 16), byteAt ⟨#[48, 49, 50, 51, 52, 53, 54, 55, 56, 57, 97, 98, 99, 100, 101, 102]⟩ (((bytesI v)[k]!).tmod 16)], a28, no + 2, c29, rfl, ⟨by omega, hex_step (by omega) pb (by rw [nb3, nat_ (by omega)]) (by rw [nb4, nat_ (by omega)])⟩, by kernel_rfl, (hp31.sub (.cons _ (.cons_cons _ (.slnil))))⟩
  ·refine WP.exit (thn_x (thn_x (blk_hit (thn_n (WP.seq (wQ {} [.string (strOf xs)] [2] [.string (strOf xs)] (.cons (show Bs Tryd.prog w9 (.slice ao no co) (.string (strOf xs)) from Bs.of (SlR.own hp10.get0) (own_flat (sz := 1) (fun _ => rfl) (by decide) hp10.get0)) .nil) fun b38 => ?_))))))
   refine thn_n (WP.ret ?_)
   refine bodyQ.of _ rfl [.string (strOf xs)] ⟨rfl, trivial⟩ ?_
   obtain rfl : k = v.size := by omega
   rw [List.take_of_length_le (by rw [← size_list]; exact Nat.le_refl _)] at pb
   exact ⟨by simp only [pack]; unfold hexT; rw [if_neg (fun q => h3 (by have h_ : v.size = 0 := (by rw [size_list, q]; rfl); omega)), ← pb, mk_list], hp10.fr⟩

end Go.Proofs.YtbpedjefoajegaaDoor.K
