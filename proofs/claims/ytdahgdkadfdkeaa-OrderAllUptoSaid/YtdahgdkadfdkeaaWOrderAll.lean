/- The walks of WOrderAll: what each function computes. -/
import Derived.Test.YtdahgdkadfdkeaaProg
import Derived.Test.YtdahgdkadfdkeaaCoreO
import Derived.Test.YtdahgdkadfdkeaaReoI
import Derived.Test.YtdahgdkadfdkeaaReoC
namespace Go.Proofs.Ytdahgdkadfdkeaa.K
open Go Go.Proofs Go.RowKit
set_option linter.unusedVariables false
set_option linter.unusedSimpArgs false
set_option maxRecDepth 20000
set_option maxHeartbeats 4000000

theorem OrderAll {okp : GCall → Prop} {oki : Int → Prop} (BN BI : Nat) (hBN : BN ≤ 1048576) (hBI : BI ≤ 1048576) (w : World) (s1 s2 : SlH) (l1 : List GCall) (l2 : List Int) (o1 : SlD w (α := GCall) GCall.cells okp BN s1 l1) (o2 : SlD w (fun (y : Int) => [Go.Value.int .i64 y]) oki BI s2 l2) (hv : ∀ x ∈ l1, VB w x.Value) (hr : ByR w l1) (hvn : ∀ x ∈ l1, x.Value.n ≤ 140737488351232) :
    Calls Try.prog 5 #[.slice s1.a s1.n s1.c, .slice s2.a s2.n s2.c] w (fun x w' => x = .returned (.bool true) ∧ Fram Non w w') := by
  have hn1 := o1.len
  have hc1_ := o1.cap
  have hd1 := o1.bnd
  have hn2 := o2.len
  have hc2_ := o2.cap
  have hd2 := o2.bnd
  refine calls_of Try.func5 rfl 121 rfl (by simp) ?_
  have hp0 := Hp.init w
  have he0 : List.map (env0 [.slice s1.a s1.n s1.c, .slice s2.a s2.n s2.c]) [0, 1] = [.slice s1.a s1.n s1.c, .slice s2.a s2.n s2.c] := by kernel_rfl
  obtain ⟨b0, he0⟩ := toMk he0
  rw [he0]
  clear he0
  refine WP.seq ?_
  refine WP.pure {} [] [0, 1] [.slice s1.a s1.n s1.c, .slice s2.a s2.n s2.c] .nil (by kernel_rfl) (fun b1 => ?_)
  refine thn_n ?_
  refine WP.seq ?_
  refine WP.region _ rfl (by kernel_rfl) ?_
  refine OPS.batch 1 {} [] [0, 1, 14] [.slice s1.a s1.n s1.c, .slice s2.a s2.n s2.c, .slice s1.a s1.n s1.c] .nil (by kernel_rfl) (fun b2 => ?_)
  refine OPS.cons (opStep.call (some 15) [.slice s1.a s1.n s1.c] (by kernel_rfl) (l21_calls l1 _ _ _ _ (by omega) (by omega) (o1.rd.at hp0) (by omega) (fun y hy => (hv y hy).at' hp0.fr) hvn) ?_)
  rintro _ w5 ⟨a7, c8, cl9, bs10, F11, x12, rfl, hc13, hx14, hp6⟩
  refine ⟨_, rfl, ?_⟩
  have hc16 := cpC_base (w0 := w) (Nat.le_refl _) hc13 hp0.fr hv
  have hp15 := hp0.madeQ hp6
  simp only [List.cons_append, List.nil_append] at hp15
  have hc16m := hc16.1
  have hc16c := own_cap hp15.get0
  refine OPS.batch 1 {} [] [0, 1, 5] [.slice s1.a s1.n s1.c, .slice s2.a s2.n s2.c, .slice a7 l1.length c8] .nil (by kernel_rfl) (fun b17 => ?_)
  refine OPS.nil ?_
  refine thn_n ?_
  refine WP.seq ?_
  refine WP.region _ rfl (by kernel_rfl) ?_
  refine OPS.batch 1 {} [] [0, 1, 5, 16] [.slice s1.a s1.n s1.c, .slice s2.a s2.n s2.c, .slice a7 l1.length c8, .slice s2.a s2.n s2.c] .nil (by kernel_rfl) (fun b18 => ?_)
  refine OPS.cons (opStep.call (some 17) [.slice s2.a s2.n s2.c] (by kernel_rfl) (l21_ints l2 _ _ _ hn2 (by omega) _ (o2.rd.at hp15)) ?_)
  rintro _ w21 ⟨a23, c24, rfl, hp22⟩
  refine ⟨_, rfl, ?_⟩
  have hp25 := hp15.made hp22
  have hp25c := own_cap hp25.get0
  refine OPS.batch 1 {} [] [0, 1, 5, 6] [.slice s1.a s1.n s1.c, .slice s2.a s2.n s2.c, .slice a7 l1.length c8, .slice a23 s2.n c24] .nil (by kernel_rfl) (fun b26 => ?_)
  refine OPS.nil ?_
  refine thn_n ?_
  refine WP.seq ?_
  refine WP.cut (fun e64 w65 => ∃ (x62 : Bool), (True) ∧ Bp x62 (((¬ ((chkO w l1 l2) = (chkO w l1 l2)))) ∨ (((chkO w l1 l2) = (chkO w l1 l2)) ∧ (¬ (((l2 ++ [-77])[s2.n]!) = (-77))))) ∧ List.map e64 [0, 5, 48] = [.slice s1.a s1.n s1.c, .slice a7 l1.length c8, .bool x62] ∧ Hp w Non [Res.own 3 1 (.slice a23 (s2.n + 1) c24) (s2.n + 1) (List.flatMap (fun (y : Int) => [Go.Value.int .i64 y]) (l2 ++ [-77])), Res.own 73 11 (.slice a7 (l1.length + 1) c8) (l1.length + 1) (List.flatMap GCall.cells (cl9 ++ [x12])), Res.vw F11 cl9 bs10] w65) ?_ ?_
  · refine WP.region _ rfl (by kernel_rfl) ?_
    refine OPS.batch 2 {} [] [0, 1, 5, 6, 18, 19] [.slice s1.a s1.n s1.c, .slice s2.a s2.n s2.c, .slice a7 l1.length c8, .slice a23 s2.n c24, .slice a7 l1.length c8, .slice a23 s2.n c24] .nil (by kernel_rfl) (fun b28 => ?_)
    refine OPS.cons (opStep.call (some 20) [.slice a7 l1.length c8, .slice a23 s2.n c24] (by kernel_rfl) (o_Check cl9 _ _ _ _ (by omega) (by omega) (kw_cut (E := 0) (c := 0) (SlR.own hp25.get1) hc16.1) l2 _ _ _ (by omega) (by omega) (ki_cut (SlR.own hp25.get0) hn2.symm) (vw_mem hp25.get2) (fun y hy => Nat.le_trans (vw_hvn hp25.get2 hc16 hvn y hy) (by decide))) ?_)
    rintro _ w31 ⟨rfl, hf32⟩
    refine ⟨_, rfl, ?_⟩
    rw [hc16.sm.chk (vw_bytes hp25.get2 hc16)]
    have hp33 := hp25.step hf32
    refine OPS.batch 2 {} [] [0, 1, 5, 6, 20, 21, 22] [.slice s1.a s1.n s1.c, .slice s2.a s2.n s2.c, .slice a7 l1.length c8, .slice a23 s2.n c24, .int .i64 (chkO w l1 l2), .slice s1.a s1.n s1.c, .slice s2.a s2.n s2.c] .nil (by kernel_rfl) (fun b34 => ?_)
    refine OPS.cons (opStep.call (some 23) [.slice s1.a s1.n s1.c, .slice s2.a s2.n s2.c] (by kernel_rfl) (r21_Check l1 _ _ _ _ (by omega) (by omega) (o1.rd.at hp33) l2 _ _ _ (by omega) (by omega) (o2.rd.at hp33) (fun y hy => (hv y hy).at' hp33.fr) (hr.at hv hp33.fr)) ?_)
    rintro _ w37 ⟨rfl, hf38⟩
    refine ⟨_, rfl, ?_⟩
    rw [chkO_fram hp33.fr hv]
    have hp39 := hp33.step hf38
    refine OPS.batch 2 {} [] [0, 1, 5, 6, 25] [.slice s1.a s1.n s1.c, .slice s2.a s2.n s2.c, .slice a7 l1.length c8, .slice a23 s2.n c24, .bool (decide (¬ ((chkO w l1 l2) = (chkO w l1 l2))))] .nil (by kernel_rfl) (fun b40 => ?_)
    by_cases h41 : (chkO w l1 l2) = (chkO w l1 l2)
    · refine OPS.batch 0 {} [] [0, 1, 5, 6, 25] [.slice s1.a s1.n s1.c, .slice s2.a s2.n s2.c, .slice a7 l1.length c8, .slice a23 s2.n c24, .bool (decide (¬ ((chkO w l1 l2) = (chkO w l1 l2))))] .nil (by kernel_rfl) (fun b44 => ?_)
      refine OPS.re [.slice s1.a s1.n s1.c, .slice s2.a s2.n s2.c, .slice a7 l1.length c8, .slice a23 s2.n c24, .bool false] (by rw [show (decide (¬ ((chkO w l1 l2) = (chkO w l1 l2)))) = false from Bp.dec.ff (fun k => k h41)]) ?_
      refine OPS.batch 2 {} [] [0, 1, 5, 6, 25, 26, 27] [.slice s1.a s1.n s1.c, .slice s2.a s2.n s2.c, .slice a7 l1.length c8, .slice a23 s2.n c24, .bool false, .slice a7 l1.length c8, .slice s1.a s1.n s1.c] .nil (by kernel_rfl) (fun b45 => ?_)
      refine OPS.want (by kernel_rfl) ?_
      refine OPS.cons (opStep.call (some 28) [.slice a7 l1.length c8, .slice s1.a s1.n s1.c] (by kernel_rfl) (l21_kept l1 _ _ _ _ (by omega) (by omega) (o1.rd.at hp39) cl9 bs10 x12 F11 a7 c8 hx14 (cpC_fwd (Nat.le_refl _) hc16 hp39.fr hv) (SlR.own hp39.get1) (own_cap hp39.get1) hp39.get2 (by omega) (fun y hy => (hv y hy).at' hp39.fr) hvn) ?_)
      rintro _ w48 ⟨rfl, hf49⟩
      refine ⟨_, rfl, ?_⟩
      have hp50 := hp39.step hf49
      refine OPS.batch 5 { wraps := [30] } [] [0, 1, 5, 6, 31, 32, 33] [.slice s1.a s1.n s1.c, .slice s2.a s2.n s2.c, .slice a7 l1.length c8, .slice a23 s2.n c24, .bool false, .slice a23 s2.n c24, .slice s2.a s2.n s2.c] .nil (by kernel_rfl) (fun b51 => ?_)
      refine OPS.want (by kernel_rfl) ?_
      refine OPS.cons (opStep.call (some 34) [.slice a23 s2.n c24, .slice s2.a s2.n s2.c] (by kernel_rfl) (l21_equal l2 l2 _ _ _ _ _ _ _ (by omega) (by omega) (by omega) (ki_cut (SlR.own hp50.get0) hn2.symm) (o2.rd.at hp50)) ?_)
      rintro _ w54 ⟨b57, rfl, hb58, hf55⟩
      obtain rfl : b57 = true := hb58.2 rfl
      refine ⟨_, rfl, ?_⟩
      have hp56 := hp50.step hf55
      have hy60 : ((l2 ++ [-77]))[s2.n]? = some (l2 ++ [-77])[s2.n]! := get_bang (by first | (omega) | (simp only [List.length_append, List.length_cons, List.length_nil]; omega) | (simp only [List.length_take, List.length_append, List.length_cons, List.length_nil]; omega))
      refine OPS.batch 14 { wraps := [36, 48] } [.int .i64 ((l2 ++ [-77])[s2.n]!)] [0, 5, 48] [.slice s1.a s1.n s1.c, .slice a7 l1.length c8, .bool (decide (¬ (((l2 ++ [-77])[s2.n]!) = (-77))))] (.cons (show Rng .i64 (((s2.n : Nat) : Int) + 1) from Rng.i64 (by omega)) (.cons (show (0 : Int) ≤ (((s2.n : Nat) : Int) + 1) ∧ (((s2.n : Nat) : Int) + 1) ≤ ((c24 : Nat) : Int) from ⟨by omega, by omega⟩) (.cons (show InB (((s2.n : Nat) : Int)) ((((s2.n : Nat) : Int) + 1 : Int).toNat) from ⟨by omega, by omega⟩) (.cons ((show SlR _ _ (((s2.n : Nat) : Int) + 1 : Int).toNat _ by rw [show (((s2.n : Nat) : Int) + 1 : Int).toNat = s2.n + 1 from by omega]; exact SlR.own hp56.get0).some (by omega)) (.cons (Ld.add0 (Ld.el1 (P := Try.prog) (t := 3) (show SlR _ _ (((s2.n : Nat) : Int) + 1 : Int).toNat _ by rw [show (((s2.n : Nat) : Int) + 1 : Int).toNat = s2.n + 1 from by omega]; exact SlR.own hp56.get0).rd 1 (fun _ => rfl) hy60 (o := 0) (v := .int .i64 ((l2 ++ [-77])[s2.n]!)) (by kernel_rfl))) .nil))))) (by kernel_rfl) (fun b61 => ?_)
      refine OPS.nil ?_
      refine thn_n ?_
      exact ⟨decide (¬ (((l2 ++ [-77])[s2.n]!) = (-77))), trivial, Bp.of Bp.dec (by first | (simp only [h41, iff_false, false_iff, iff_true, true_iff, Classical.not_not, and_true, true_and, and_false, false_and, or_true, true_or, or_false, false_or, not_true_eq_false, not_false_eq_true, and_self, or_self, iff_self]; done) | (simp [h41]; done) | grind | (simp_all; done)), by kernel_rfl, hp56⟩
    · refine OPS.batch 0 {} [] [0, 1, 5, 6, 25] [.slice s1.a s1.n s1.c, .slice s2.a s2.n s2.c, .slice a7 l1.length c8, .slice a23 s2.n c24, .bool (decide (¬ ((chkO w l1 l2) = (chkO w l1 l2))))] .nil (by kernel_rfl) (fun b42 => ?_)
      refine OPS.re [.slice s1.a s1.n s1.c, .slice s2.a s2.n s2.c, .slice a7 l1.length c8, .slice a23 s2.n c24, .bool true] (by rw [show (decide (¬ ((chkO w l1 l2) = (chkO w l1 l2)))) = true from Bp.dec.tt h41]) ?_
      refine OPS.batch 23 { wraps := [30, 36, 48] } [] [0, 5, 48] [.slice s1.a s1.n s1.c, .slice a7 l1.length c8, .bool true] .nil (by kernel_rfl) (fun b43 => ?_)
      refine OPS.nil ?_
      refine thn_n ?_
      exact ⟨true, trivial, Bp.of Bp.t (by first | (simp only [h41, iff_false, false_iff, iff_true, true_iff, Classical.not_not, and_true, true_and, and_false, false_and, or_true, true_or, or_false, false_or, not_true_eq_false, not_false_eq_true, and_self, or_self, iff_self]; done) | (simp [h41]; done) | grind | (simp_all; done)), by kernel_rfl, hp39⟩
  rintro e64 w65 ⟨x62, hd67, hb63, hE68, hp66⟩
  obtain ⟨b69, rfl⟩ := toMk hE68
  clear hE68
  clear hd67
  refine WP.test (p := ((¬ ((chkO w l1 l2) = (chkO w l1 l2)))) ∨ (((chkO w l1 l2) = (chkO w l1 l2)) ∧ (¬ (((l2 ++ [-77])[s2.n]!) = (-77))))) rfl hb63 (fun h70 => ?_) (fun h70 => ?_)
  · refine WP.seq ?_
    refine WP.pure {} [] [4] [.bool false] .nil (by kernel_rfl) (fun b71 => ?_)
    refine thn_n ?_
    refine WP.ret ?_
    refine thn_r ?_
    refine bodyQ.of _ rfl [.bool false] ⟨rfl, trivial⟩ ?_
    exfalso
    have e1_ := app_last (l := l2) (x := (-77 : Int)) (n := s2.n) hn2.symm
    have h_ := h70
    first | grind | omega
  · refine WP.skip ?_
    refine thn_n ?_
    refine WP.seq ?_
    refine WP.region _ rfl (by kernel_rfl) ?_
    refine OPS.batch 1 {} [] [0, 5, 50] [.slice s1.a s1.n s1.c, .slice a7 l1.length c8, .slice s1.a s1.n s1.c] .nil (by kernel_rfl) (fun b72 => ?_)
    refine OPS.cons (opStep.call (some 51) [.slice s1.a s1.n s1.c] (by kernel_rfl) (r21_ByTags l1 _ _ _ _ (by omega) (by omega) (o1.rd.at hp66) (by omega)) ?_)
    rintro _ w75 ⟨a77, c78, q79, e80, rfl, hq81, hp76⟩
    refine ⟨_, rfl, ?_⟩
    have hp82 := hp66.made hp76
    have hq81l := byS_len hq81
    refine OPS.batch 5 {} [] [0, 5, 7, 8] [.slice s1.a s1.n s1.c, .slice a7 l1.length c8, .slice a77 q79.length c78, .int .i64 e80] .nil (by kernel_rfl) (fun b83 => ?_)
    refine OPS.nil ?_
    refine thn_n ?_
    refine WP.seq ?_
    refine WP.region _ rfl (by kernel_rfl) ?_
    refine OPS.batch 1 {} [] [0, 5, 7, 8, 55] [.slice s1.a s1.n s1.c, .slice a7 l1.length c8, .slice a77 q79.length c78, .int .i64 e80, .slice a7 l1.length c8] .nil (by kernel_rfl) (fun b84 => ?_)
    refine OPS.cons (opStep.call (some 56) [.slice a7 l1.length c8] (by kernel_rfl) (o_ByTags cl9 _ _ _ _ (by omega) (by omega) (kw_cut (E := 0) (c := 0) (SlR.own hp82.get2) hc16.1) (by omega)) ?_)
    rintro _ w87 ⟨a89, c90, q91, e92, rfl, hq93, hp88⟩
    obtain ⟨rfl, rfl⟩ := byS_same hq81 (hc16.sm.byS hq93)
    refine ⟨_, rfl, ?_⟩
    have hp94 := hp82.made hp88
    refine OPS.batch 5 {} [] [0, 5, 7, 8, 9, 10] [.slice s1.a s1.n s1.c, .slice a7 l1.length c8, .slice a77 q79.length c78, .int .i64 e80, .slice a89 q79.length c90, .int .i64 e80] .nil (by kernel_rfl) (fun b95 => ?_)
    refine OPS.nil ?_
    refine thn_n ?_
    refine WP.seq ?_
    refine WP.cut (fun e131 w132 => ∃ (x129 : Bool), (True) ∧ Bp x129 (((¬ (e80 = e80))) ∨ ((e80 = e80) ∧ (¬ ((chkO w l1 q79) = (chkO w l1 q79))))) ∧ List.map e131 [0, 5, 7, 8, 9, 82] = [.slice s1.a s1.n s1.c, .slice a7 l1.length c8, .slice a77 q79.length c78, .int .i64 e80, .slice a89 q79.length c90, .bool x129] ∧ Hp w Non [Res.own 3 1 (.slice a89 q79.length c90) q79.length (List.flatMap (fun (y : Int) => [Go.Value.int .i64 y]) q79), Res.own 3 1 (.slice a77 q79.length c78) q79.length (List.flatMap (fun (y : Int) => [Go.Value.int .i64 y]) q79), Res.own 3 1 (.slice a23 (s2.n + 1) c24) (s2.n + 1) (List.flatMap (fun (y : Int) => [Go.Value.int .i64 y]) (l2 ++ [-77])), Res.own 73 11 (.slice a7 (l1.length + 1) c8) (l1.length + 1) (List.flatMap GCall.cells (cl9 ++ [x12])), Res.vw F11 cl9 bs10] w132) ?_ ?_
    · refine WP.region _ rfl (by kernel_rfl) ?_
      refine OPS.batch 4 {} [] [0, 5, 7, 8, 9, 62] [.slice s1.a s1.n s1.c, .slice a7 l1.length c8, .slice a77 q79.length c78, .int .i64 e80, .slice a89 q79.length c90, .bool (decide (¬ (e80 = e80)))] .nil (by kernel_rfl) (fun b97 => ?_)
      by_cases h98 : e80 = e80
      · refine OPS.batch 0 {} [] [0, 5, 7, 8, 9, 62] [.slice s1.a s1.n s1.c, .slice a7 l1.length c8, .slice a77 q79.length c78, .int .i64 e80, .slice a89 q79.length c90, .bool (decide (¬ (e80 = e80)))] .nil (by kernel_rfl) (fun b101 => ?_)
        refine OPS.re [.slice s1.a s1.n s1.c, .slice a7 l1.length c8, .slice a77 q79.length c78, .int .i64 e80, .slice a89 q79.length c90, .bool false] (by rw [show (decide (¬ (e80 = e80))) = false from Bp.dec.ff (fun k => k h98)]) ?_
        refine OPS.batch 2 {} [] [0, 5, 7, 8, 9, 62, 63, 64] [.slice s1.a s1.n s1.c, .slice a7 l1.length c8, .slice a77 q79.length c78, .int .i64 e80, .slice a89 q79.length c90, .bool false, .slice a89 q79.length c90, .slice a77 q79.length c78] .nil (by kernel_rfl) (fun b102 => ?_)
        refine OPS.want (by kernel_rfl) ?_
        refine OPS.cons (opStep.call (some 65) [.slice a89 q79.length c90, .slice a77 q79.length c78] (by kernel_rfl) (l21_equal q79 q79 _ _ _ _ _ _ _ rfl rfl (by omega) (SlR.own (hp94.get0)) (SlR.own (hp94.get1))) ?_)
        rintro _ w105 ⟨b108, rfl, hb109, hf106⟩
        obtain rfl : b108 = true := hb109.2 rfl
        refine ⟨_, rfl, ?_⟩
        have hp107 := hp94.step hf106
        refine OPS.batch 5 { wraps := [67] } [] [0, 5, 7, 8, 9, 68, 69, 70] [.slice s1.a s1.n s1.c, .slice a7 l1.length c8, .slice a77 q79.length c78, .int .i64 e80, .slice a89 q79.length c90, .bool false, .slice a7 l1.length c8, .slice s1.a s1.n s1.c] .nil (by kernel_rfl) (fun b110 => ?_)
        refine OPS.want (by kernel_rfl) ?_
        refine OPS.cons (opStep.call (some 71) [.slice a7 l1.length c8, .slice s1.a s1.n s1.c] (by kernel_rfl) (l21_kept l1 _ _ _ _ (by omega) (by omega) (o1.rd.at hp107) cl9 bs10 x12 F11 a7 c8 hx14 (cpC_fwd (Nat.le_refl _) hc16 hp107.fr hv) (SlR.own hp107.get3) (own_cap hp107.get3) hp107.get4 (by omega) (fun y hy => (hv y hy).at' hp107.fr) hvn) ?_)
        rintro _ w113 ⟨rfl, hf114⟩
        refine ⟨_, rfl, ?_⟩
        have hp115 := hp107.step hf114
        refine OPS.batch 5 { wraps := [73] } [] [0, 5, 7, 8, 9, 74, 75, 76] [.slice s1.a s1.n s1.c, .slice a7 l1.length c8, .slice a77 q79.length c78, .int .i64 e80, .slice a89 q79.length c90, .bool false, .slice a7 l1.length c8, .slice a89 q79.length c90] .nil (by kernel_rfl) (fun b116 => ?_)
        refine OPS.want (by kernel_rfl) ?_
        refine OPS.cons (opStep.call (some 77) [.slice a7 l1.length c8, .slice a89 q79.length c90] (by kernel_rfl) (o_Check cl9 _ _ _ _ (by omega) (by omega) (kw_cut (E := 0) (c := 0) (SlR.own hp115.get3) hc16.1) q79 _ _ _ (own_flat (sz := 1) (fun _ => rfl) (by decide) hp115.get0).symm (by omega) (SlR.own (hp115.get0)) (vw_mem hp115.get4) (fun y hy => Nat.le_trans (vw_hvn hp115.get4 hc16 hvn y hy) (by decide))) ?_)
        rintro _ w119 ⟨rfl, hf120⟩
        refine ⟨_, rfl, ?_⟩
        rw [hc16.sm.chk (vw_bytes hp115.get4 hc16)]
        have hp121 := hp115.step hf120
        refine OPS.batch 2 {} [] [0, 5, 7, 8, 9, 74, 77, 78, 79] [.slice s1.a s1.n s1.c, .slice a7 l1.length c8, .slice a77 q79.length c78, .int .i64 e80, .slice a89 q79.length c90, .bool false, .int .i64 (chkO w l1 q79), .slice s1.a s1.n s1.c, .slice a77 q79.length c78] .nil (by kernel_rfl) (fun b122 => ?_)
        refine OPS.want (by kernel_rfl) ?_
        refine OPS.cons (opStep.call (some 80) [.slice s1.a s1.n s1.c, .slice a77 q79.length c78] (by kernel_rfl) (r21_Check l1 _ _ _ _ (by omega) (by omega) (o1.rd.at hp121) q79 _ _ _ (own_flat (sz := 1) (fun _ => rfl) (by decide) hp121.get1).symm (by omega) (SlR.own (hp121.get1)) (fun y hy => (hv y hy).at' hp121.fr) (hr.at hv hp121.fr)) ?_)
        rintro _ w125 ⟨rfl, hf126⟩
        refine ⟨_, rfl, ?_⟩
        rw [chkO_fram hp121.fr hv]
        have hp127 := hp121.step hf126
        refine OPS.batch 2 { wraps := [82] } [] [0, 5, 7, 8, 9, 82] [.slice s1.a s1.n s1.c, .slice a7 l1.length c8, .slice a77 q79.length c78, .int .i64 e80, .slice a89 q79.length c90, .bool (decide (¬ ((chkO w l1 q79) = (chkO w l1 q79))))] .nil (by kernel_rfl) (fun b128 => ?_)
        refine OPS.nil ?_
        refine thn_n ?_
        exact ⟨decide (¬ ((chkO w l1 q79) = (chkO w l1 q79))), trivial, Bp.of Bp.dec (by first | (simp only [h98, iff_false, false_iff, iff_true, true_iff, Classical.not_not, and_true, true_and, and_false, false_and, or_true, true_or, or_false, false_or, not_true_eq_false, not_false_eq_true, and_self, or_self, iff_self]; done) | (simp [h98]; done) | grind | (simp_all; done)), by kernel_rfl, hp127⟩
      · refine OPS.batch 0 {} [] [0, 5, 7, 8, 9, 62] [.slice s1.a s1.n s1.c, .slice a7 l1.length c8, .slice a77 q79.length c78, .int .i64 e80, .slice a89 q79.length c90, .bool (decide (¬ (e80 = e80)))] .nil (by kernel_rfl) (fun b99 => ?_)
        refine OPS.re [.slice s1.a s1.n s1.c, .slice a7 l1.length c8, .slice a77 q79.length c78, .int .i64 e80, .slice a89 q79.length c90, .bool true] (by rw [show (decide (¬ (e80 = e80))) = true from Bp.dec.tt h98]) ?_
        refine OPS.batch 20 { wraps := [67, 73, 82] } [] [0, 5, 7, 8, 9, 82] [.slice s1.a s1.n s1.c, .slice a7 l1.length c8, .slice a77 q79.length c78, .int .i64 e80, .slice a89 q79.length c90, .bool true] .nil (by kernel_rfl) (fun b100 => ?_)
        refine OPS.nil ?_
        refine thn_n ?_
        exact ⟨true, trivial, Bp.of Bp.t (by first | (simp only [h98, iff_false, false_iff, iff_true, true_iff, Classical.not_not, and_true, true_and, and_false, false_and, or_true, true_or, or_false, false_or, not_true_eq_false, not_false_eq_true, and_self, or_self, iff_self]; done) | (simp [h98]; done) | grind | (simp_all; done)), by kernel_rfl, hp94⟩
    rintro e131 w132 ⟨x129, hd134, hb130, hE135, hp133⟩
    obtain ⟨b136, rfl⟩ := toMk hE135
    clear hE135
    clear hd134
    refine WP.test (p := ((¬ (e80 = e80))) ∨ ((e80 = e80) ∧ (¬ ((chkO w l1 q79) = (chkO w l1 q79))))) rfl hb130 (fun h137 => ?_) (fun h137 => ?_)
    · refine WP.seq ?_
      refine WP.pure {} [] [4] [.bool false] .nil (by kernel_rfl) (fun b138 => ?_)
      refine thn_n ?_
      refine WP.ret ?_
      refine thn_r ?_
      refine bodyQ.of _ rfl [.bool false] ⟨rfl, trivial⟩ ?_
      exfalso
      have e1_ := app_last (l := l2) (x := (-77 : Int)) (n := s2.n) hn2.symm
      have h_ := h137
      first | grind | omega
    · refine WP.skip ?_
      refine thn_n ?_
      refine WP.seq ?_
      refine WP.seq ?_
      refine WP.pure {} [] [0, 5, 7, 8, 9, 11] [.slice s1.a s1.n s1.c, .slice a7 l1.length c8, .slice a77 q79.length c78, .int .i64 e80, .slice a89 q79.length c90, .int .i64 0] .nil (by kernel_rfl) (fun b139 => ?_)
      refine thn_n ?_
      refine WP.block ?_
      refine WP.loop (fun mz_ e140 w141 => ∃ (k : Nat) (zs : List Int), mz_ = q79.length - k ∧ (k ≤ q79.length) ∧ List.map e140 [0, 5, 7, 8, 9, 11] = [.slice s1.a s1.n s1.c, .slice a7 l1.length c8, .slice a77 q79.length c78, .int .i64 e80, .slice a89 q79.length c90, .int .i64 (k : Int)] ∧ Hp w Non [Res.own 3 1 (.slice a89 q79.length c90) q79.length (List.flatMap (fun (y : Int) => [Go.Value.int .i64 y]) zs), Res.own 3 1 (.slice a77 q79.length c78) q79.length (List.flatMap (fun (y : Int) => [Go.Value.int .i64 y]) q79), Res.own 3 1 (.slice a23 (s2.n + 1) c24) (s2.n + 1) (List.flatMap (fun (y : Int) => [Go.Value.int .i64 y]) (l2 ++ [-77])), Res.own 73 11 (.slice a7 (l1.length + 1) c8) (l1.length + 1) (List.flatMap GCall.cells (cl9 ++ [x12])), Res.vw F11 cl9 bs10] w141) (q79.length - (0)) ⟨0, q79, rfl, (by omega), by kernel_rfl, hp133⟩ ?_
      rintro _ e140 w141 ⟨k, zs, rfl, hI143, hE144, hp142⟩
      obtain ⟨b145, rfl⟩ := toMk hE144
      clear hE144
      obtain pa := hI143
      have pz := own_flat (sz := 1) (fun _ => rfl) (by decide) hp142.get0
      refine WP.seq ?_
      refine WP.seq ?_
      refine WP.pure {} [] [0, 5, 7, 8, 9, 11, 86] [.slice s1.a s1.n s1.c, .slice a7 l1.length c8, .slice a77 q79.length c78, .int .i64 e80, .slice a89 q79.length c90, .int .i64 (k : Int), .bool (decide ((k : Int) < ((q79.length : Nat) : Int)))] .nil (by kernel_rfl) (fun b146 => ?_)
      refine thn_n ?_
      refine WP.test (p := (k : Int) < ((q79.length : Nat) : Int)) rfl Bp.dec (fun h147 => ?_) (fun h147 => ?_)
      · refine WP.skip ?_
        refine thn_n ?_
        refine WP.seq ?_
        refine WP.block ?_
        refine WP.region _ rfl (by kernel_rfl) ?_
        refine OPS.batch 3 {} [] [0, 5, 7, 8, 9, 11, 91] [.slice s1.a s1.n s1.c, .slice a7 l1.length c8, .slice a77 q79.length c78, .int .i64 e80, .slice a89 q79.length c90, .int .i64 (k : Int), .pointer (some ((adr a89).add (k * 1)))] (.cons (show InB ((k : Int)) (q79.length) from ⟨by omega, by omega⟩) (.cons ((SlR.own (hp142.get0)).some (by omega)) .nil)) (by kernel_rfl) (fun b148 => ?_)
        have := own_flat (sz := 1) (fun _ => rfl) (by decide) hp142.get0
        try simp only [List.length_set] at this
        refine OPS.cons (opStep.storeOwn0 (k * 1) hp142 rfl [.int .i64 9] (by kernel_rfl) (by simp) (show k * 1 + 1 ≤ q79.length * 1 by omega) (fun w149 hp150 => ?_))
        have hp151 := hp150
        rw [show ow (List.flatMap (fun (y : Int) => [Go.Value.int .i64 y]) zs) (k * 1) [.int .i64 9] = List.flatMap (fun (y : Int) => [Go.Value.int .i64 y]) (zs.set k 9) from ow_flat (sz := 1) (fun _ => rfl) (by first | (omega) | (simp only [List.length_set]; omega)) 9] at hp151
        refine OPS.nil ?_
        refine blk_n ?_
        refine thn_n ?_
        refine WP.pure {} [] [0, 5, 7, 8, 9, 11] [.slice s1.a s1.n s1.c, .slice a7 l1.length c8, .slice a77 q79.length c78, .int .i64 e80, .slice a89 q79.length c90, .int .i64 ((k : Int) + 1)] (.cons (show Rng .i64 ((k : Int) + 1) from Rng.i64 (by omega)) .nil) (by kernel_rfl) (fun b152 => ?_)
        refine thn_n ?_
        exact ⟨q79.length - (k + 1), (by omega), k + 1, zs.set k 9, rfl, (by omega), by kernel_rfl, hp151⟩
      · refine WP.exit ?_
        refine thn_x ?_
        refine thn_x ?_
        refine blk_hit ?_
        refine thn_n ?_
        refine WP.seq ?_
        refine WP.region _ rfl (by kernel_rfl) ?_
        refine OPS.batch 1 {} [] [0, 5, 7, 8, 9, 92] [.slice s1.a s1.n s1.c, .slice a7 l1.length c8, .slice a77 q79.length c78, .int .i64 e80, .slice a89 q79.length c90, .slice a89 q79.length c90] .nil (by kernel_rfl) (fun b153 => ?_)
        refine OPS.cons (opStep.buildSlice (E := 3) hp142 [.int .i64 9] (by kernel_rfl) (fun g156 w154 hp155 => ?_))
        refine OPS.cons (opStep.append1 [.int .i64 9] hp155 8 (by kernel_rfl) rfl rfl rfl (SlR.row (n := 1) hp155.get0 rfl).rd (List.all_eq_true.1 (by kernel_rfl)) (by decide) (by omega) (by omega) (fun a159 c160 w161 hp162 hn163 => ?_))
        rw [(show List.flatMap (fun (y : Int) => [Go.Value.int .i64 y]) zs ++ [.int .i64 9] = List.flatMap (fun (y : Int) => [Go.Value.int .i64 y]) (zs ++ [9]) from (List.flatMap_append (xs := zs) (ys := [9])).symm)] at hp162
        refine OPS.batch 1 {} [] [0, 5, 7, 8, 9, 12] [.slice s1.a s1.n s1.c, .slice a7 l1.length c8, .slice a77 q79.length c78, .int .i64 e80, .slice a89 q79.length c90, .slice a159 (q79.length + 1) c160] .nil (by kernel_rfl) (fun b164 => ?_)
        refine OPS.nil ?_
        refine thn_n ?_
        refine WP.seq ?_
        refine WP.region _ rfl (by kernel_rfl) ?_
        refine OPS.batch 1 {} [] [0, 5, 7, 8, 9, 12, 96] [.slice s1.a s1.n s1.c, .slice a7 l1.length c8, .slice a77 q79.length c78, .int .i64 e80, .slice a89 q79.length c90, .slice a159 (q79.length + 1) c160, .slice a7 l1.length c8] .nil (by kernel_rfl) (fun b165 => ?_)
        refine OPS.cons (opStep.call (some 97) [.slice a7 l1.length c8] (by kernel_rfl) (o_ByTags cl9 _ _ _ _ (by omega) (by omega) (kw_cut (E := 0) (c := 0) (SlR.own hp162.get4) hc16.1) (by omega)) ?_)
        rintro _ w168 ⟨a170, c171, q172, e173, rfl, hq174, hp169⟩
        obtain ⟨rfl, rfl⟩ := byS_same hq81 (hc16.sm.byS hq174)
        refine ⟨_, rfl, ?_⟩
        have hp175 := hp162.made hp169
        refine OPS.batch 5 {} [] [0, 5, 7, 8, 9, 10, 12, 13] [.slice s1.a s1.n s1.c, .slice a7 l1.length c8, .slice a77 q79.length c78, .int .i64 e80, .slice a89 q79.length c90, .int .i64 e80, .slice a159 (q79.length + 1) c160, .slice a170 q79.length c171] .nil (by kernel_rfl) (fun b176 => ?_)
        refine OPS.nil ?_
        refine thn_n ?_
        refine WP.cut (fun e205 w206 => ∃ (x203 : Bool), (True) ∧ Bp x203 ((e80 = e80) ∧ (((q79.length + 1 : Nat) : Int) = (((q79.length : Nat) : Int) + 1))) ∧ List.map e205 [4] = [.bool x203] ∧ Hp w Non [Res.own 3 1 (.slice a170 q79.length c171) q79.length (List.flatMap (fun (y : Int) => [Go.Value.int .i64 y]) q79), Res.row g156 [.int .i64 9] 3, Res.own 3 1 (.slice a159 (q79.length + 1) c160) (q79.length + 1) (List.flatMap (fun (y : Int) => [Go.Value.int .i64 y]) (zs ++ [9])), Res.own 3 1 (.slice a77 q79.length c78) q79.length (List.flatMap (fun (y : Int) => [Go.Value.int .i64 y]) q79), Res.own 3 1 (.slice a23 (s2.n + 1) c24) (s2.n + 1) (List.flatMap (fun (y : Int) => [Go.Value.int .i64 y]) (l2 ++ [-77])), Res.own 73 11 (.slice a7 (l1.length + 1) c8) (l1.length + 1) (List.flatMap GCall.cells (cl9 ++ [x12])), Res.vw F11 cl9 bs10] w206) ?_ ?_
        · refine WP.region _ rfl (by kernel_rfl) ?_
          refine OPS.batch 4 {} [] [0, 5, 7, 9, 12, 13, 103] [.slice s1.a s1.n s1.c, .slice a7 l1.length c8, .slice a77 q79.length c78, .slice a89 q79.length c90, .slice a159 (q79.length + 1) c160, .slice a170 q79.length c171, .bool (decide (e80 = e80))] .nil (by kernel_rfl) (fun b178 => ?_)
          by_cases h179 : e80 = e80
          · refine OPS.batch 0 {} [] [0, 5, 7, 9, 12, 13, 103] [.slice s1.a s1.n s1.c, .slice a7 l1.length c8, .slice a77 q79.length c78, .slice a89 q79.length c90, .slice a159 (q79.length + 1) c160, .slice a170 q79.length c171, .bool (decide (e80 = e80))] .nil (by kernel_rfl) (fun b180 => ?_)
            refine OPS.re [.slice s1.a s1.n s1.c, .slice a7 l1.length c8, .slice a77 q79.length c78, .slice a89 q79.length c90, .slice a159 (q79.length + 1) c160, .slice a170 q79.length c171, .bool true] (by rw [show (decide (e80 = e80)) = true from Bp.dec.tt h179]) ?_
            refine OPS.batch 2 {} [] [0, 5, 9, 12, 103, 104, 105] [.slice s1.a s1.n s1.c, .slice a7 l1.length c8, .slice a89 q79.length c90, .slice a159 (q79.length + 1) c160, .bool true, .slice a170 q79.length c171, .slice a77 q79.length c78] .nil (by kernel_rfl) (fun b181 => ?_)
            refine OPS.want (by kernel_rfl) ?_
            refine OPS.cons (opStep.call (some 106) [.slice a170 q79.length c171, .slice a77 q79.length c78] (by kernel_rfl) (l21_equal q79 q79 _ _ _ _ _ _ _ rfl rfl (by omega) (SlR.own (hp175.get0)) (SlR.own (hp175.get3))) ?_)
            rintro _ w184 ⟨b187, rfl, hb188, hf185⟩
            obtain rfl : b187 = true := hb188.2 rfl
            refine ⟨_, rfl, ?_⟩
            have hp186 := hp175.step hf185
            refine OPS.batch 10 { wraps := [107, 115] } [] [0, 5, 116] [.slice s1.a s1.n s1.c, .slice a7 l1.length c8, .bool (decide (((q79.length + 1 : Nat) : Int) = (((q79.length : Nat) : Int) + 1)))] (.cons (show Rng .i64 (((q79.length : Nat) : Int) + 1) from Rng.i64 (by omega)) .nil) (by kernel_rfl) (fun b189 => ?_)
            by_cases h190 : ((q79.length + 1 : Nat) : Int) = (((q79.length : Nat) : Int) + 1)
            · refine OPS.batch 0 {} [] [0, 5, 116] [.slice s1.a s1.n s1.c, .slice a7 l1.length c8, .bool (decide (((q79.length + 1 : Nat) : Int) = (((q79.length : Nat) : Int) + 1)))] .nil (by kernel_rfl) (fun b191 => ?_)
              refine OPS.re [.slice s1.a s1.n s1.c, .slice a7 l1.length c8, .bool true] (by rw [show (decide (((q79.length + 1 : Nat) : Int) = (((q79.length : Nat) : Int) + 1))) = true from Bp.dec.tt h190]) ?_
              refine OPS.batch 2 {} [] [116, 117, 118] [.bool true, .slice a7 l1.length c8, .slice s1.a s1.n s1.c] .nil (by kernel_rfl) (fun b192 => ?_)
              refine OPS.want (by kernel_rfl) ?_
              refine OPS.cons (opStep.call (some 119) [.slice a7 l1.length c8, .slice s1.a s1.n s1.c] (by kernel_rfl) (l21_kept l1 _ _ _ _ (by omega) (by omega) (o1.rd.at hp186) cl9 bs10 x12 F11 a7 c8 hx14 (cpC_fwd (Nat.le_refl _) hc16 hp186.fr hv) (SlR.own hp186.get5) (own_cap hp186.get5) hp186.get6 (by omega) (fun y hy => (hv y hy).at' hp186.fr) hvn) ?_)
              rintro _ w195 ⟨rfl, hf196⟩
              refine ⟨_, rfl, ?_⟩
              have hp197 := hp186.step hf196
              refine OPS.batch 2 { wraps := [120] } [] [4] [.bool true] .nil (by kernel_rfl) (fun b198 => ?_)
              refine OPS.nil ?_
              refine thn_n ?_
              exact ⟨true, trivial, Bp.of Bp.t (by first | (simp only [h179, h190, iff_false, false_iff, iff_true, true_iff, Classical.not_not, and_true, true_and, and_false, false_and, or_true, true_or, or_false, false_or, not_true_eq_false, not_false_eq_true, and_self, or_self, iff_self]; done) | (simp [h179, h190]; done) | grind | (simp_all; done)), by kernel_rfl, hp197⟩
            · refine OPS.batch 0 {} [] [0, 5, 116] [.slice s1.a s1.n s1.c, .slice a7 l1.length c8, .bool (decide (((q79.length + 1 : Nat) : Int) = (((q79.length : Nat) : Int) + 1)))] .nil (by kernel_rfl) (fun b199 => ?_)
              refine OPS.re [.slice s1.a s1.n s1.c, .slice a7 l1.length c8, .bool false] (by rw [show (decide (((q79.length + 1 : Nat) : Int) = (((q79.length : Nat) : Int) + 1))) = false from Bp.dec.ff h190]) ?_
              refine OPS.batch 5 { wraps := [120] } [] [4] [.bool false] .nil (by kernel_rfl) (fun b200 => ?_)
              refine OPS.nil ?_
              refine thn_n ?_
              exact ⟨false, trivial, Bp.of Bp.f (by first | (simp only [h179, h190, iff_false, false_iff, iff_true, true_iff, Classical.not_not, and_true, true_and, and_false, false_and, or_true, true_or, or_false, false_or, not_true_eq_false, not_false_eq_true, and_self, or_self, iff_self]; done) | (simp [h179, h190]; done) | grind | (simp_all; done)), by kernel_rfl, hp186⟩
          · refine OPS.batch 0 {} [] [0, 5, 7, 9, 12, 13, 103] [.slice s1.a s1.n s1.c, .slice a7 l1.length c8, .slice a77 q79.length c78, .slice a89 q79.length c90, .slice a159 (q79.length + 1) c160, .slice a170 q79.length c171, .bool (decide (e80 = e80))] .nil (by kernel_rfl) (fun b201 => ?_)
            refine OPS.re [.slice s1.a s1.n s1.c, .slice a7 l1.length c8, .slice a77 q79.length c78, .slice a89 q79.length c90, .slice a159 (q79.length + 1) c160, .slice a170 q79.length c171, .bool false] (by rw [show (decide (e80 = e80)) = false from Bp.dec.ff h179]) ?_
            refine OPS.batch 18 { wraps := [107, 115, 120] } [] [4] [.bool false] .nil (by kernel_rfl) (fun b202 => ?_)
            refine OPS.nil ?_
            refine thn_n ?_
            exact ⟨false, trivial, Bp.of Bp.f (by first | (simp only [h179, iff_false, false_iff, iff_true, true_iff, Classical.not_not, and_true, true_and, and_false, false_and, or_true, true_or, or_false, false_or, not_true_eq_false, not_false_eq_true, and_self, or_self, iff_self]; done) | (simp [h179]; done) | grind | (simp_all; done)), by kernel_rfl, hp175⟩
        rintro e205 w206 ⟨x203, hd208, hb204, hE209, hp207⟩
        obtain ⟨b210, rfl⟩ := toMk hE209
        clear hE209
        clear hd208
        refine WP.ret ?_
        refine bodyQ.of _ rfl [.bool x203] ⟨rfl, trivial⟩ ?_
        exact ⟨congrArg (fun b => Ending.returned (.bool b)) (Bp.tt hb204 (by first | grind | omega | simp)), hp207.fr⟩

end Go.Proofs.Ytdahgdkadfdkeaa.K
