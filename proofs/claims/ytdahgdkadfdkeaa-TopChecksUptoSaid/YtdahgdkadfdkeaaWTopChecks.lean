/- The walks of WTopChecks: what each function computes. -/
import Derived.Test.YtdahgdkadfdkeaaProg
import Derived.Test.YtdahgdkadfdkeaaCoreO
import Derived.Test.YtdahgdkadfdkeaaOrdY
namespace Go.Proofs.Ytdahgdkadfdkeaa.K
open Go Go.Proofs Go.RowKit
set_option linter.unusedVariables false
set_option linter.unusedSimpArgs false
set_option maxRecDepth 20000
set_option maxHeartbeats 4000000

theorem TopChecks {okp : GCall → Prop} {oki : Int → Prop} (BN BI : Nat) (hBN : BN ≤ 1048576) (hBI : BI ≤ 1048576) (w : World) (s1 s2 : SlH) (l1 : List GCall) (l2 : List Int) (o1 : SlD w (α := GCall) GCall.cells okp BN s1 l1) (o2 : SlD w (fun (y : Int) => [Go.Value.int .i64 y]) oki BI s2 l2) (hv : ∀ x ∈ l1, VB w x.Value) (hvn2 : ∀ x ∈ l1, x.Value.n ≤ 140737488351232) :
    Calls Try.prog 8 #[.slice s1.a s1.n s1.c, .slice s2.a s2.n s2.c] w (fun x w' => x = .returned (.bool true) ∧ Fram Non w w') := by
  have hvn : ∀ x ∈ l1, x.Value.n ≤ 8796093022207000 := fun x hx => Nat.le_trans (hvn2 x hx) (by decide)
  have hn1 := o1.len
  have hc1_ := o1.cap
  have hd1 := o1.bnd
  have hn2 := o2.len
  have hc2_ := o2.cap
  have hd2 := o2.bnd
  refine calls_of Try.func8 rfl 221 rfl (by simp) ?_
  have hp0 := Hp.init w
  have he0 : List.map (env0 [.slice s1.a s1.n s1.c, .slice s2.a s2.n s2.c]) [0, 1] = [.slice s1.a s1.n s1.c, .slice s2.a s2.n s2.c] := by kernel_rfl
  obtain ⟨b0, he0⟩ := toMk he0
  rw [he0]
  clear he0
  refine WP.seq ?_
  refine WP.pure {} [] [0, 1] [.slice s1.a s1.n s1.c, .slice s2.a s2.n s2.c] .nil (by kernel_rfl) (fun b1 => ?_)
  refine thn_n ?_
  refine WP.seq ?_
  refine WP.region _ rfl (by kernel_rfl) ?_
  refine OPS.cons (opStep.buildSlice (E := 5) hp0 [.int .u8 1] (by kernel_rfl) (fun g4 w2 hp3 => ?_))
  refine OPS.batch 2 {} [] [0, 1, 18] [.slice s1.a s1.n s1.c, .slice s2.a s2.n s2.c, .agg #[.int .i64 0, .int .i64 0, .bool true, .string ByteArray.empty, .slice (some ⟨g4, 0, none⟩) 1 1, .int .i64 0, .int .i64 0, .int .i64 1, .bool false, .int .i64 1, .int .i64 1]] .nil (by kernel_rfl) (fun b5 => ?_)
  refine OPS.cons (opStep.buildSlice (E := 5) hp3 [.int .u8 1] (by kernel_rfl) (fun g8 w6 hp7 => ?_))
  refine OPS.batch 2 {} [] [0, 1, 18, 21] [.slice s1.a s1.n s1.c, .slice s2.a s2.n s2.c, .agg #[.int .i64 0, .int .i64 0, .bool true, .string ByteArray.empty, .slice (some ⟨g4, 0, none⟩) 1 1, .int .i64 0, .int .i64 0, .int .i64 1, .bool false, .int .i64 1, .int .i64 1], .agg #[.int .i64 0, .int .i64 0, .bool false, .string ByteArray.empty, .slice (some ⟨g8, 0, none⟩) 1 1, .int .i64 0, .int .i64 2, .int .i64 3, .bool false, .int .i64 1, .int .i64 1]] .nil (by kernel_rfl) (fun b9 => ?_)
  refine OPS.cons (opStep.buildSlice (E := 73) hp7 [.int .i64 0, .int .i64 0, .bool true, .string ByteArray.empty, .slice (some ⟨g4, 0, none⟩) 1 1, .int .i64 0, .int .i64 0, .int .i64 1, .bool false, .int .i64 1, .int .i64 1, .int .i64 0, .int .i64 0, .bool false, .string ByteArray.empty, .slice (some ⟨g8, 0, none⟩) 1 1, .int .i64 0, .int .i64 2, .int .i64 3, .bool false, .int .i64 1, .int .i64 1] (by kernel_rfl) (fun g12 w10 hp11 => ?_))
  refine OPS.batch 1 {} [] [0, 1, 5] [.slice s1.a s1.n s1.c, .slice s2.a s2.n s2.c, .slice (some ⟨g12, 0, none⟩) 2 2] .nil (by kernel_rfl) (fun b13 => ?_)
  refine OPS.nil ?_
  refine thn_n ?_
  refine WP.seq ?_
  refine WP.seq ?_
  refine WP.region _ rfl (by kernel_rfl) ?_
  refine OPS.batch 1 {} [] [0, 1, 5, 23] [.slice s1.a s1.n s1.c, .slice s2.a s2.n s2.c, .slice (some ⟨g12, 0, none⟩) 2 2, .slice (some ⟨g12, 0, none⟩) 2 2] .nil (by kernel_rfl) (fun b14 => ?_)
  refine OPS.cons (opStep.buildSlice (E := 3) hp11 [.int .i64 0, .int .i64 1] (by kernel_rfl) (fun g17 w15 hp16 => ?_))
  refine OPS.cons (opStep.call (some 25) [.slice (some ⟨g12, 0, none⟩) 2 2, .slice (some ⟨g17, 0, none⟩) 2 2] (by kernel_rfl) (o_Check (onW ⟨some ⟨g4, 0, none⟩, 1, 1⟩ ⟨some ⟨g8, 0, none⟩, 1, 1⟩) _ _ _ _ rfl (by show 2 ≤ 8796093022207; decide) (SlR.row (n := 2) hp16.get1 rfl) [0, 1] _ _ _ rfl (by decide) (show SlR w15 (some ⟨g17, 0, none⟩) 2 (List.flatMap (fun y => [.int .i64 y]) [0, 1]) from SlR.row hp16.get0 rfl) (onW_all (onW_vb (c := 1) hp16.get3).1 (onW_vb (c := 1) hp16.get2).1) (onW_n rfl rfl)) ?_)
  rintro _ w20 ⟨rfl, hf21⟩
  refine ⟨_, rfl, ?_⟩
  rw [onW_01 ((onW_vb (c := 1) hp16.get2).2.trans (onW_vb (c := 1) hp16.get3).2.symm)]
  have hp22 := hp16.step hf21
  refine OPS.batch 3 {} [] [0, 1, 27, 28] [.slice s1.a s1.n s1.c, .slice s2.a s2.n s2.c, .bool false, .slice (some ⟨g12, 0, none⟩) 2 2] .nil (by kernel_rfl) (fun b23 => ?_)
  refine OPS.want (by kernel_rfl) ?_
  refine OPS.cons (opStep.buildSlice (E := 3) hp22 [.int .i64 1, .int .i64 0] (by kernel_rfl) (fun g26 w24 hp25 => ?_))
  refine OPS.want (by kernel_rfl) ?_
  refine OPS.cons (opStep.call (some 30) [.slice (some ⟨g12, 0, none⟩) 2 2, .slice (some ⟨g26, 0, none⟩) 2 2] (by kernel_rfl) (o_Check (onW ⟨some ⟨g4, 0, none⟩, 1, 1⟩ ⟨some ⟨g8, 0, none⟩, 1, 1⟩) _ _ _ _ rfl (by show 2 ≤ 8796093022207; decide) (SlR.row (n := 2) hp25.get2 rfl) [1, 0] _ _ _ rfl (by decide) (show SlR w24 (some ⟨g26, 0, none⟩) 2 (List.flatMap (fun y => [.int .i64 y]) [1, 0]) from SlR.row hp25.get0 rfl) (onW_all (onW_vb (c := 1) hp25.get4).1 (onW_vb (c := 1) hp25.get3).1) (onW_n rfl rfl)) ?_)
  rintro _ w29 ⟨rfl, hf30⟩
  refine ⟨_, rfl, ?_⟩
  rw [onW_10]
  have hp31 := hp25.step hf30
  refine OPS.batch 2 { wraps := [32] } [] [0, 1, 32] [.slice s1.a s1.n s1.c, .slice s2.a s2.n s2.c, .bool false] .nil (by kernel_rfl) (fun b32 => ?_)
  refine OPS.nil ?_
  refine thn_n ?_
  refine WP.condF rfl ?_
  refine WP.skip ?_
  refine thn_n ?_
  refine WP.seq ?_
  refine WP.region _ rfl (by kernel_rfl) ?_
  refine OPS.batch 1 {} [] [0, 1, 33] [.slice s1.a s1.n s1.c, .slice s2.a s2.n s2.c, .slice s1.a s1.n s1.c] .nil (by kernel_rfl) (fun b33 => ?_)
  refine OPS.cons (opStep.call (some 34) [.slice s1.a s1.n s1.c] (by kernel_rfl) (t_copies l1 _ _ _ _ (by omega) (by omega) (o1.rd.at hp31) (by omega) (fun y hy => (hv y hy).at' hp31.fr) hvn2) ?_)
  rintro _ w36 ⟨a38, n39, c40, cl41, bs42, F43, rfl, hc44, hp37⟩
  refine ⟨_, rfl, ?_⟩
  have hc46 := cpC_base (w0 := w) (Nat.le_refl _) hc44 hp31.fr hv
  have hp45 := hp31.madeQ hp37
  simp only [List.cons_append, List.nil_append] at hp45
  have hc46l := own_flat (sz := 11) (fun _ => rfl) (by decide) hp45.get0
  have hc46m := hc46.1
  refine OPS.batch 1 {} [] [0, 1, 34, 35] [.slice s1.a s1.n s1.c, .slice s2.a s2.n s2.c, .slice a38 n39 c40, .slice s2.a s2.n s2.c] .nil (by kernel_rfl) (fun b47 => ?_)
  have hp51 := (show Hp w Non [Res.own 3 1 (.slice none 0 0) 0 (List.flatMap (fun (y : Int) => [Go.Value.int .i64 y]) ([] : List Int)), Res.own 73 11 (.slice a38 n39 c40) n39 (List.flatMap GCall.cells cl41), Res.vc F43 cl41 bs42, Res.row g26 [.int .i64 1, .int .i64 0] 3, Res.row g17 [.int .i64 0, .int .i64 1] 3, Res.row g12 [.int .i64 0, .int .i64 0, .bool true, .string ByteArray.empty, .slice (some ⟨g4, 0, none⟩) 1 1, .int .i64 0, .int .i64 0, .int .i64 1, .bool false, .int .i64 1, .int .i64 1, .int .i64 0, .int .i64 0, .bool false, .string ByteArray.empty, .slice (some ⟨g8, 0, none⟩) 1 1, .int .i64 0, .int .i64 2, .int .i64 3, .bool false, .int .i64 1, .int .i64 1] 73, Res.row g8 [.int .u8 1] 5, Res.row g4 [.int .u8 1] 5] w36 from hp45.nilOwn 3 1)
  refine OPS.cons (opStep.appendS (A := []) hp51 8 (by kernel_rfl) rfl rfl (o2.rd.at hp51) (flat_n (fun _ => rfl) (by first | rfl | omega)) (one_flat (fun _ => rfl)) (by decide) (by omega) (by omega) (fun a52 c53 w54 hp55 => ?_))
  rw [show List.flatMap (fun (y : Int) => [Go.Value.int .i64 y]) ([] : List Int) ++ List.flatMap (fun (y : Int) => [Go.Value.int .i64 y]) l2 = List.flatMap (fun (y : Int) => [Go.Value.int .i64 y]) (l2) from rfl] at hp55
  simp only [List.cons_append, List.nil_append] at hp55
  refine OPS.cons (opStep.call (some 37) [.slice a38 n39 c40, .slice a52 (0 + s2.n) c53] (by kernel_rfl) (o_Check cl41 _ _ _ _ (by omega) (by omega) (SlR.own (hp55.get1)) l2 _ _ _ (own_flat (sz := 1) (fun _ => rfl) (by decide) hp55.get0).symm (by omega) (SlR.own (hp55.get0)) (vc_mem hp55.get2) (vc_hvn hp55.get2 hc46 hvn)) ?_)
  rintro _ w58 ⟨rfl, hf59⟩
  refine ⟨_, rfl, ?_⟩
  rw [hc46.sm.chk (vc_bytes hp55.get2 hc46)]
  have hp60 := hp55.step hf59
  refine OPS.batch 1 {} [] [0, 1, 6] [.slice s1.a s1.n s1.c, .slice s2.a s2.n s2.c, .int .i64 (chkO w l1 l2)] .nil (by kernel_rfl) (fun b61 => ?_)
  refine OPS.nil ?_
  refine thn_n ?_
  refine WP.seq ?_
  refine WP.region _ rfl (by kernel_rfl) ?_
  refine OPS.batch 1 {} [] [0, 1, 6, 39] [.slice s1.a s1.n s1.c, .slice s2.a s2.n s2.c, .int .i64 (chkO w l1 l2), .slice s1.a s1.n s1.c] .nil (by kernel_rfl) (fun b62 => ?_)
  refine OPS.cons (opStep.call (some 40) [.slice s1.a s1.n s1.c] (by kernel_rfl) (t_copies l1 _ _ _ _ (by omega) (by omega) (o1.rd.at hp60) (by omega) (fun y hy => (hv y hy).at' hp60.fr) hvn2) ?_)
  rintro _ w65 ⟨a67, n68, c69, cl70, bs71, F72, rfl, hc73, hp66⟩
  refine ⟨_, rfl, ?_⟩
  have hc75 := cpC_base (w0 := w) (Nat.le_refl _) hc73 hp60.fr hv
  have hp74 := hp60.madeQ hp66
  simp only [List.cons_append, List.nil_append] at hp74
  have hc75l := own_flat (sz := 11) (fun _ => rfl) (by decide) hp74.get0
  have hc75m := hc75.1
  refine OPS.cons (opStep.call (some 41) [.slice a67 n68 c69] (by kernel_rfl) (o_ByTags cl70 _ _ _ _ (by omega) (by omega) (SlR.own (hp74.get0)) (by omega)) ?_)
  rintro _ w78 ⟨a80, c81, q82, e83, rfl, hq84, hp79⟩
  have hb86 := hc75.sm.byQ (byR_byQ hq84)
  refine ⟨_, rfl, ?_⟩
  have hp85 := hp74.made hp79
  have hb86m := own_maxW hp85.get0
  refine OPS.batch 5 {} [] [0, 1, 6, 7, 8] [.slice s1.a s1.n s1.c, .slice s2.a s2.n s2.c, .int .i64 (chkO w l1 l2), .slice a80 q82.length c81, .int .i64 e83] .nil (by kernel_rfl) (fun b87 => ?_)
  refine OPS.nil ?_
  refine thn_n ?_
  refine WP.seq ?_
  refine WP.seq ?_
  refine WP.region _ rfl (by kernel_rfl) ?_
  refine OPS.batch 1 {} [] [0, 1, 6, 7, 8, 44] [.slice s1.a s1.n s1.c, .slice s2.a s2.n s2.c, .int .i64 (chkO w l1 l2), .slice a80 q82.length c81, .int .i64 e83, .slice s1.a s1.n s1.c] .nil (by kernel_rfl) (fun b88 => ?_)
  refine OPS.cons (opStep.call (some 45) [.slice s1.a s1.n s1.c] (by kernel_rfl) (t_fit l1 _ _ _ _ (by omega) (by omega) (o1.rd.at hp85)) ?_)
  rintro _ w91 ⟨b94, rfl, hb95, hf92⟩
  refine ⟨_, rfl, ?_⟩
  have hp93 := hp85.step hf92
  refine OPS.batch 1 {} [] [0, 1, 6, 7, 8, 46] [.slice s1.a s1.n s1.c, .slice s2.a s2.n s2.c, .int .i64 (chkO w l1 l2), .slice a80 q82.length c81, .int .i64 e83, .bool (!b94)] .nil (by kernel_rfl) (fun b96 => ?_)
  refine OPS.nil ?_
  refine thn_n ?_
  refine WP.test (p := ¬ (fitP l1)) rfl (Bp.not hb95) (fun h97 => ?_) (fun h97 => ?_)
  · refine WP.cut (fun e112 w113 => ∃ (x110 : Bool), (True) ∧ Bp x110 (((chkO w l1 l2) = 1) ∧ (e83 = 1) ∧ (((q82.length : Nat) : Int) = 0)) ∧ List.map e112 [4] = [.bool x110] ∧ Hp w Non [Res.own 3 1 (.slice a80 q82.length c81) q82.length (List.flatMap (fun (y : Int) => [Go.Value.int .i64 y]) q82), Res.own 73 11 (.slice a67 n68 c69) n68 (List.flatMap GCall.cells cl70), Res.vc F72 cl70 bs71, Res.own 3 1 (.slice a52 (0 + s2.n) c53) (0 + s2.n) (List.flatMap (fun (y : Int) => [Go.Value.int .i64 y]) l2), Res.own 73 11 (.slice a38 n39 c40) n39 (List.flatMap GCall.cells cl41), Res.vc F43 cl41 bs42, Res.row g26 [.int .i64 1, .int .i64 0] 3, Res.row g17 [.int .i64 0, .int .i64 1] 3, Res.row g12 [.int .i64 0, .int .i64 0, .bool true, .string ByteArray.empty, .slice (some ⟨g4, 0, none⟩) 1 1, .int .i64 0, .int .i64 0, .int .i64 1, .bool false, .int .i64 1, .int .i64 1, .int .i64 0, .int .i64 0, .bool false, .string ByteArray.empty, .slice (some ⟨g8, 0, none⟩) 1 1, .int .i64 0, .int .i64 2, .int .i64 3, .bool false, .int .i64 1, .int .i64 1] 73, Res.row g8 [.int .u8 1] 5, Res.row g4 [.int .u8 1] 5] w113) ?_ ?_
    · refine WP.region _ rfl (by kernel_rfl) ?_
      refine OPS.batch 3 {} [] [7, 8, 49] [.slice a80 q82.length c81, .int .i64 e83, .bool (decide ((chkO w l1 l2) = 1))] .nil (by kernel_rfl) (fun b99 => ?_)
      by_cases h100 : (chkO w l1 l2) = 1
      · refine OPS.batch 0 {} [] [7, 8, 49] [.slice a80 q82.length c81, .int .i64 e83, .bool (decide ((chkO w l1 l2) = 1))] .nil (by kernel_rfl) (fun b101 => ?_)
        refine OPS.re [.slice a80 q82.length c81, .int .i64 e83, .bool true] (by rw [show (decide ((chkO w l1 l2) = 1)) = true from Bp.dec.tt h100]) ?_
        refine OPS.batch 4 { wraps := [52] } [] [7, 53] [.slice a80 q82.length c81, .bool (decide (e83 = 1))] .nil (by kernel_rfl) (fun b102 => ?_)
        by_cases h103 : e83 = 1
        · refine OPS.batch 0 {} [] [7, 53] [.slice a80 q82.length c81, .bool (decide (e83 = 1))] .nil (by kernel_rfl) (fun b104 => ?_)
          refine OPS.re [.slice a80 q82.length c81, .bool true] (by rw [show (decide (e83 = 1)) = true from Bp.dec.tt h103]) ?_
          refine OPS.batch 5 { wraps := [57] } [] [4] [.bool (decide (((q82.length : Nat) : Int) = 0))] .nil (by kernel_rfl) (fun b105 => ?_)
          refine OPS.nil ?_
          refine thn_n ?_
          exact ⟨decide (((q82.length : Nat) : Int) = 0), trivial, Bp.of Bp.dec (by first | (simp only [h100, h103, iff_false, false_iff, iff_true, true_iff, Classical.not_not, and_true, true_and, and_false, false_and, or_true, true_or, or_false, false_or, not_true_eq_false, not_false_eq_true, and_self, or_self, iff_self]; done) | (simp [h100, h103]; done) | grind | (simp_all; done)), by kernel_rfl, hp93⟩
        · refine OPS.batch 0 {} [] [7, 53] [.slice a80 q82.length c81, .bool (decide (e83 = 1))] .nil (by kernel_rfl) (fun b106 => ?_)
          refine OPS.re [.slice a80 q82.length c81, .bool false] (by rw [show (decide (e83 = 1)) = false from Bp.dec.ff h103]) ?_
          refine OPS.batch 5 { wraps := [57] } [] [4] [.bool false] .nil (by kernel_rfl) (fun b107 => ?_)
          refine OPS.nil ?_
          refine thn_n ?_
          exact ⟨false, trivial, Bp.of Bp.f (by first | (simp only [h100, h103, iff_false, false_iff, iff_true, true_iff, Classical.not_not, and_true, true_and, and_false, false_and, or_true, true_or, or_false, false_or, not_true_eq_false, not_false_eq_true, and_self, or_self, iff_self]; done) | (simp [h100, h103]; done) | grind | (simp_all; done)), by kernel_rfl, hp93⟩
      · refine OPS.batch 0 {} [] [7, 8, 49] [.slice a80 q82.length c81, .int .i64 e83, .bool (decide ((chkO w l1 l2) = 1))] .nil (by kernel_rfl) (fun b108 => ?_)
        refine OPS.re [.slice a80 q82.length c81, .int .i64 e83, .bool false] (by rw [show (decide ((chkO w l1 l2) = 1)) = false from Bp.dec.ff h100]) ?_
        refine OPS.batch 9 { wraps := [52, 57] } [] [4] [.bool false] .nil (by kernel_rfl) (fun b109 => ?_)
        refine OPS.nil ?_
        refine thn_n ?_
        exact ⟨false, trivial, Bp.of Bp.f (by first | (simp only [h100, iff_false, false_iff, iff_true, true_iff, Classical.not_not, and_true, true_and, and_false, false_and, or_true, true_or, or_false, false_or, not_true_eq_false, not_false_eq_true, and_self, or_self, iff_self]; done) | (simp [h100]; done) | grind | (simp_all; done)), by kernel_rfl, hp93⟩
    rintro e112 w113 ⟨x110, hd115, hb111, hE116, hp114⟩
    obtain ⟨b117, rfl⟩ := toMk hE116
    clear hE116
    clear hd115
    refine WP.ret ?_
    refine thn_r ?_
    refine bodyQ.of _ rfl [.bool x110] ⟨rfl, trivial⟩ ?_
    exact ⟨congrArg (fun b => Ending.returned (.bool b)) (Bp.tt hb111 (by have h1_ := byQ_no hb86 h97; have h2_ := chkO_1 (w := w) (o := l2) h97; first | grind | omega)), hp114.fr⟩
  · replace h97 := Classical.not_not.1 h97
    refine WP.skip ?_
    refine thn_n ?_
    refine WP.seq ?_
    refine WP.cut (fun e140 w141 => ∃ (x138 : Bool), (True) ∧ Bp x138 (((¬ ((((chkO w l1 l2) = 0) ↔ (chkO w l1 l2 = 0))))) ∨ ((((chkO w l1 l2) = 0) ↔ (chkO w l1 l2 = 0)) ∧ (¬ ((chkO w l1 l2) = 0)) ∧ (¬ ((chkO w l1 l2) = 81)))) ∧ List.map e140 [0, 7, 8, 71] = [.slice s1.a s1.n s1.c, .slice a80 q82.length c81, .int .i64 e83, .bool x138] ∧ Hp w Non [Res.own 3 1 (.slice a80 q82.length c81) q82.length (List.flatMap (fun (y : Int) => [Go.Value.int .i64 y]) q82), Res.own 73 11 (.slice a67 n68 c69) n68 (List.flatMap GCall.cells cl70), Res.vc F72 cl70 bs71, Res.own 3 1 (.slice a52 (0 + s2.n) c53) (0 + s2.n) (List.flatMap (fun (y : Int) => [Go.Value.int .i64 y]) l2), Res.own 73 11 (.slice a38 n39 c40) n39 (List.flatMap GCall.cells cl41), Res.vc F43 cl41 bs42, Res.row g26 [.int .i64 1, .int .i64 0] 3, Res.row g17 [.int .i64 0, .int .i64 1] 3, Res.row g12 [.int .i64 0, .int .i64 0, .bool true, .string ByteArray.empty, .slice (some ⟨g4, 0, none⟩) 1 1, .int .i64 0, .int .i64 0, .int .i64 1, .bool false, .int .i64 1, .int .i64 1, .int .i64 0, .int .i64 0, .bool false, .string ByteArray.empty, .slice (some ⟨g8, 0, none⟩) 1 1, .int .i64 0, .int .i64 2, .int .i64 3, .bool false, .int .i64 1, .int .i64 1] 73, Res.row g8 [.int .u8 1] 5, Res.row g4 [.int .u8 1] 5] w141) ?_ ?_
    · refine WP.region _ rfl (by kernel_rfl) ?_
      refine OPS.batch 4 {} [] [0, 6, 7, 8, 59, 60, 61] [.slice s1.a s1.n s1.c, .int .i64 (chkO w l1 l2), .slice a80 q82.length c81, .int .i64 e83, .bool (decide ((chkO w l1 l2) = 0)), .slice s1.a s1.n s1.c, .slice s2.a s2.n s2.c] .nil (by kernel_rfl) (fun b119 => ?_)
      refine OPS.cons (opStep.call (some 62) [.slice s1.a s1.n s1.c, .slice s2.a s2.n s2.c] (by kernel_rfl) (t_expl2 l1 _ _ _ _ (by omega) (by omega) (o1.rd.at hp93) l2 _ _ _ (by omega) (by omega) (o2.rd.at hp93) w hp93.fr hv hvn h97) ?_)
      rintro _ w122 ⟨b125, rfl, hb126, hf123⟩
      refine ⟨_, rfl, ?_⟩
      have hp124 := hp93.step hf123
      refine OPS.batch 2 {} [] [0, 6, 7, 8, 64] [.slice s1.a s1.n s1.c, .int .i64 (chkO w l1 l2), .slice a80 q82.length c81, .int .i64 e83, .bool (!((decide ((chkO w l1 l2) = 0)) == b125))] .nil (by kernel_rfl) (fun b127 => ?_)
      by_cases h128 : (((chkO w l1 l2) = 0) ↔ (chkO w l1 l2 = 0))
      · refine OPS.batch 0 {} [] [0, 6, 7, 8, 64] [.slice s1.a s1.n s1.c, .int .i64 (chkO w l1 l2), .slice a80 q82.length c81, .int .i64 e83, .bool (!((decide ((chkO w l1 l2) = 0)) == b125))] .nil (by kernel_rfl) (fun b131 => ?_)
        refine OPS.re [.slice s1.a s1.n s1.c, .int .i64 (chkO w l1 l2), .slice a80 q82.length c81, .int .i64 e83, .bool false] (by rw [show (!((decide ((chkO w l1 l2) = 0)) == b125)) = false from (Bp.not (Bp.beq Bp.dec hb126)).ff (fun k => k h128)]) ?_
        refine OPS.batch 3 {} [] [0, 6, 7, 8, 64, 67] [.slice s1.a s1.n s1.c, .int .i64 (chkO w l1 l2), .slice a80 q82.length c81, .int .i64 e83, .bool false, .bool (decide (¬ ((chkO w l1 l2) = 0)))] .nil (by kernel_rfl) (fun b132 => ?_)
        by_cases h133 : (chkO w l1 l2) = 0
        · refine OPS.batch 0 {} [] [0, 6, 7, 8, 64, 67] [.slice s1.a s1.n s1.c, .int .i64 (chkO w l1 l2), .slice a80 q82.length c81, .int .i64 e83, .bool false, .bool (decide (¬ ((chkO w l1 l2) = 0)))] .nil (by kernel_rfl) (fun b136 => ?_)
          refine OPS.re [.slice s1.a s1.n s1.c, .int .i64 (chkO w l1 l2), .slice a80 q82.length c81, .int .i64 e83, .bool false, .bool false] (by rw [show (decide (¬ ((chkO w l1 l2) = 0))) = false from Bp.dec.ff (fun k => k h133)]) ?_
          refine OPS.batch 4 { wraps := [70, 71] } [] [0, 7, 8, 71] [.slice s1.a s1.n s1.c, .slice a80 q82.length c81, .int .i64 e83, .bool false] .nil (by kernel_rfl) (fun b137 => ?_)
          refine OPS.nil ?_
          refine thn_n ?_
          exact ⟨false, trivial, Bp.of Bp.f (by first | (simp only [h128, h133, iff_false, false_iff, iff_true, true_iff, Classical.not_not, and_true, true_and, and_false, false_and, or_true, true_or, or_false, false_or, not_true_eq_false, not_false_eq_true, and_self, or_self, iff_self]; done) | (simp [h128, h133]; done) | grind | (simp_all; done)), by kernel_rfl, hp124⟩
        · refine OPS.batch 0 {} [] [0, 6, 7, 8, 64, 67] [.slice s1.a s1.n s1.c, .int .i64 (chkO w l1 l2), .slice a80 q82.length c81, .int .i64 e83, .bool false, .bool (decide (¬ ((chkO w l1 l2) = 0)))] .nil (by kernel_rfl) (fun b134 => ?_)
          refine OPS.re [.slice s1.a s1.n s1.c, .int .i64 (chkO w l1 l2), .slice a80 q82.length c81, .int .i64 e83, .bool false, .bool true] (by rw [show (decide (¬ ((chkO w l1 l2) = 0))) = true from Bp.dec.tt h133]) ?_
          refine OPS.batch 4 { wraps := [70, 71] } [] [0, 7, 8, 71] [.slice s1.a s1.n s1.c, .slice a80 q82.length c81, .int .i64 e83, .bool (decide (¬ ((chkO w l1 l2) = 81)))] .nil (by kernel_rfl) (fun b135 => ?_)
          refine OPS.nil ?_
          refine thn_n ?_
          exact ⟨decide (¬ ((chkO w l1 l2) = 81)), trivial, Bp.of Bp.dec (by first | (simp only [h128, h133, iff_false, false_iff, iff_true, true_iff, Classical.not_not, and_true, true_and, and_false, false_and, or_true, true_or, or_false, false_or, not_true_eq_false, not_false_eq_true, and_self, or_self, iff_self]; done) | (simp [h128, h133]; done) | grind | (simp_all; done)), by kernel_rfl, hp124⟩
      · refine OPS.batch 0 {} [] [0, 6, 7, 8, 64] [.slice s1.a s1.n s1.c, .int .i64 (chkO w l1 l2), .slice a80 q82.length c81, .int .i64 e83, .bool (!((decide ((chkO w l1 l2) = 0)) == b125))] .nil (by kernel_rfl) (fun b129 => ?_)
        refine OPS.re [.slice s1.a s1.n s1.c, .int .i64 (chkO w l1 l2), .slice a80 q82.length c81, .int .i64 e83, .bool true] (by rw [show (!((decide ((chkO w l1 l2) = 0)) == b125)) = true from (Bp.not (Bp.beq Bp.dec hb126)).tt h128]) ?_
        refine OPS.batch 7 { wraps := [71] } [] [0, 7, 8, 71] [.slice s1.a s1.n s1.c, .slice a80 q82.length c81, .int .i64 e83, .bool true] .nil (by kernel_rfl) (fun b130 => ?_)
        refine OPS.nil ?_
        refine thn_n ?_
        exact ⟨true, trivial, Bp.of Bp.t (by first | (simp only [h128, iff_false, false_iff, iff_true, true_iff, Classical.not_not, and_true, true_and, and_false, false_and, or_true, true_or, or_false, false_or, not_true_eq_false, not_false_eq_true, and_self, or_self, iff_self]; done) | (simp [h128]; done) | grind | (simp_all; done)), by kernel_rfl, hp124⟩
    rintro e140 w141 ⟨x138, hd143, hb139, hE144, hp142⟩
    obtain ⟨b145, rfl⟩ := toMk hE144
    clear hE144
    clear hd143
    refine WP.test (p := ((¬ ((((chkO w l1 l2) = 0) ↔ (chkO w l1 l2 = 0))))) ∨ ((((chkO w l1 l2) = 0) ↔ (chkO w l1 l2 = 0)) ∧ (¬ ((chkO w l1 l2) = 0)) ∧ (¬ ((chkO w l1 l2) = 81)))) rfl hb139 (fun h146 => ?_) (fun h146 => ?_)
    · refine WP.seq ?_
      refine WP.pure {} [] [4] [.bool false] .nil (by kernel_rfl) (fun b147 => ?_)
      refine thn_n ?_
      refine WP.ret ?_
      refine thn_r ?_
      refine bodyQ.of _ rfl [.bool false] ⟨rfl, trivial⟩ ?_
      exfalso
      have hf_ := h97
      have ha_ := chk_any (w := w) (o := l2) hf_
      have h_ := h146
      grind
    · refine WP.skip ?_
      refine thn_n ?_
      refine WP.seq ?_
      refine WP.seq ?_
      refine WP.pure {} [] [0, 7, 8, 73] [.slice s1.a s1.n s1.c, .slice a80 q82.length c81, .int .i64 e83, .bool (decide (¬ (e83 = 0)))] .nil (by kernel_rfl) (fun b148 => ?_)
      refine thn_n ?_
      refine WP.test (p := ¬ (e83 = 0)) rfl Bp.dec (fun h149 => ?_) (fun h149 => ?_)
      · refine WP.cut (fun e159 w160 => ∃ (x157 : Bool), (True) ∧ Bp x157 ((e83 = 81) ∧ (((q82.length : Nat) : Int) = 0)) ∧ List.map e159 [4] = [.bool x157] ∧ Hp w Non [Res.own 3 1 (.slice a80 q82.length c81) q82.length (List.flatMap (fun (y : Int) => [Go.Value.int .i64 y]) q82), Res.own 73 11 (.slice a67 n68 c69) n68 (List.flatMap GCall.cells cl70), Res.vc F72 cl70 bs71, Res.own 3 1 (.slice a52 (0 + s2.n) c53) (0 + s2.n) (List.flatMap (fun (y : Int) => [Go.Value.int .i64 y]) l2), Res.own 73 11 (.slice a38 n39 c40) n39 (List.flatMap GCall.cells cl41), Res.vc F43 cl41 bs42, Res.row g26 [.int .i64 1, .int .i64 0] 3, Res.row g17 [.int .i64 0, .int .i64 1] 3, Res.row g12 [.int .i64 0, .int .i64 0, .bool true, .string ByteArray.empty, .slice (some ⟨g4, 0, none⟩) 1 1, .int .i64 0, .int .i64 0, .int .i64 1, .bool false, .int .i64 1, .int .i64 1, .int .i64 0, .int .i64 0, .bool false, .string ByteArray.empty, .slice (some ⟨g8, 0, none⟩) 1 1, .int .i64 0, .int .i64 2, .int .i64 3, .bool false, .int .i64 1, .int .i64 1] 73, Res.row g8 [.int .u8 1] 5, Res.row g4 [.int .u8 1] 5] w160) ?_ ?_
        · refine WP.region _ rfl (by kernel_rfl) ?_
          refine OPS.batch 3 {} [] [7, 76] [.slice a80 q82.length c81, .bool (decide (e83 = 81))] .nil (by kernel_rfl) (fun b151 => ?_)
          by_cases h152 : e83 = 81
          · refine OPS.batch 0 {} [] [7, 76] [.slice a80 q82.length c81, .bool (decide (e83 = 81))] .nil (by kernel_rfl) (fun b153 => ?_)
            refine OPS.re [.slice a80 q82.length c81, .bool true] (by rw [show (decide (e83 = 81)) = true from Bp.dec.tt h152]) ?_
            refine OPS.batch 5 { wraps := [80] } [] [4] [.bool (decide (((q82.length : Nat) : Int) = 0))] .nil (by kernel_rfl) (fun b154 => ?_)
            refine OPS.nil ?_
            refine thn_n ?_
            exact ⟨decide (((q82.length : Nat) : Int) = 0), trivial, Bp.of Bp.dec (by first | (simp only [h152, iff_false, false_iff, iff_true, true_iff, Classical.not_not, and_true, true_and, and_false, false_and, or_true, true_or, or_false, false_or, not_true_eq_false, not_false_eq_true, and_self, or_self, iff_self]; done) | (simp [h152]; done) | grind | (simp_all; done)), by kernel_rfl, hp142⟩
          · refine OPS.batch 0 {} [] [7, 76] [.slice a80 q82.length c81, .bool (decide (e83 = 81))] .nil (by kernel_rfl) (fun b155 => ?_)
            refine OPS.re [.slice a80 q82.length c81, .bool false] (by rw [show (decide (e83 = 81)) = false from Bp.dec.ff h152]) ?_
            refine OPS.batch 5 { wraps := [80] } [] [4] [.bool false] .nil (by kernel_rfl) (fun b156 => ?_)
            refine OPS.nil ?_
            refine thn_n ?_
            exact ⟨false, trivial, Bp.of Bp.f (by first | (simp only [h152, iff_false, false_iff, iff_true, true_iff, Classical.not_not, and_true, true_and, and_false, false_and, or_true, true_or, or_false, false_or, not_true_eq_false, not_false_eq_true, and_self, or_self, iff_self]; done) | (simp [h152]; done) | grind | (simp_all; done)), by kernel_rfl, hp142⟩
        rintro e159 w160 ⟨x157, hd162, hb158, hE163, hp161⟩
        obtain ⟨b164, rfl⟩ := toMk hE163
        clear hE163
        clear hd162
        refine WP.ret ?_
        refine thn_r ?_
        refine bodyQ.of _ rfl [.bool x157] ⟨rfl, trivial⟩ ?_
        exact ⟨congrArg (fun b => Ending.returned (.bool b)) (Bp.tt hb158 (by have h1_ := byQ_81 hb86 h97 h149; first | grind | omega)), hp161.fr⟩
      · replace h149 := Classical.not_not.1 h149
        refine WP.skip ?_
        refine thn_n ?_
        refine WP.seq ?_
        refine WP.region _ rfl (by kernel_rfl) ?_
        refine OPS.batch 2 {} [] [0, 7, 82] [.slice s1.a s1.n s1.c, .slice a80 q82.length c81, .int .i64 ((s1.n : Nat) : Int)] .nil (by kernel_rfl) (fun b165 => ?_)
        refine OPS.cons (opStep.makeSlice (f := (fun y => [.bool y])) (E := 4) (sz := 1) (bytes := 1) (n := s1.n) false hp142 (by kernel_rfl) (by decide) (by kernel_rfl) (by omega) (by unfold maxLen; omega) (fun g168 w166 hp167 => ?_))
        refine OPS.batch 1 {} [] [0, 7, 9] [.slice s1.a s1.n s1.c, .slice a80 q82.length c81, .slice (some ⟨g168, 0, none⟩) s1.n s1.n] .nil (by kernel_rfl) (fun b169 => ?_)
        refine OPS.nil ?_
        refine thn_n ?_
        refine WP.seq ?_
        refine WP.pure {} [] [0, 7, 9, 10] [.slice s1.a s1.n s1.c, .slice a80 q82.length c81, .slice (some ⟨g168, 0, none⟩) s1.n s1.n, .int .i64 (-1)] .nil (by kernel_rfl) (fun b170 => ?_)
        refine thn_n ?_
        refine WP.seq ?_
        refine WP.seq ?_
        refine WP.pure {} [] [0, 9, 10, 84, 85, 86] [.slice s1.a s1.n s1.c, .slice (some ⟨g168, 0, none⟩) s1.n s1.n, .int .i64 (-1), .slice a80 q82.length c81, .int .i64 ((q82.length : Nat) : Int), .int .i64 0] .nil (by kernel_rfl) (fun b171 => ?_)
        refine thn_n ?_
        refine WP.block ?_
        have he0_ : e83 = 0 := by first | exact h149 | exact Classical.not_not.1 h149
        obtain ⟨h3_, h4_⟩ := byQ_0 hb86 h97 he0_
        refine WP.loop (fun mz_ e172 w173 => ∃ (k : Nat) (sl : List Bool) (la : Int), mz_ = q82.length - k ∧ (k ≤ q82.length ∧ seenS l1 q82 k sl ∧ la = lastF l1 q82 k) ∧ List.map e172 [0, 9, 10, 84, 85, 86] = [.slice s1.a s1.n s1.c, .slice (some ⟨g168, 0, none⟩) s1.n s1.n, .int .i64 la, .slice a80 q82.length c81, .int .i64 ((q82.length : Nat) : Int), .int .i64 (k : Int)] ∧ Hp w Non [Res.own 4 1 (.slice (some ⟨g168, 0, none⟩) s1.n s1.n) s1.n (List.flatMap (fun y => [.bool y]) sl), Res.own 3 1 (.slice a80 q82.length c81) q82.length (List.flatMap (fun (y : Int) => [Go.Value.int .i64 y]) q82), Res.own 73 11 (.slice a67 n68 c69) n68 (List.flatMap GCall.cells cl70), Res.vc F72 cl70 bs71, Res.own 3 1 (.slice a52 (0 + s2.n) c53) (0 + s2.n) (List.flatMap (fun (y : Int) => [Go.Value.int .i64 y]) l2), Res.own 73 11 (.slice a38 n39 c40) n39 (List.flatMap GCall.cells cl41), Res.vc F43 cl41 bs42, Res.row g26 [.int .i64 1, .int .i64 0] 3, Res.row g17 [.int .i64 0, .int .i64 1] 3, Res.row g12 [.int .i64 0, .int .i64 0, .bool true, .string ByteArray.empty, .slice (some ⟨g4, 0, none⟩) 1 1, .int .i64 0, .int .i64 0, .int .i64 1, .bool false, .int .i64 1, .int .i64 1, .int .i64 0, .int .i64 0, .bool false, .string ByteArray.empty, .slice (some ⟨g8, 0, none⟩) 1 1, .int .i64 0, .int .i64 2, .int .i64 3, .bool false, .int .i64 1, .int .i64 1] 73, Res.row g8 [.int .u8 1] 5, Res.row g4 [.int .u8 1] 5] w173) (q82.length - (0)) ⟨0, List.replicate s1.n false, (-1), rfl, ⟨by omega, seenS_start s1.n hn1, rfl⟩, by kernel_rfl, hp167⟩ ?_
        rintro _ e172 w173 ⟨k, sl, la, rfl, hI175, hE176, hp174⟩
        obtain ⟨b177, rfl⟩ := toMk hE176
        clear hE176
        obtain ⟨pa, pb, pc⟩ := hI175
        have pl := pb.1
        have plm := plc_last h3_ pa
        rw [← pc] at plm
        have pat := fun hk => plc_at pb hk h3_ pc
        refine WP.seq ?_
        refine WP.pure {} [] [0, 9, 10, 84, 85, 86, 87] [.slice s1.a s1.n s1.c, .slice (some ⟨g168, 0, none⟩) s1.n s1.n, .int .i64 la, .slice a80 q82.length c81, .int .i64 ((q82.length : Nat) : Int), .int .i64 (k : Int), .bool (decide ((k : Int) < ((q82.length : Nat) : Int)))] .nil (by kernel_rfl) (fun b178 => ?_)
        refine thn_n ?_
        refine WP.seq ?_
        refine WP.test (p := (k : Int) < ((q82.length : Nat) : Int)) rfl Bp.dec (fun h179 => ?_) (fun h179 => ?_)
        · refine WP.skip ?_
          refine thn_n ?_
          refine WP.seq ?_
          refine WP.block ?_
          refine WP.seq ?_
          have := own_flat (sz := 1) (fun _ => rfl) (by decide) hp174.get1
          have hy181 : (q82)[k]? = some q82[k]! := get_bang (by first | (omega) | (simp only [List.length_append, List.length_cons, List.length_nil]; omega) | (simp only [List.length_take, List.length_append, List.length_cons, List.length_nil]; omega))
          refine WP.pure {} [.int .i64 (q82[k]!)] [0, 9, 10, 12, 84, 85, 86] [.slice s1.a s1.n s1.c, .slice (some ⟨g168, 0, none⟩) s1.n s1.n, .int .i64 la, .int .i64 (q82[k]!), .slice a80 q82.length c81, .int .i64 ((q82.length : Nat) : Int), .int .i64 (k : Int)] (.cons (show InB ((k : Int)) (q82.length) from ⟨by omega, by omega⟩) (.cons ((SlR.own (hp174.get1)).some (by omega)) (.cons (Ld.add0 (Ld.el1 (P := Try.prog) (t := 3) (SlR.own (hp174.get1)).rd 1 (fun _ => rfl) hy181 (o := 0) (v := .int .i64 (q82[k]!)) (by kernel_rfl))) .nil))) (by kernel_rfl) (fun b182 => ?_)
          refine thn_n ?_
          refine WP.seq ?_
          refine WP.cut (fun e212 w213 => ∃ (x210 : Bool), (True) ∧ Bp x210 ((((q82[k]!) < 0)) ∨ ((¬ ((q82[k]!) < 0)) ∧ (((s1.n : Nat) : Int) ≤ (q82[k]!))) ∨ ((¬ ((q82[k]!) < 0)) ∧ (¬ (((s1.n : Nat) : Int) ≤ (q82[k]!))) ∧ ((sl[(q82[k]! : Int).toNat]!) = true)) ∨ ((¬ ((q82[k]!) < 0)) ∧ (¬ (((s1.n : Nat) : Int) ≤ (q82[k]!))) ∧ (¬ ((sl[(q82[k]! : Int).toNat]!) = true)) ∧ ((partI (l1[(q82[k]! : Int).toNat]!)) = 0))) ∧ List.map e212 [0, 9, 10, 12, 84, 85, 86, 111] = [.slice s1.a s1.n s1.c, .slice (some ⟨g168, 0, none⟩) s1.n s1.n, .int .i64 la, .int .i64 (q82[k]!), .slice a80 q82.length c81, .int .i64 ((q82.length : Nat) : Int), .int .i64 (k : Int), .bool x210] ∧ Hp w Non [Res.own 4 1 (.slice (some ⟨g168, 0, none⟩) s1.n s1.n) s1.n (List.flatMap (fun y => [.bool y]) sl), Res.own 3 1 (.slice a80 q82.length c81) q82.length (List.flatMap (fun (y : Int) => [Go.Value.int .i64 y]) q82), Res.own 73 11 (.slice a67 n68 c69) n68 (List.flatMap GCall.cells cl70), Res.vc F72 cl70 bs71, Res.own 3 1 (.slice a52 (0 + s2.n) c53) (0 + s2.n) (List.flatMap (fun (y : Int) => [Go.Value.int .i64 y]) l2), Res.own 73 11 (.slice a38 n39 c40) n39 (List.flatMap GCall.cells cl41), Res.vc F43 cl41 bs42, Res.row g26 [.int .i64 1, .int .i64 0] 3, Res.row g17 [.int .i64 0, .int .i64 1] 3, Res.row g12 [.int .i64 0, .int .i64 0, .bool true, .string ByteArray.empty, .slice (some ⟨g4, 0, none⟩) 1 1, .int .i64 0, .int .i64 0, .int .i64 1, .bool false, .int .i64 1, .int .i64 1, .int .i64 0, .int .i64 0, .bool false, .string ByteArray.empty, .slice (some ⟨g8, 0, none⟩) 1 1, .int .i64 0, .int .i64 2, .int .i64 3, .bool false, .int .i64 1, .int .i64 1] 73, Res.row g8 [.int .u8 1] 5, Res.row g4 [.int .u8 1] 5] w213) ?_ ?_
          · refine WP.region _ rfl (by kernel_rfl) ?_
            refine OPS.batch 3 {} [] [0, 9, 10, 12, 84, 85, 86, 92] [.slice s1.a s1.n s1.c, .slice (some ⟨g168, 0, none⟩) s1.n s1.n, .int .i64 la, .int .i64 (q82[k]!), .slice a80 q82.length c81, .int .i64 ((q82.length : Nat) : Int), .int .i64 (k : Int), .bool (decide ((q82[k]!) < 0))] .nil (by kernel_rfl) (fun b184 => ?_)
            by_cases h185 : (q82[k]!) < 0
            · refine OPS.batch 0 {} [] [0, 9, 10, 12, 84, 85, 86, 92] [.slice s1.a s1.n s1.c, .slice (some ⟨g168, 0, none⟩) s1.n s1.n, .int .i64 la, .int .i64 (q82[k]!), .slice a80 q82.length c81, .int .i64 ((q82.length : Nat) : Int), .int .i64 (k : Int), .bool (decide ((q82[k]!) < 0))] .nil (by kernel_rfl) (fun b186 => ?_)
              refine OPS.re [.slice s1.a s1.n s1.c, .slice (some ⟨g168, 0, none⟩) s1.n s1.n, .int .i64 la, .int .i64 (q82[k]!), .slice a80 q82.length c81, .int .i64 ((q82.length : Nat) : Int), .int .i64 (k : Int), .bool true] (by rw [show (decide ((q82[k]!) < 0)) = true from Bp.dec.tt h185]) ?_
              refine OPS.batch 19 { wraps := [97, 103, 111] } [] [0, 9, 10, 12, 84, 85, 86, 111] [.slice s1.a s1.n s1.c, .slice (some ⟨g168, 0, none⟩) s1.n s1.n, .int .i64 la, .int .i64 (q82[k]!), .slice a80 q82.length c81, .int .i64 ((q82.length : Nat) : Int), .int .i64 (k : Int), .bool true] .nil (by kernel_rfl) (fun b187 => ?_)
              refine OPS.nil ?_
              refine thn_n ?_
              exact ⟨true, trivial, Bp.of Bp.t (by first | (simp only [h185, iff_false, false_iff, iff_true, true_iff, Classical.not_not, and_true, true_and, and_false, false_and, or_true, true_or, or_false, false_or, not_true_eq_false, not_false_eq_true, and_self, or_self, iff_self]; done) | (simp [h185]; done) | grind | (simp_all; done)), by kernel_rfl, hp174⟩
            · refine OPS.batch 0 {} [] [0, 9, 10, 12, 84, 85, 86, 92] [.slice s1.a s1.n s1.c, .slice (some ⟨g168, 0, none⟩) s1.n s1.n, .int .i64 la, .int .i64 (q82[k]!), .slice a80 q82.length c81, .int .i64 ((q82.length : Nat) : Int), .int .i64 (k : Int), .bool (decide ((q82[k]!) < 0))] .nil (by kernel_rfl) (fun b188 => ?_)
              refine OPS.re [.slice s1.a s1.n s1.c, .slice (some ⟨g168, 0, none⟩) s1.n s1.n, .int .i64 la, .int .i64 (q82[k]!), .slice a80 q82.length c81, .int .i64 ((q82.length : Nat) : Int), .int .i64 (k : Int), .bool false] (by rw [show (decide ((q82[k]!) < 0)) = false from Bp.dec.ff h185]) ?_
              refine OPS.batch 6 { wraps := [97] } [] [0, 9, 10, 12, 84, 85, 86, 98] [.slice s1.a s1.n s1.c, .slice (some ⟨g168, 0, none⟩) s1.n s1.n, .int .i64 la, .int .i64 (q82[k]!), .slice a80 q82.length c81, .int .i64 ((q82.length : Nat) : Int), .int .i64 (k : Int), .bool (decide (((s1.n : Nat) : Int) ≤ (q82[k]!)))] .nil (by kernel_rfl) (fun b189 => ?_)
              by_cases h190 : ((s1.n : Nat) : Int) ≤ (q82[k]!)
              · refine OPS.batch 0 {} [] [0, 9, 10, 12, 84, 85, 86, 98] [.slice s1.a s1.n s1.c, .slice (some ⟨g168, 0, none⟩) s1.n s1.n, .int .i64 la, .int .i64 (q82[k]!), .slice a80 q82.length c81, .int .i64 ((q82.length : Nat) : Int), .int .i64 (k : Int), .bool (decide (((s1.n : Nat) : Int) ≤ (q82[k]!)))] .nil (by kernel_rfl) (fun b191 => ?_)
                refine OPS.re [.slice s1.a s1.n s1.c, .slice (some ⟨g168, 0, none⟩) s1.n s1.n, .int .i64 la, .int .i64 (q82[k]!), .slice a80 q82.length c81, .int .i64 ((q82.length : Nat) : Int), .int .i64 (k : Int), .bool true] (by rw [show (decide (((s1.n : Nat) : Int) ≤ (q82[k]!))) = true from Bp.dec.tt h190]) ?_
                refine OPS.batch 13 { wraps := [103, 111] } [] [0, 9, 10, 12, 84, 85, 86, 111] [.slice s1.a s1.n s1.c, .slice (some ⟨g168, 0, none⟩) s1.n s1.n, .int .i64 la, .int .i64 (q82[k]!), .slice a80 q82.length c81, .int .i64 ((q82.length : Nat) : Int), .int .i64 (k : Int), .bool true] .nil (by kernel_rfl) (fun b192 => ?_)
                refine OPS.nil ?_
                refine thn_n ?_
                exact ⟨true, trivial, Bp.of Bp.t (by first | (simp only [h185, h190, iff_false, false_iff, iff_true, true_iff, Classical.not_not, and_true, true_and, and_false, false_and, or_true, true_or, or_false, false_or, not_true_eq_false, not_false_eq_true, and_self, or_self, iff_self]; done) | (simp [h185, h190]; done) | grind | (simp_all; done)), by kernel_rfl, hp174⟩
              · refine OPS.batch 0 {} [] [0, 9, 10, 12, 84, 85, 86, 98] [.slice s1.a s1.n s1.c, .slice (some ⟨g168, 0, none⟩) s1.n s1.n, .int .i64 la, .int .i64 (q82[k]!), .slice a80 q82.length c81, .int .i64 ((q82.length : Nat) : Int), .int .i64 (k : Int), .bool (decide (((s1.n : Nat) : Int) ≤ (q82[k]!)))] .nil (by kernel_rfl) (fun b193 => ?_)
                refine OPS.re [.slice s1.a s1.n s1.c, .slice (some ⟨g168, 0, none⟩) s1.n s1.n, .int .i64 la, .int .i64 (q82[k]!), .slice a80 q82.length c81, .int .i64 ((q82.length : Nat) : Int), .int .i64 (k : Int), .bool false] (by rw [show (decide (((s1.n : Nat) : Int) ≤ (q82[k]!))) = false from Bp.dec.ff h190]) ?_
                have := own_flat (sz := 1) (fun _ => rfl) (by decide) hp174.get0
                have hy195 : (sl)[(q82[k]! : Int).toNat]? = some sl[(q82[k]! : Int).toNat]! := get_bang (by first | (omega) | (simp only [List.length_append, List.length_cons, List.length_nil]; omega) | (simp only [List.length_take, List.length_append, List.length_cons, List.length_nil]; omega))
                refine OPS.batch 6 { wraps := [103] } [.bool (sl[(q82[k]! : Int).toNat]!)] [0, 9, 10, 12, 84, 85, 86, 104] [.slice s1.a s1.n s1.c, .slice (some ⟨g168, 0, none⟩) s1.n s1.n, .int .i64 la, .int .i64 (q82[k]!), .slice a80 q82.length c81, .int .i64 ((q82.length : Nat) : Int), .int .i64 (k : Int), .bool (sl[(q82[k]! : Int).toNat]!)] (.cons (show InB (q82[k]!) (s1.n) from ⟨by omega, by omega⟩) (.cons ((SlR.own (hp174.get0)).some (by omega)) (.cons (Ld.add0 (Ld.el1 (P := Try.prog) (t := 4) (SlR.own (hp174.get0)).rd 1 (fun _ => rfl) hy195 (o := 0) (v := .bool (sl[(q82[k]! : Int).toNat]!)) (by kernel_rfl))) .nil))) (by kernel_rfl) (fun b196 => ?_)
                by_cases h197 : (sl[(q82[k]! : Int).toNat]!) = true
                · refine OPS.batch 0 {} [] [0, 9, 10, 12, 84, 85, 86, 104] [.slice s1.a s1.n s1.c, .slice (some ⟨g168, 0, none⟩) s1.n s1.n, .int .i64 la, .int .i64 (q82[k]!), .slice a80 q82.length c81, .int .i64 ((q82.length : Nat) : Int), .int .i64 (k : Int), .bool (sl[(q82[k]! : Int).toNat]!)] .nil (by kernel_rfl) (fun b198 => ?_)
                  refine OPS.re [.slice s1.a s1.n s1.c, .slice (some ⟨g168, 0, none⟩) s1.n s1.n, .int .i64 la, .int .i64 (q82[k]!), .slice a80 q82.length c81, .int .i64 ((q82.length : Nat) : Int), .int .i64 (k : Int), .bool true] (by rw [show (sl[(q82[k]! : Int).toNat]!) = true from Bp.var.tt h197]) ?_
                  refine OPS.batch 7 { wraps := [111] } [] [0, 9, 10, 12, 84, 85, 86, 111] [.slice s1.a s1.n s1.c, .slice (some ⟨g168, 0, none⟩) s1.n s1.n, .int .i64 la, .int .i64 (q82[k]!), .slice a80 q82.length c81, .int .i64 ((q82.length : Nat) : Int), .int .i64 (k : Int), .bool true] .nil (by kernel_rfl) (fun b199 => ?_)
                  refine OPS.nil ?_
                  refine thn_n ?_
                  exact ⟨true, trivial, Bp.of Bp.t (by first | (simp only [h185, h190, h197, iff_false, false_iff, iff_true, true_iff, Classical.not_not, and_true, true_and, and_false, false_and, or_true, true_or, or_false, false_or, not_true_eq_false, not_false_eq_true, and_self, or_self, iff_self]; done) | (simp [h185, h190, h197]; done) | grind | (simp_all; done)), by kernel_rfl, hp174⟩
                · refine OPS.batch 0 {} [] [0, 9, 10, 12, 84, 85, 86, 104] [.slice s1.a s1.n s1.c, .slice (some ⟨g168, 0, none⟩) s1.n s1.n, .int .i64 la, .int .i64 (q82[k]!), .slice a80 q82.length c81, .int .i64 ((q82.length : Nat) : Int), .int .i64 (k : Int), .bool (sl[(q82[k]! : Int).toNat]!)] .nil (by kernel_rfl) (fun b200 => ?_)
                  refine OPS.re [.slice s1.a s1.n s1.c, .slice (some ⟨g168, 0, none⟩) s1.n s1.n, .int .i64 la, .int .i64 (q82[k]!), .slice a80 q82.length c81, .int .i64 ((q82.length : Nat) : Int), .int .i64 (k : Int), .bool false] (by rw [show (sl[(q82[k]! : Int).toNat]!) = false from Bp.var.ff h197]) ?_
                  have hy202 : (l1)[(q82[k]! : Int).toNat]? = some l1[(q82[k]! : Int).toNat]! := get_bang (by first | (omega) | (simp only [List.length_append, List.length_cons, List.length_nil]; omega) | (simp only [List.length_take, List.length_append, List.length_cons, List.length_nil]; omega))
                  refine OPS.batch 4 {} [GCall.val (l1[(q82[k]! : Int).toNat]!)] [0, 9, 10, 12, 84, 85, 86, 104, 108] [.slice s1.a s1.n s1.c, .slice (some ⟨g168, 0, none⟩) s1.n s1.n, .int .i64 la, .int .i64 (q82[k]!), .slice a80 q82.length c81, .int .i64 ((q82.length : Nat) : Int), .int .i64 (k : Int), .bool false, GCall.val (l1[(q82[k]! : Int).toNat]!)] (.cons (show InB (q82[k]!) (s1.n) from ⟨by omega, by omega⟩) (.cons ((o1.rd.at hp174).some (by omega)) (.cons (Ld.add0 (Ld.elN (P := Try.prog) (t := 73) (o1.rd.at hp174).rd 11 (fun _ => rfl) hy202 (o := 0) (cs := [.int .i64 (l1[(q82[k]! : Int).toNat]!.Client), .int .i64 (l1[(q82[k]! : Int).toNat]!.Op), .bool (l1[(q82[k]! : Int).toNat]!.Put), .string (l1[(q82[k]! : Int).toNat]!.Key), .slice (l1[(q82[k]! : Int).toNat]!.Value.a) (l1[(q82[k]! : Int).toNat]!.Value.n) (l1[(q82[k]! : Int).toNat]!.Value.c), .int .i64 (l1[(q82[k]! : Int).toNat]!.Status), .int .i64 (l1[(q82[k]! : Int).toNat]!.From), .int .i64 (l1[(q82[k]! : Int).toNat]!.To), .bool (l1[(q82[k]! : Int).toNat]!.Open), .int .i64 (l1[(q82[k]! : Int).toNat]!.Tag.Count), .int .i64 (l1[(q82[k]! : Int).toNat]!.Tag.Client)]) (by kernel_rfl))) .nil))) (by kernel_rfl) (fun b203 => ?_)
                  refine OPS.want (by kernel_rfl) ?_
                  refine OPS.cons (opStep.call (some 109) [GCall.val (l1[(q82[k]! : Int).toNat]!)] (by kernel_rfl) (t_part (l1[(q82[k]! : Int).toNat]!) _) ?_)
                  rintro _ w206 ⟨rfl, hf207⟩
                  refine ⟨_, rfl, ?_⟩
                  have hp208 := hp174.step hf207
                  refine OPS.batch 2 { wraps := [111] } [] [0, 9, 10, 12, 84, 85, 86, 111] [.slice s1.a s1.n s1.c, .slice (some ⟨g168, 0, none⟩) s1.n s1.n, .int .i64 la, .int .i64 (q82[k]!), .slice a80 q82.length c81, .int .i64 ((q82.length : Nat) : Int), .int .i64 (k : Int), .bool (decide ((partI (l1[(q82[k]! : Int).toNat]!)) = 0))] .nil (by kernel_rfl) (fun b209 => ?_)
                  refine OPS.nil ?_
                  refine thn_n ?_
                  exact ⟨decide ((partI (l1[(q82[k]! : Int).toNat]!)) = 0), trivial, Bp.of Bp.dec (by first | (simp only [h185, h190, h197, iff_false, false_iff, iff_true, true_iff, Classical.not_not, and_true, true_and, and_false, false_and, or_true, true_or, or_false, false_or, not_true_eq_false, not_false_eq_true, and_self, or_self, iff_self]; done) | (simp [h185, h190, h197]; done) | grind | (simp_all; done)), by kernel_rfl, hp208⟩
          rintro e212 w213 ⟨x210, hd215, hb211, hE216, hp214⟩
          obtain ⟨b217, rfl⟩ := toMk hE216
          clear hE216
          clear hd215
          refine WP.test (p := (((q82[k]!) < 0)) ∨ ((¬ ((q82[k]!) < 0)) ∧ (((s1.n : Nat) : Int) ≤ (q82[k]!))) ∨ ((¬ ((q82[k]!) < 0)) ∧ (¬ (((s1.n : Nat) : Int) ≤ (q82[k]!))) ∧ ((sl[(q82[k]! : Int).toNat]!) = true)) ∨ ((¬ ((q82[k]!) < 0)) ∧ (¬ (((s1.n : Nat) : Int) ≤ (q82[k]!))) ∧ (¬ ((sl[(q82[k]! : Int).toNat]!) = true)) ∧ ((partI (l1[(q82[k]! : Int).toNat]!)) = 0))) rfl hb211 (fun h218 => ?_) (fun h218 => ?_)
          · refine WP.seq ?_
            refine WP.pure {} [] [4] [.bool false] .nil (by kernel_rfl) (fun b219 => ?_)
            refine thn_n ?_
            refine WP.ret ?_
            refine thn_r ?_
            refine blk_r ?_
            refine thn_r ?_
            refine thn_r ?_
            refine blk_r ?_
            refine thn_r ?_
            refine bodyQ.of _ rfl [.bool false] ⟨rfl, trivial⟩ ?_
            exfalso
            obtain ⟨a1_, a2_, a3_, a4_, a5_, a6_, a7_⟩ := pat (by omega)
            first | grind | omega
          · refine WP.skip ?_
            refine thn_n ?_
            refine WP.seq ?_
            refine WP.region _ rfl (by kernel_rfl) ?_
            refine OPS.batch 3 {} [] [0, 9, 10, 12, 84, 85, 86, 114] [.slice s1.a s1.n s1.c, .slice (some ⟨g168, 0, none⟩) s1.n s1.n, .int .i64 la, .int .i64 (q82[k]!), .slice a80 q82.length c81, .int .i64 ((q82.length : Nat) : Int), .int .i64 (k : Int), .pointer (some ((adr (some ⟨g168, 0, none⟩)).add ((q82[k]! : Int).toNat * 1)))] (.cons (show InB (q82[k]!) (s1.n) from ⟨by omega, by omega⟩) (.cons ((SlR.own (hp214.get0)).some (by omega)) .nil)) (by kernel_rfl) (fun b220 => ?_)
            have := own_flat (sz := 1) (fun _ => rfl) (by decide) hp214.get0
            try simp only [List.length_set] at this
            refine OPS.cons (opStep.storeOwn0 ((q82[k]! : Int).toNat * 1) hp214 rfl [.bool true] (by kernel_rfl) (by simp) (show (q82[k]! : Int).toNat * 1 + 1 ≤ s1.n * 1 by omega) (fun w221 hp222 => ?_))
            have hp223 := hp222
            rw [show ow (List.flatMap (fun y => [.bool y]) sl) ((q82[k]! : Int).toNat * 1) [.bool true] = List.flatMap (fun y => [.bool y]) (sl.set ((q82[k]! : Int).toNat) true) from ow_flat (sz := 1) (fun _ => rfl) (by first | (omega) | (simp only [List.length_set]; omega)) true] at hp223
            refine OPS.nil ?_
            refine thn_n ?_
            refine WP.seq ?_
            refine WP.region _ rfl (by kernel_rfl) ?_
            have hy227 : (l1)[(q82[k]! : Int).toNat]? = some l1[(q82[k]! : Int).toNat]! := get_bang (by first | (omega) | (simp only [List.length_append, List.length_cons, List.length_nil]; omega) | (simp only [List.length_take, List.length_append, List.length_cons, List.length_nil]; omega))
            refine OPS.batch 4 {} [GCall.val (l1[(q82[k]! : Int).toNat]!)] [0, 9, 10, 12, 84, 85, 86, 118] [.slice s1.a s1.n s1.c, .slice (some ⟨g168, 0, none⟩) s1.n s1.n, .int .i64 la, .int .i64 (q82[k]!), .slice a80 q82.length c81, .int .i64 ((q82.length : Nat) : Int), .int .i64 (k : Int), GCall.val (l1[(q82[k]! : Int).toNat]!)] (.cons (show InB (q82[k]!) (s1.n) from ⟨by omega, by omega⟩) (.cons ((o1.rd.at hp223).some (by omega)) (.cons (Ld.add0 (Ld.elN (P := Try.prog) (t := 73) (o1.rd.at hp223).rd 11 (fun _ => rfl) hy227 (o := 0) (cs := [.int .i64 (l1[(q82[k]! : Int).toNat]!.Client), .int .i64 (l1[(q82[k]! : Int).toNat]!.Op), .bool (l1[(q82[k]! : Int).toNat]!.Put), .string (l1[(q82[k]! : Int).toNat]!.Key), .slice (l1[(q82[k]! : Int).toNat]!.Value.a) (l1[(q82[k]! : Int).toNat]!.Value.n) (l1[(q82[k]! : Int).toNat]!.Value.c), .int .i64 (l1[(q82[k]! : Int).toNat]!.Status), .int .i64 (l1[(q82[k]! : Int).toNat]!.From), .int .i64 (l1[(q82[k]! : Int).toNat]!.To), .bool (l1[(q82[k]! : Int).toNat]!.Open), .int .i64 (l1[(q82[k]! : Int).toNat]!.Tag.Count), .int .i64 (l1[(q82[k]! : Int).toNat]!.Tag.Client)]) (by kernel_rfl))) .nil))) (by kernel_rfl) (fun b228 => ?_)
            refine OPS.cons (opStep.alloc hp223 [.int .i64 0, .int .i64 0, .bool false, .string ByteArray.empty, .slice none 0 0, .int .i64 0, .int .i64 0, .int .i64 0, .bool false, .int .i64 0, .int .i64 0] (by kernel_rfl) (fun g231 w229 hp230 => ?_))
            refine OPS.cons (opStep.store0 hp230 rfl [.int .i64 (l1[(q82[k]! : Int).toNat]!.Client), .int .i64 (l1[(q82[k]! : Int).toNat]!.Op), .bool (l1[(q82[k]! : Int).toNat]!.Put), .string (l1[(q82[k]! : Int).toNat]!.Key), .slice (l1[(q82[k]! : Int).toNat]!.Value.a) (l1[(q82[k]! : Int).toNat]!.Value.n) (l1[(q82[k]! : Int).toNat]!.Value.c), .int .i64 (l1[(q82[k]! : Int).toNat]!.Status), .int .i64 (l1[(q82[k]! : Int).toNat]!.From), .int .i64 (l1[(q82[k]! : Int).toNat]!.To), .bool (l1[(q82[k]! : Int).toNat]!.Open), .int .i64 (l1[(q82[k]! : Int).toNat]!.Tag.Count), .int .i64 (l1[(q82[k]! : Int).toNat]!.Tag.Client)] [.int .i64 (l1[(q82[k]! : Int).toNat]!.Client), .int .i64 (l1[(q82[k]! : Int).toNat]!.Op), .bool (l1[(q82[k]! : Int).toNat]!.Put), .string (l1[(q82[k]! : Int).toNat]!.Key), .slice (l1[(q82[k]! : Int).toNat]!.Value.a) (l1[(q82[k]! : Int).toNat]!.Value.n) (l1[(q82[k]! : Int).toNat]!.Value.c), .int .i64 (l1[(q82[k]! : Int).toNat]!.Status), .int .i64 (l1[(q82[k]! : Int).toNat]!.From), .int .i64 (l1[(q82[k]! : Int).toNat]!.To), .bool (l1[(q82[k]! : Int).toNat]!.Open), .int .i64 (l1[(q82[k]! : Int).toNat]!.Tag.Count), .int .i64 (l1[(q82[k]! : Int).toNat]!.Tag.Client)] (by kernel_rfl) (fun w232 hp233 => ?_))
            refine OPS.nil ?_
            refine thn_n ?_
            refine WP.block ?_
            refine WP.seq ?_
            refine WP.pure {} [.bool (l1[(q82[k]! : Int).toNat]!.Put)] [0, 9, 10, 12, 13, 84, 85, 86, 119] [.slice s1.a s1.n s1.c, .slice (some ⟨g168, 0, none⟩) s1.n s1.n, .int .i64 la, .int .i64 (q82[k]!), .pointer (some ⟨g231, 0, none⟩), .slice a80 q82.length c81, .int .i64 ((q82.length : Nat) : Int), .int .i64 (k : Int), .bool (l1[(q82[k]! : Int).toNat]!.Put)] (.cons (Ld.row1 (P := Try.prog) (t := 4) (o := 2) (v := .bool (l1[(q82[k]! : Int).toNat]!.Put)) hp233.get0 (by kernel_rfl)) .nil) (by kernel_rfl) (fun b234 => ?_)
            refine thn_n ?_
            refine WP.test (p := (l1[(q82[k]! : Int).toNat]!.Put) = true) rfl Bp.var (fun h235 => ?_) (fun h235 => ?_)
            · refine WP.seq ?_
              refine WP.cut (fun e287 w288 => ∃ (x285 : Bool), (True) ∧ Bp x285 ((0 ≤ la) ∧ (¬ ((l1[(la : Int).toNat]!.Open) = true)) ∧ (¬ ((l1[(q82[k]! : Int).toNat]!.Open) = true)) ∧ (¬ (tagCmp (l1[(la : Int).toNat]!.Tag) (l1[(q82[k]! : Int).toNat]!.Tag) < 0))) ∧ List.map e287 [0, 9, 12, 84, 85, 86, 147] = [.slice s1.a s1.n s1.c, .slice (some ⟨g168, 0, none⟩) s1.n s1.n, .int .i64 (q82[k]!), .slice a80 q82.length c81, .int .i64 ((q82.length : Nat) : Int), .int .i64 (k : Int), .bool x285] ∧ Hp w Non [Res.row g231 [.int .i64 (l1[(q82[k]! : Int).toNat]!.Client), .int .i64 (l1[(q82[k]! : Int).toNat]!.Op), .bool (l1[(q82[k]! : Int).toNat]!.Put), .string (l1[(q82[k]! : Int).toNat]!.Key), .slice (l1[(q82[k]! : Int).toNat]!.Value.a) (l1[(q82[k]! : Int).toNat]!.Value.n) (l1[(q82[k]! : Int).toNat]!.Value.c), .int .i64 (l1[(q82[k]! : Int).toNat]!.Status), .int .i64 (l1[(q82[k]! : Int).toNat]!.From), .int .i64 (l1[(q82[k]! : Int).toNat]!.To), .bool (l1[(q82[k]! : Int).toNat]!.Open), .int .i64 (l1[(q82[k]! : Int).toNat]!.Tag.Count), .int .i64 (l1[(q82[k]! : Int).toNat]!.Tag.Client)] 73, Res.own 4 1 (.slice (some ⟨g168, 0, none⟩) s1.n s1.n) s1.n (List.flatMap (fun y => [.bool y]) (sl.set ((q82[k]! : Int).toNat) true)), Res.own 3 1 (.slice a80 q82.length c81) q82.length (List.flatMap (fun (y : Int) => [Go.Value.int .i64 y]) q82), Res.own 73 11 (.slice a67 n68 c69) n68 (List.flatMap GCall.cells cl70), Res.vc F72 cl70 bs71, Res.own 3 1 (.slice a52 (0 + s2.n) c53) (0 + s2.n) (List.flatMap (fun (y : Int) => [Go.Value.int .i64 y]) l2), Res.own 73 11 (.slice a38 n39 c40) n39 (List.flatMap GCall.cells cl41), Res.vc F43 cl41 bs42, Res.row g26 [.int .i64 1, .int .i64 0] 3, Res.row g17 [.int .i64 0, .int .i64 1] 3, Res.row g12 [.int .i64 0, .int .i64 0, .bool true, .string ByteArray.empty, .slice (some ⟨g4, 0, none⟩) 1 1, .int .i64 0, .int .i64 0, .int .i64 1, .bool false, .int .i64 1, .int .i64 1, .int .i64 0, .int .i64 0, .bool false, .string ByteArray.empty, .slice (some ⟨g8, 0, none⟩) 1 1, .int .i64 0, .int .i64 2, .int .i64 3, .bool false, .int .i64 1, .int .i64 1] 73, Res.row g8 [.int .u8 1] 5, Res.row g4 [.int .u8 1] 5] w288) ?_ ?_
              · have hp239 := hp233.drew
                refine WP.quiet (fun w237 => Hp w Non [Res.row g231 [.int .i64 (l1[(q82[k]! : Int).toNat]!.Client), .int .i64 (l1[(q82[k]! : Int).toNat]!.Op), .bool (l1[(q82[k]! : Int).toNat]!.Put), .string (l1[(q82[k]! : Int).toNat]!.Key), .slice (l1[(q82[k]! : Int).toNat]!.Value.a) (l1[(q82[k]! : Int).toNat]!.Value.n) (l1[(q82[k]! : Int).toNat]!.Value.c), .int .i64 (l1[(q82[k]! : Int).toNat]!.Status), .int .i64 (l1[(q82[k]! : Int).toNat]!.From), .int .i64 (l1[(q82[k]! : Int).toNat]!.To), .bool (l1[(q82[k]! : Int).toNat]!.Open), .int .i64 (l1[(q82[k]! : Int).toNat]!.Tag.Count), .int .i64 (l1[(q82[k]! : Int).toNat]!.Tag.Client)] 73, Res.own 4 1 (.slice (some ⟨g168, 0, none⟩) s1.n s1.n) s1.n (List.flatMap (fun y => [.bool y]) (sl.set ((q82[k]! : Int).toNat) true)), Res.own 3 1 (.slice a80 q82.length c81) q82.length (List.flatMap (fun (y : Int) => [Go.Value.int .i64 y]) q82), Res.own 73 11 (.slice a67 n68 c69) n68 (List.flatMap GCall.cells cl70), Res.vc F72 cl70 bs71, Res.own 3 1 (.slice a52 (0 + s2.n) c53) (0 + s2.n) (List.flatMap (fun (y : Int) => [Go.Value.int .i64 y]) l2), Res.own 73 11 (.slice a38 n39 c40) n39 (List.flatMap GCall.cells cl41), Res.vc F43 cl41 bs42, Res.row g26 [.int .i64 1, .int .i64 0] 3, Res.row g17 [.int .i64 0, .int .i64 1] 3, Res.row g12 [.int .i64 0, .int .i64 0, .bool true, .string ByteArray.empty, .slice (some ⟨g4, 0, none⟩) 1 1, .int .i64 0, .int .i64 0, .int .i64 1, .bool false, .int .i64 1, .int .i64 1, .int .i64 0, .int .i64 0, .bool false, .string ByteArray.empty, .slice (some ⟨g8, 0, none⟩) 1 1, .int .i64 0, .int .i64 2, .int .i64 3, .bool false, .int .i64 1, .int .i64 1] 73, Res.row g8 [.int .u8 1] 5, Res.row g4 [.int .u8 1] 5] w237) (by kernel_rfl) hp239 ?_
                have hnehp239 : ∃ wz_, (fun w237 => Hp w Non [Res.row g231 [.int .i64 (l1[(q82[k]! : Int).toNat]!.Client), .int .i64 (l1[(q82[k]! : Int).toNat]!.Op), .bool (l1[(q82[k]! : Int).toNat]!.Put), .string (l1[(q82[k]! : Int).toNat]!.Key), .slice (l1[(q82[k]! : Int).toNat]!.Value.a) (l1[(q82[k]! : Int).toNat]!.Value.n) (l1[(q82[k]! : Int).toNat]!.Value.c), .int .i64 (l1[(q82[k]! : Int).toNat]!.Status), .int .i64 (l1[(q82[k]! : Int).toNat]!.From), .int .i64 (l1[(q82[k]! : Int).toNat]!.To), .bool (l1[(q82[k]! : Int).toNat]!.Open), .int .i64 (l1[(q82[k]! : Int).toNat]!.Tag.Count), .int .i64 (l1[(q82[k]! : Int).toNat]!.Tag.Client)] 73, Res.own 4 1 (.slice (some ⟨g168, 0, none⟩) s1.n s1.n) s1.n (List.flatMap (fun y => [.bool y]) (sl.set ((q82[k]! : Int).toNat) true)), Res.own 3 1 (.slice a80 q82.length c81) q82.length (List.flatMap (fun (y : Int) => [Go.Value.int .i64 y]) q82), Res.own 73 11 (.slice a67 n68 c69) n68 (List.flatMap GCall.cells cl70), Res.vc F72 cl70 bs71, Res.own 3 1 (.slice a52 (0 + s2.n) c53) (0 + s2.n) (List.flatMap (fun (y : Int) => [Go.Value.int .i64 y]) l2), Res.own 73 11 (.slice a38 n39 c40) n39 (List.flatMap GCall.cells cl41), Res.vc F43 cl41 bs42, Res.row g26 [.int .i64 1, .int .i64 0] 3, Res.row g17 [.int .i64 0, .int .i64 1] 3, Res.row g12 [.int .i64 0, .int .i64 0, .bool true, .string ByteArray.empty, .slice (some ⟨g4, 0, none⟩) 1 1, .int .i64 0, .int .i64 0, .int .i64 1, .bool false, .int .i64 1, .int .i64 1, .int .i64 0, .int .i64 0, .bool false, .string ByteArray.empty, .slice (some ⟨g8, 0, none⟩) 1 1, .int .i64 0, .int .i64 2, .int .i64 3, .bool false, .int .i64 1, .int .i64 1] 73, Res.row g8 [.int .u8 1] 5, Res.row g4 [.int .u8 1] 5] w237) wz_ := ⟨_, hp239⟩
                refine QOPS.batch 3 {} [] [0, 9, 10, 12, 13, 84, 85, 86, 124] [.slice s1.a s1.n s1.c, .slice (some ⟨g168, 0, none⟩) s1.n s1.n, .int .i64 la, .int .i64 (q82[k]!), .pointer (some ⟨g231, 0, none⟩), .slice a80 q82.length c81, .int .i64 ((q82.length : Nat) : Int), .int .i64 (k : Int), .bool (decide (0 ≤ la))] hnehp239 (fun w240 hp241 => QB.mk .nil (by kernel_rfl)) (fun b242 => ?_)
                by_cases h243 : 0 ≤ la
                · refine QOPS.batch 0 {} [] [0, 9, 10, 12, 13, 84, 85, 86, 124] [.slice s1.a s1.n s1.c, .slice (some ⟨g168, 0, none⟩) s1.n s1.n, .int .i64 la, .int .i64 (q82[k]!), .pointer (some ⟨g231, 0, none⟩), .slice a80 q82.length c81, .int .i64 ((q82.length : Nat) : Int), .int .i64 (k : Int), .bool (decide (0 ≤ la))] hnehp239 (fun _ _ => QB.mk .nil (by kernel_rfl)) (fun b244 => ?_)
                  refine QOPS.re [.slice s1.a s1.n s1.c, .slice (some ⟨g168, 0, none⟩) s1.n s1.n, .int .i64 la, .int .i64 (q82[k]!), .pointer (some ⟨g231, 0, none⟩), .slice a80 q82.length c81, .int .i64 ((q82.length : Nat) : Int), .int .i64 (k : Int), .bool true] (by rw [show (decide (0 ≤ la)) = true from Bp.dec.tt h243]) ?_
                  have hy248 : (l1)[(la : Int).toNat]? = some l1[(la : Int).toNat]! := get_bang (by first | (omega) | (simp only [List.length_append, List.length_cons, List.length_nil]; omega) | (simp only [List.length_take, List.length_append, List.length_cons, List.length_nil]; omega))
                  refine QOPS.batch 8 { wraps := [131] } [.bool (l1[(la : Int).toNat]!.Open)] [0, 9, 10, 12, 13, 84, 85, 86, 132] [.slice s1.a s1.n s1.c, .slice (some ⟨g168, 0, none⟩) s1.n s1.n, .int .i64 la, .int .i64 (q82[k]!), .pointer (some ⟨g231, 0, none⟩), .slice a80 q82.length c81, .int .i64 ((q82.length : Nat) : Int), .int .i64 (k : Int), .bool (!(l1[(la : Int).toNat]!.Open))] hnehp239 (fun w245 hp246 => QB.mk (.cons (show InB (la) (s1.n) from ⟨by omega, by omega⟩) (.cons ((o1.rd.at hp246).some (by omega)) (.cons (Ld.el1 (P := Try.prog) (t := 4) (o1.rd.at hp246).rd 11 (fun _ => rfl) hy248 (o := 8) (v := .bool (l1[(la : Int).toNat]!.Open)) (by kernel_rfl)) .nil))) (by kernel_rfl)) (fun b249 => ?_)
                  by_cases h250 : (l1[(la : Int).toNat]!.Open) = true
                  · refine QOPS.batch 0 {} [] [0, 9, 10, 12, 13, 84, 85, 86, 132] [.slice s1.a s1.n s1.c, .slice (some ⟨g168, 0, none⟩) s1.n s1.n, .int .i64 la, .int .i64 (q82[k]!), .pointer (some ⟨g231, 0, none⟩), .slice a80 q82.length c81, .int .i64 ((q82.length : Nat) : Int), .int .i64 (k : Int), .bool (!(l1[(la : Int).toNat]!.Open))] hnehp239 (fun _ _ => QB.mk .nil (by kernel_rfl)) (fun b273 => ?_)
                    refine QOPS.re [.slice s1.a s1.n s1.c, .slice (some ⟨g168, 0, none⟩) s1.n s1.n, .int .i64 la, .int .i64 (q82[k]!), .pointer (some ⟨g231, 0, none⟩), .slice a80 q82.length c81, .int .i64 ((q82.length : Nat) : Int), .int .i64 (k : Int), .bool false] (by rw [show (!(l1[(la : Int).toNat]!.Open)) = false from (Bp.not Bp.var).ff (fun k => k h250)]) ?_
                    refine QOPS.batch 15 { wraps := [136, 147] } [] [0, 9, 12, 84, 85, 86, 147] [.slice s1.a s1.n s1.c, .slice (some ⟨g168, 0, none⟩) s1.n s1.n, .int .i64 (q82[k]!), .slice a80 q82.length c81, .int .i64 ((q82.length : Nat) : Int), .int .i64 (k : Int), .bool false] hnehp239 (fun w274 hp275 => QB.mk .nil (by kernel_rfl)) (fun b276 => ?_)
                    refine QOPS.nil (fun w277 hp278 => ?_)
                    refine thn_n ?_
                    exact ⟨false, trivial, Bp.of Bp.f (by first | (simp only [h243, h250, iff_false, false_iff, iff_true, true_iff, Classical.not_not, and_true, true_and, and_false, false_and, or_true, true_or, or_false, false_or, not_true_eq_false, not_false_eq_true, and_self, or_self, iff_self]; done) | (simp [h243, h250]; done) | grind | (simp_all; done)), by kernel_rfl, hp278⟩
                  · refine QOPS.batch 0 {} [] [0, 9, 10, 12, 13, 84, 85, 86, 132] [.slice s1.a s1.n s1.c, .slice (some ⟨g168, 0, none⟩) s1.n s1.n, .int .i64 la, .int .i64 (q82[k]!), .pointer (some ⟨g231, 0, none⟩), .slice a80 q82.length c81, .int .i64 ((q82.length : Nat) : Int), .int .i64 (k : Int), .bool (!(l1[(la : Int).toNat]!.Open))] hnehp239 (fun _ _ => QB.mk .nil (by kernel_rfl)) (fun b251 => ?_)
                    refine QOPS.re [.slice s1.a s1.n s1.c, .slice (some ⟨g168, 0, none⟩) s1.n s1.n, .int .i64 la, .int .i64 (q82[k]!), .pointer (some ⟨g231, 0, none⟩), .slice a80 q82.length c81, .int .i64 ((q82.length : Nat) : Int), .int .i64 (k : Int), .bool true] (by rw [show (!(l1[(la : Int).toNat]!.Open)) = true from (Bp.not Bp.var).tt h250]) ?_
                    refine QOPS.batch 5 { wraps := [136] } [.bool (l1[(q82[k]! : Int).toNat]!.Open)] [0, 9, 10, 12, 13, 84, 85, 86, 137] [.slice s1.a s1.n s1.c, .slice (some ⟨g168, 0, none⟩) s1.n s1.n, .int .i64 la, .int .i64 (q82[k]!), .pointer (some ⟨g231, 0, none⟩), .slice a80 q82.length c81, .int .i64 ((q82.length : Nat) : Int), .int .i64 (k : Int), .bool (!(l1[(q82[k]! : Int).toNat]!.Open))] hnehp239 (fun w252 hp253 => QB.mk (.cons (Ld.row1 (P := Try.prog) (t := 4) (o := 8) (v := .bool (l1[(q82[k]! : Int).toNat]!.Open)) hp253.get0 (by kernel_rfl)) .nil) (by kernel_rfl)) (fun b254 => ?_)
                    by_cases h255 : (l1[(q82[k]! : Int).toNat]!.Open) = true
                    · refine QOPS.batch 0 {} [] [0, 9, 10, 12, 13, 84, 85, 86, 137] [.slice s1.a s1.n s1.c, .slice (some ⟨g168, 0, none⟩) s1.n s1.n, .int .i64 la, .int .i64 (q82[k]!), .pointer (some ⟨g231, 0, none⟩), .slice a80 q82.length c81, .int .i64 ((q82.length : Nat) : Int), .int .i64 (k : Int), .bool (!(l1[(q82[k]! : Int).toNat]!.Open))] hnehp239 (fun _ _ => QB.mk .nil (by kernel_rfl)) (fun b267 => ?_)
                      refine QOPS.re [.slice s1.a s1.n s1.c, .slice (some ⟨g168, 0, none⟩) s1.n s1.n, .int .i64 la, .int .i64 (q82[k]!), .pointer (some ⟨g231, 0, none⟩), .slice a80 q82.length c81, .int .i64 ((q82.length : Nat) : Int), .int .i64 (k : Int), .bool false] (by rw [show (!(l1[(q82[k]! : Int).toNat]!.Open)) = false from (Bp.not Bp.var).ff (fun k => k h255)]) ?_
                      refine QOPS.batch 10 { wraps := [147] } [] [0, 9, 12, 84, 85, 86, 147] [.slice s1.a s1.n s1.c, .slice (some ⟨g168, 0, none⟩) s1.n s1.n, .int .i64 (q82[k]!), .slice a80 q82.length c81, .int .i64 ((q82.length : Nat) : Int), .int .i64 (k : Int), .bool false] hnehp239 (fun w268 hp269 => QB.mk .nil (by kernel_rfl)) (fun b270 => ?_)
                      refine QOPS.nil (fun w271 hp272 => ?_)
                      refine thn_n ?_
                      exact ⟨false, trivial, Bp.of Bp.f (by first | (simp only [h243, h250, h255, iff_false, false_iff, iff_true, true_iff, Classical.not_not, and_true, true_and, and_false, false_and, or_true, true_or, or_false, false_or, not_true_eq_false, not_false_eq_true, and_self, or_self, iff_self]; done) | (simp [h243, h250, h255]; done) | grind | (simp_all; done)), by kernel_rfl, hp272⟩
                    · refine QOPS.batch 0 {} [] [0, 9, 10, 12, 13, 84, 85, 86, 137] [.slice s1.a s1.n s1.c, .slice (some ⟨g168, 0, none⟩) s1.n s1.n, .int .i64 la, .int .i64 (q82[k]!), .pointer (some ⟨g231, 0, none⟩), .slice a80 q82.length c81, .int .i64 ((q82.length : Nat) : Int), .int .i64 (k : Int), .bool (!(l1[(q82[k]! : Int).toNat]!.Open))] hnehp239 (fun _ _ => QB.mk .nil (by kernel_rfl)) (fun b256 => ?_)
                      refine QOPS.re [.slice s1.a s1.n s1.c, .slice (some ⟨g168, 0, none⟩) s1.n s1.n, .int .i64 la, .int .i64 (q82[k]!), .pointer (some ⟨g231, 0, none⟩), .slice a80 q82.length c81, .int .i64 ((q82.length : Nat) : Int), .int .i64 (k : Int), .bool true] (by rw [show (!(l1[(q82[k]! : Int).toNat]!.Open)) = true from (Bp.not Bp.var).tt h255]) ?_
                      refine QOPS.batch 7 {} [.agg #[.int .i64 (l1[(la : Int).toNat]!.Tag.Count), .int .i64 (l1[(la : Int).toNat]!.Tag.Client)], .agg #[.int .i64 (l1[(q82[k]! : Int).toNat]!.Tag.Count), .int .i64 (l1[(q82[k]! : Int).toNat]!.Tag.Client)]] [0, 9, 12, 84, 85, 86, 137, 142, 144] [.slice s1.a s1.n s1.c, .slice (some ⟨g168, 0, none⟩) s1.n s1.n, .int .i64 (q82[k]!), .slice a80 q82.length c81, .int .i64 ((q82.length : Nat) : Int), .int .i64 (k : Int), .bool true, .agg #[.int .i64 (l1[(la : Int).toNat]!.Tag.Count), .int .i64 (l1[(la : Int).toNat]!.Tag.Client)], .agg #[.int .i64 (l1[(q82[k]! : Int).toNat]!.Tag.Count), .int .i64 (l1[(q82[k]! : Int).toNat]!.Tag.Client)]] hnehp239 (fun w257 hp258 => QB.mk (.cons (show InB (la) (s1.n) from ⟨by omega, by omega⟩) (.cons ((o1.rd.at hp258).some (by omega)) (.cons (Ld.elN (P := Try.prog) (t := 70) (o1.rd.at hp258).rd 11 (fun _ => rfl) hy248 (o := 9) (cs := [.int .i64 (l1[(la : Int).toNat]!.Tag.Count), .int .i64 (l1[(la : Int).toNat]!.Tag.Client)]) (by kernel_rfl)) (.cons (show Ld Try.prog w257 70 ⟨g231, 9, none⟩ (.agg #[.int .i64 (l1[(q82[k]! : Int).toNat]!.Tag.Count), .int .i64 (l1[(q82[k]! : Int).toNat]!.Tag.Client)]) from Ld.rowN (cs := [.int .i64 (l1[(q82[k]! : Int).toNat]!.Tag.Count), .int .i64 (l1[(q82[k]! : Int).toNat]!.Tag.Client)]) hp258.get0 (by kernel_rfl)) .nil)))) (by kernel_rfl)) (fun b259 => ?_)
                      refine QOPS.call (some 145) [.agg #[.int .i64 (l1[(la : Int).toNat]!.Tag.Count), .int .i64 (l1[(la : Int).toNat]!.Tag.Client)], .agg #[.int .i64 (l1[(q82[k]! : Int).toNat]!.Tag.Count), .int .i64 (l1[(q82[k]! : Int).toNat]!.Tag.Client)]] (by kernel_rfl) (fun w260 hp261 => (t_before (l1[(la : Int).toNat]!.Tag) (l1[(q82[k]! : Int).toNat]!.Tag) _).mono fun _ _ h => by obtain ⟨b, h1, h2, h3⟩ := h; exact ⟨by rw [h1, h2.eq_bo], hp261.step h3⟩) ?_
                      refine QOPS.batch 2 { wraps := [147] } [] [0, 9, 12, 84, 85, 86, 147] [.slice s1.a s1.n s1.c, .slice (some ⟨g168, 0, none⟩) s1.n s1.n, .int .i64 (q82[k]!), .slice a80 q82.length c81, .int .i64 ((q82.length : Nat) : Int), .int .i64 (k : Int), .bool (!(bo (tagCmp (l1[(la : Int).toNat]!.Tag) (l1[(q82[k]! : Int).toNat]!.Tag) < 0)))] hnehp239 (fun w262 hp263 => QB.mk .nil (by kernel_rfl)) (fun b264 => ?_)
                      refine QOPS.nil (fun w265 hp266 => ?_)
                      refine thn_n ?_
                      exact ⟨!(bo (tagCmp (l1[(la : Int).toNat]!.Tag) (l1[(q82[k]! : Int).toNat]!.Tag) < 0)), trivial, Bp.of (Bp.not Bp.bo) (by first | (simp only [h243, h250, h255, iff_false, false_iff, iff_true, true_iff, Classical.not_not, and_true, true_and, and_false, false_and, or_true, true_or, or_false, false_or, not_true_eq_false, not_false_eq_true, and_self, or_self, iff_self]; done) | (simp [h243, h250, h255]; done) | grind | (simp_all; done)), by kernel_rfl, hp266⟩
                · refine QOPS.batch 0 {} [] [0, 9, 10, 12, 13, 84, 85, 86, 124] [.slice s1.a s1.n s1.c, .slice (some ⟨g168, 0, none⟩) s1.n s1.n, .int .i64 la, .int .i64 (q82[k]!), .pointer (some ⟨g231, 0, none⟩), .slice a80 q82.length c81, .int .i64 ((q82.length : Nat) : Int), .int .i64 (k : Int), .bool (decide (0 ≤ la))] hnehp239 (fun _ _ => QB.mk .nil (by kernel_rfl)) (fun b279 => ?_)
                  refine QOPS.re [.slice s1.a s1.n s1.c, .slice (some ⟨g168, 0, none⟩) s1.n s1.n, .int .i64 la, .int .i64 (q82[k]!), .pointer (some ⟨g231, 0, none⟩), .slice a80 q82.length c81, .int .i64 ((q82.length : Nat) : Int), .int .i64 (k : Int), .bool false] (by rw [show (decide (0 ≤ la)) = false from Bp.dec.ff h243]) ?_
                  refine QOPS.batch 23 { wraps := [131, 136, 147] } [] [0, 9, 12, 84, 85, 86, 147] [.slice s1.a s1.n s1.c, .slice (some ⟨g168, 0, none⟩) s1.n s1.n, .int .i64 (q82[k]!), .slice a80 q82.length c81, .int .i64 ((q82.length : Nat) : Int), .int .i64 (k : Int), .bool false] hnehp239 (fun w280 hp281 => QB.mk .nil (by kernel_rfl)) (fun b282 => ?_)
                  refine QOPS.nil (fun w283 hp284 => ?_)
                  refine thn_n ?_
                  exact ⟨false, trivial, Bp.of Bp.f (by first | (simp only [h243, iff_false, false_iff, iff_true, true_iff, Classical.not_not, and_true, true_and, and_false, false_and, or_true, true_or, or_false, false_or, not_true_eq_false, not_false_eq_true, and_self, or_self, iff_self]; done) | (simp [h243]; done) | grind | (simp_all; done)), by kernel_rfl, hp284⟩
              rintro e287 w288 ⟨x285, hd290, hb286, hE291, hp289⟩
              obtain ⟨b292, rfl⟩ := toMk hE291
              clear hE291
              clear hd290
              refine WP.test (p := (0 ≤ la) ∧ (¬ ((l1[(la : Int).toNat]!.Open) = true)) ∧ (¬ ((l1[(q82[k]! : Int).toNat]!.Open) = true)) ∧ (¬ (tagCmp (l1[(la : Int).toNat]!.Tag) (l1[(q82[k]! : Int).toNat]!.Tag) < 0))) rfl hb286 (fun h293 => ?_) (fun h293 => ?_)
              · refine WP.seq ?_
                refine WP.pure {} [] [4] [.bool false] .nil (by kernel_rfl) (fun b294 => ?_)
                refine thn_n ?_
                refine WP.ret ?_
                refine thn_r ?_
                refine blk_r ?_
                refine blk_r ?_
                refine thn_r ?_
                refine thn_r ?_
                refine blk_r ?_
                refine thn_r ?_
                refine bodyQ.of _ rfl [.bool false] ⟨rfl, trivial⟩ ?_
                exfalso
                obtain ⟨a1_, a2_, a3_, a4_, a5_, a6_, a7_⟩ := pat (by omega)
                first | grind | omega
              · refine WP.skip ?_
                refine thn_n ?_
                refine WP.pure {} [] [0, 9, 10, 84, 85, 86] [.slice s1.a s1.n s1.c, .slice (some ⟨g168, 0, none⟩) s1.n s1.n, .int .i64 (q82[k]!), .slice a80 q82.length c81, .int .i64 ((q82.length : Nat) : Int), .int .i64 (k : Int)] .nil (by kernel_rfl) (fun b295 => ?_)
                refine blk_n ?_
                refine blk_n ?_
                refine thn_n ?_
                refine WP.pure {} [] [0, 9, 10, 84, 85, 86] [.slice s1.a s1.n s1.c, .slice (some ⟨g168, 0, none⟩) s1.n s1.n, .int .i64 (q82[k]!), .slice a80 q82.length c81, .int .i64 ((q82.length : Nat) : Int), .int .i64 ((k : Int) + 1)] (.cons (show Rng .i64 ((k : Int) + 1) from Rng.i64 (by omega)) .nil) (by kernel_rfl) (fun b296 => ?_)
                refine thn_n ?_
                exact ⟨q82.length - (k + 1), (by omega), k + 1, sl.set ((q82[k]! : Int).toNat) true, q82[k]!, rfl, ⟨by omega, seenS_step pb (pat (by omega)).1 (pat (by omega)).2.1, by unfold lastF; rw [if_pos (show (atO l1 q82 k).Put = true from h235)]⟩, by kernel_rfl, (hp289.sub (.cons _ (.cons_cons _ (.cons_cons _ (.cons_cons _ (.cons_cons _ (.cons_cons _ (.cons_cons _ (.cons_cons _ (.cons_cons _ (.cons_cons _ (.cons_cons _ (.cons_cons _ (.cons_cons _ (.slnil)))))))))))))))⟩
            · refine WP.seq ?_
              refine WP.pure {} [.int .i64 (l1[(q82[k]! : Int).toNat]!.Status)] [0, 9, 10, 13, 84, 85, 86, 149] [.slice s1.a s1.n s1.c, .slice (some ⟨g168, 0, none⟩) s1.n s1.n, .int .i64 la, .pointer (some ⟨g231, 0, none⟩), .slice a80 q82.length c81, .int .i64 ((q82.length : Nat) : Int), .int .i64 (k : Int), .bool (decide ((l1[(q82[k]! : Int).toNat]!.Status) = 76))] (.cons (Ld.row1 (P := Try.prog) (t := 25) (o := 5) (v := .int .i64 (l1[(q82[k]! : Int).toNat]!.Status)) hp233.get0 (by kernel_rfl)) .nil) (by kernel_rfl) (fun b297 => ?_)
              refine thn_n ?_
              refine WP.test (p := (l1[(q82[k]! : Int).toNat]!.Status) = 76) rfl Bp.dec (fun h298 => ?_) (fun h298 => ?_)
              · refine WP.seq ?_
                refine WP.pure {} [] [0, 9, 10, 84, 85, 86, 154] [.slice s1.a s1.n s1.c, .slice (some ⟨g168, 0, none⟩) s1.n s1.n, .int .i64 la, .slice a80 q82.length c81, .int .i64 ((q82.length : Nat) : Int), .int .i64 (k : Int), .bool (decide (0 ≤ la))] .nil (by kernel_rfl) (fun b299 => ?_)
                refine thn_n ?_
                refine WP.test (p := 0 ≤ la) rfl Bp.dec (fun h300 => ?_) (fun h300 => ?_)
                · refine WP.seq ?_
                  refine WP.pure {} [] [4] [.bool false] .nil (by kernel_rfl) (fun b301 => ?_)
                  refine thn_n ?_
                  refine WP.ret ?_
                  refine blk_r ?_
                  refine blk_r ?_
                  refine thn_r ?_
                  refine thn_r ?_
                  refine blk_r ?_
                  refine thn_r ?_
                  refine bodyQ.of _ rfl [.bool false] ⟨rfl, trivial⟩ ?_
                  exfalso
                  obtain ⟨a1_, a2_, a3_, a4_, a5_, a6_, a7_⟩ := pat (by omega)
                  first | grind | omega
                · refine WP.skip ?_
                  refine blk_n ?_
                  refine blk_n ?_
                  refine thn_n ?_
                  refine WP.pure {} [] [0, 9, 10, 84, 85, 86] [.slice s1.a s1.n s1.c, .slice (some ⟨g168, 0, none⟩) s1.n s1.n, .int .i64 la, .slice a80 q82.length c81, .int .i64 ((q82.length : Nat) : Int), .int .i64 ((k : Int) + 1)] (.cons (show Rng .i64 ((k : Int) + 1) from Rng.i64 (by omega)) .nil) (by kernel_rfl) (fun b302 => ?_)
                  refine thn_n ?_
                  exact ⟨q82.length - (k + 1), (by omega), k + 1, sl.set ((q82[k]! : Int).toNat) true, la, rfl, ⟨by omega, seenS_step pb (pat (by omega)).1 (pat (by omega)).2.1, by rw [pc]; conv => rhs; unfold lastF; rw [if_neg (show ¬ (atO l1 q82 k).Put = true from h235)]⟩, by kernel_rfl, (hp233.sub (.cons _ (.cons_cons _ (.cons_cons _ (.cons_cons _ (.cons_cons _ (.cons_cons _ (.cons_cons _ (.cons_cons _ (.cons_cons _ (.cons_cons _ (.cons_cons _ (.cons_cons _ (.cons_cons _ (.slnil)))))))))))))))⟩
              · refine WP.cut (fun e393 w394 => ∃ (x391 : Bool), (True) ∧ Bp x391 (((la < 0)) ∨ ((¬ (la < 0)) ∧ (¬ ((l1[(la : Int).toNat]!.Open) = true)) ∧ (¬ (((l1[(la : Int).toNat]!.Tag.Count) = (l1[(q82[k]! : Int).toNat]!.Tag.Count)) ∧ ((l1[(la : Int).toNat]!.Tag.Client) = (l1[(q82[k]! : Int).toNat]!.Tag.Client))))) ∨ ((¬ (la < 0)) ∧ (¬ ((l1[(la : Int).toNat]!.Open) = true)) ∧ (((l1[(la : Int).toNat]!.Tag.Count) = (l1[(q82[k]! : Int).toNat]!.Tag.Count)) ∧ ((l1[(la : Int).toNat]!.Tag.Client) = (l1[(q82[k]! : Int).toNat]!.Tag.Client))) ∧ ((l1[(la : Int).toNat]!.Open) = true) ∧ (¬ (((l1[(la : Int).toNat]!.Tag.Count) = 0) ∧ ((l1[(la : Int).toNat]!.Tag.Client) = 0))) ∧ (¬ (((l1[(la : Int).toNat]!.Tag.Count) = (l1[(q82[k]! : Int).toNat]!.Tag.Count)) ∧ ((l1[(la : Int).toNat]!.Tag.Client) = (l1[(q82[k]! : Int).toNat]!.Tag.Client))))) ∨ ((¬ (la < 0)) ∧ ((l1[(la : Int).toNat]!.Open) = true) ∧ ((l1[(la : Int).toNat]!.Open) = true) ∧ (¬ (((l1[(la : Int).toNat]!.Tag.Count) = 0) ∧ ((l1[(la : Int).toNat]!.Tag.Client) = 0))) ∧ (¬ (((l1[(la : Int).toNat]!.Tag.Count) = (l1[(q82[k]! : Int).toNat]!.Tag.Count)) ∧ ((l1[(la : Int).toNat]!.Tag.Client) = (l1[(q82[k]! : Int).toNat]!.Tag.Client)))))) ∧ List.map e393 [0, 9, 10, 84, 85, 86, 155] = [.slice s1.a s1.n s1.c, .slice (some ⟨g168, 0, none⟩) s1.n s1.n, .int .i64 la, .slice a80 q82.length c81, .int .i64 ((q82.length : Nat) : Int), .int .i64 (k : Int), .bool x391] ∧ Hp w Non [Res.row g231 [.int .i64 (l1[(q82[k]! : Int).toNat]!.Client), .int .i64 (l1[(q82[k]! : Int).toNat]!.Op), .bool (l1[(q82[k]! : Int).toNat]!.Put), .string (l1[(q82[k]! : Int).toNat]!.Key), .slice (l1[(q82[k]! : Int).toNat]!.Value.a) (l1[(q82[k]! : Int).toNat]!.Value.n) (l1[(q82[k]! : Int).toNat]!.Value.c), .int .i64 (l1[(q82[k]! : Int).toNat]!.Status), .int .i64 (l1[(q82[k]! : Int).toNat]!.From), .int .i64 (l1[(q82[k]! : Int).toNat]!.To), .bool (l1[(q82[k]! : Int).toNat]!.Open), .int .i64 (l1[(q82[k]! : Int).toNat]!.Tag.Count), .int .i64 (l1[(q82[k]! : Int).toNat]!.Tag.Client)] 73, Res.own 4 1 (.slice (some ⟨g168, 0, none⟩) s1.n s1.n) s1.n (List.flatMap (fun y => [.bool y]) (sl.set ((q82[k]! : Int).toNat) true)), Res.own 3 1 (.slice a80 q82.length c81) q82.length (List.flatMap (fun (y : Int) => [Go.Value.int .i64 y]) q82), Res.own 73 11 (.slice a67 n68 c69) n68 (List.flatMap GCall.cells cl70), Res.vc F72 cl70 bs71, Res.own 3 1 (.slice a52 (0 + s2.n) c53) (0 + s2.n) (List.flatMap (fun (y : Int) => [Go.Value.int .i64 y]) l2), Res.own 73 11 (.slice a38 n39 c40) n39 (List.flatMap GCall.cells cl41), Res.vc F43 cl41 bs42, Res.row g26 [.int .i64 1, .int .i64 0] 3, Res.row g17 [.int .i64 0, .int .i64 1] 3, Res.row g12 [.int .i64 0, .int .i64 0, .bool true, .string ByteArray.empty, .slice (some ⟨g4, 0, none⟩) 1 1, .int .i64 0, .int .i64 0, .int .i64 1, .bool false, .int .i64 1, .int .i64 1, .int .i64 0, .int .i64 0, .bool false, .string ByteArray.empty, .slice (some ⟨g8, 0, none⟩) 1 1, .int .i64 0, .int .i64 2, .int .i64 3, .bool false, .int .i64 1, .int .i64 1] 73, Res.row g8 [.int .u8 1] 5, Res.row g4 [.int .u8 1] 5] w394) ?_ ?_
                · have hp306 := hp233.drew
                  refine WP.quiet (fun w304 => Hp w Non [Res.row g231 [.int .i64 (l1[(q82[k]! : Int).toNat]!.Client), .int .i64 (l1[(q82[k]! : Int).toNat]!.Op), .bool (l1[(q82[k]! : Int).toNat]!.Put), .string (l1[(q82[k]! : Int).toNat]!.Key), .slice (l1[(q82[k]! : Int).toNat]!.Value.a) (l1[(q82[k]! : Int).toNat]!.Value.n) (l1[(q82[k]! : Int).toNat]!.Value.c), .int .i64 (l1[(q82[k]! : Int).toNat]!.Status), .int .i64 (l1[(q82[k]! : Int).toNat]!.From), .int .i64 (l1[(q82[k]! : Int).toNat]!.To), .bool (l1[(q82[k]! : Int).toNat]!.Open), .int .i64 (l1[(q82[k]! : Int).toNat]!.Tag.Count), .int .i64 (l1[(q82[k]! : Int).toNat]!.Tag.Client)] 73, Res.own 4 1 (.slice (some ⟨g168, 0, none⟩) s1.n s1.n) s1.n (List.flatMap (fun y => [.bool y]) (sl.set ((q82[k]! : Int).toNat) true)), Res.own 3 1 (.slice a80 q82.length c81) q82.length (List.flatMap (fun (y : Int) => [Go.Value.int .i64 y]) q82), Res.own 73 11 (.slice a67 n68 c69) n68 (List.flatMap GCall.cells cl70), Res.vc F72 cl70 bs71, Res.own 3 1 (.slice a52 (0 + s2.n) c53) (0 + s2.n) (List.flatMap (fun (y : Int) => [Go.Value.int .i64 y]) l2), Res.own 73 11 (.slice a38 n39 c40) n39 (List.flatMap GCall.cells cl41), Res.vc F43 cl41 bs42, Res.row g26 [.int .i64 1, .int .i64 0] 3, Res.row g17 [.int .i64 0, .int .i64 1] 3, Res.row g12 [.int .i64 0, .int .i64 0, .bool true, .string ByteArray.empty, .slice (some ⟨g4, 0, none⟩) 1 1, .int .i64 0, .int .i64 0, .int .i64 1, .bool false, .int .i64 1, .int .i64 1, .int .i64 0, .int .i64 0, .bool false, .string ByteArray.empty, .slice (some ⟨g8, 0, none⟩) 1 1, .int .i64 0, .int .i64 2, .int .i64 3, .bool false, .int .i64 1, .int .i64 1] 73, Res.row g8 [.int .u8 1] 5, Res.row g4 [.int .u8 1] 5] w304) (by kernel_rfl) hp306 ?_
                  have hnehp306 : ∃ wz_, (fun w304 => Hp w Non [Res.row g231 [.int .i64 (l1[(q82[k]! : Int).toNat]!.Client), .int .i64 (l1[(q82[k]! : Int).toNat]!.Op), .bool (l1[(q82[k]! : Int).toNat]!.Put), .string (l1[(q82[k]! : Int).toNat]!.Key), .slice (l1[(q82[k]! : Int).toNat]!.Value.a) (l1[(q82[k]! : Int).toNat]!.Value.n) (l1[(q82[k]! : Int).toNat]!.Value.c), .int .i64 (l1[(q82[k]! : Int).toNat]!.Status), .int .i64 (l1[(q82[k]! : Int).toNat]!.From), .int .i64 (l1[(q82[k]! : Int).toNat]!.To), .bool (l1[(q82[k]! : Int).toNat]!.Open), .int .i64 (l1[(q82[k]! : Int).toNat]!.Tag.Count), .int .i64 (l1[(q82[k]! : Int).toNat]!.Tag.Client)] 73, Res.own 4 1 (.slice (some ⟨g168, 0, none⟩) s1.n s1.n) s1.n (List.flatMap (fun y => [.bool y]) (sl.set ((q82[k]! : Int).toNat) true)), Res.own 3 1 (.slice a80 q82.length c81) q82.length (List.flatMap (fun (y : Int) => [Go.Value.int .i64 y]) q82), Res.own 73 11 (.slice a67 n68 c69) n68 (List.flatMap GCall.cells cl70), Res.vc F72 cl70 bs71, Res.own 3 1 (.slice a52 (0 + s2.n) c53) (0 + s2.n) (List.flatMap (fun (y : Int) => [Go.Value.int .i64 y]) l2), Res.own 73 11 (.slice a38 n39 c40) n39 (List.flatMap GCall.cells cl41), Res.vc F43 cl41 bs42, Res.row g26 [.int .i64 1, .int .i64 0] 3, Res.row g17 [.int .i64 0, .int .i64 1] 3, Res.row g12 [.int .i64 0, .int .i64 0, .bool true, .string ByteArray.empty, .slice (some ⟨g4, 0, none⟩) 1 1, .int .i64 0, .int .i64 0, .int .i64 1, .bool false, .int .i64 1, .int .i64 1, .int .i64 0, .int .i64 0, .bool false, .string ByteArray.empty, .slice (some ⟨g8, 0, none⟩) 1 1, .int .i64 0, .int .i64 2, .int .i64 3, .bool false, .int .i64 1, .int .i64 1] 73, Res.row g8 [.int .u8 1] 5, Res.row g4 [.int .u8 1] 5] w304) wz_ := ⟨_, hp306⟩
                  refine QOPS.batch 3 {} [] [0, 9, 10, 13, 84, 85, 86, 158] [.slice s1.a s1.n s1.c, .slice (some ⟨g168, 0, none⟩) s1.n s1.n, .int .i64 la, .pointer (some ⟨g231, 0, none⟩), .slice a80 q82.length c81, .int .i64 ((q82.length : Nat) : Int), .int .i64 (k : Int), .bool (decide (la < 0))] hnehp306 (fun w307 hp308 => QB.mk .nil (by kernel_rfl)) (fun b309 => ?_)
                  by_cases h310 : la < 0
                  · refine QOPS.batch 0 {} [] [0, 9, 10, 13, 84, 85, 86, 158] [.slice s1.a s1.n s1.c, .slice (some ⟨g168, 0, none⟩) s1.n s1.n, .int .i64 la, .pointer (some ⟨g231, 0, none⟩), .slice a80 q82.length c81, .int .i64 ((q82.length : Nat) : Int), .int .i64 (k : Int), .bool (decide (la < 0))] hnehp306 (fun _ _ => QB.mk .nil (by kernel_rfl)) (fun b311 => ?_)
                    refine QOPS.re [.slice s1.a s1.n s1.c, .slice (some ⟨g168, 0, none⟩) s1.n s1.n, .int .i64 la, .pointer (some ⟨g231, 0, none⟩), .slice a80 q82.length c81, .int .i64 ((q82.length : Nat) : Int), .int .i64 (k : Int), .bool true] (by rw [show (decide (la < 0)) = true from Bp.dec.tt h310]) ?_
                    refine QOPS.batch 44 { wraps := [175, 201] } [] [0, 9, 10, 84, 85, 86, 155] [.slice s1.a s1.n s1.c, .slice (some ⟨g168, 0, none⟩) s1.n s1.n, .int .i64 la, .slice a80 q82.length c81, .int .i64 ((q82.length : Nat) : Int), .int .i64 (k : Int), .bool true] hnehp306 (fun w312 hp313 => QB.mk .nil (by kernel_rfl)) (fun b314 => ?_)
                    refine QOPS.nil (fun w315 hp316 => ?_)
                    refine thn_n ?_
                    exact ⟨true, trivial, Bp.of Bp.t (by first | (simp only [h310, iff_false, false_iff, iff_true, true_iff, Classical.not_not, and_true, true_and, and_false, false_and, or_true, true_or, or_false, false_or, not_true_eq_false, not_false_eq_true, and_self, or_self, iff_self]; done) | (simp [h310]; done) | grind | (simp_all; done)), by kernel_rfl, hp316⟩
                  · refine QOPS.batch 0 {} [] [0, 9, 10, 13, 84, 85, 86, 158] [.slice s1.a s1.n s1.c, .slice (some ⟨g168, 0, none⟩) s1.n s1.n, .int .i64 la, .pointer (some ⟨g231, 0, none⟩), .slice a80 q82.length c81, .int .i64 ((q82.length : Nat) : Int), .int .i64 (k : Int), .bool (decide (la < 0))] hnehp306 (fun _ _ => QB.mk .nil (by kernel_rfl)) (fun b317 => ?_)
                    refine QOPS.re [.slice s1.a s1.n s1.c, .slice (some ⟨g168, 0, none⟩) s1.n s1.n, .int .i64 la, .pointer (some ⟨g231, 0, none⟩), .slice a80 q82.length c81, .int .i64 ((q82.length : Nat) : Int), .int .i64 (k : Int), .bool false] (by rw [show (decide (la < 0)) = false from Bp.dec.ff h310]) ?_
                    have hy321 : (l1)[(la : Int).toNat]? = some l1[(la : Int).toNat]! := get_bang (by first | (omega) | (simp only [List.length_append, List.length_cons, List.length_nil]; omega) | (simp only [List.length_take, List.length_append, List.length_cons, List.length_nil]; omega))
                    refine QOPS.batch 7 {} [.bool (l1[(la : Int).toNat]!.Open)] [0, 9, 10, 13, 84, 85, 86, 158, 165] [.slice s1.a s1.n s1.c, .slice (some ⟨g168, 0, none⟩) s1.n s1.n, .int .i64 la, .pointer (some ⟨g231, 0, none⟩), .slice a80 q82.length c81, .int .i64 ((q82.length : Nat) : Int), .int .i64 (k : Int), .bool false, .bool (!(l1[(la : Int).toNat]!.Open))] hnehp306 (fun w318 hp319 => QB.mk (.cons (show InB (la) (s1.n) from ⟨by omega, by omega⟩) (.cons ((o1.rd.at hp319).some (by omega)) (.cons (Ld.el1 (P := Try.prog) (t := 4) (o1.rd.at hp319).rd 11 (fun _ => rfl) hy321 (o := 8) (v := .bool (l1[(la : Int).toNat]!.Open)) (by kernel_rfl)) .nil))) (by kernel_rfl)) (fun b322 => ?_)
                    by_cases h323 : (l1[(la : Int).toNat]!.Open) = true
                    · refine QOPS.batch 0 {} [] [0, 9, 10, 13, 84, 85, 86, 158, 165] [.slice s1.a s1.n s1.c, .slice (some ⟨g168, 0, none⟩) s1.n s1.n, .int .i64 la, .pointer (some ⟨g231, 0, none⟩), .slice a80 q82.length c81, .int .i64 ((q82.length : Nat) : Int), .int .i64 (k : Int), .bool false, .bool (!(l1[(la : Int).toNat]!.Open))] hnehp306 (fun _ _ => QB.mk .nil (by kernel_rfl)) (fun b363 => ?_)
                      refine QOPS.re [.slice s1.a s1.n s1.c, .slice (some ⟨g168, 0, none⟩) s1.n s1.n, .int .i64 la, .pointer (some ⟨g231, 0, none⟩), .slice a80 q82.length c81, .int .i64 ((q82.length : Nat) : Int), .int .i64 (k : Int), .bool false, .bool false] (by rw [show (!(l1[(la : Int).toNat]!.Open)) = false from (Bp.not Bp.var).ff (fun k => k h323)]) ?_
                      refine QOPS.batch 17 { wraps := [174, 175] } [.bool (l1[(la : Int).toNat]!.Open)] [0, 9, 10, 13, 84, 85, 86, 176, 182] [.slice s1.a s1.n s1.c, .slice (some ⟨g168, 0, none⟩) s1.n s1.n, .int .i64 la, .pointer (some ⟨g231, 0, none⟩), .slice a80 q82.length c81, .int .i64 ((q82.length : Nat) : Int), .int .i64 (k : Int), .bool false, .bool (l1[(la : Int).toNat]!.Open)] hnehp306 (fun w364 hp365 => QB.mk (.cons (show InB (la) (s1.n) from ⟨by omega, by omega⟩) (.cons ((o1.rd.at hp365).some (by omega)) (.cons (Ld.el1 (P := Try.prog) (t := 4) (o1.rd.at hp365).rd 11 (fun _ => rfl) hy321 (o := 8) (v := .bool (l1[(la : Int).toNat]!.Open)) (by kernel_rfl)) .nil))) (by kernel_rfl)) (fun b366 => ?_)
                      by_cases h367 : (l1[(la : Int).toNat]!.Open) = true
                      · refine QOPS.batch 0 {} [] [0, 9, 10, 13, 84, 85, 86, 176, 182] [.slice s1.a s1.n s1.c, .slice (some ⟨g168, 0, none⟩) s1.n s1.n, .int .i64 la, .pointer (some ⟨g231, 0, none⟩), .slice a80 q82.length c81, .int .i64 ((q82.length : Nat) : Int), .int .i64 (k : Int), .bool false, .bool (l1[(la : Int).toNat]!.Open)] hnehp306 (fun _ _ => QB.mk .nil (by kernel_rfl)) (fun b368 => ?_)
                        refine QOPS.re [.slice s1.a s1.n s1.c, .slice (some ⟨g168, 0, none⟩) s1.n s1.n, .int .i64 la, .pointer (some ⟨g231, 0, none⟩), .slice a80 q82.length c81, .int .i64 ((q82.length : Nat) : Int), .int .i64 (k : Int), .bool false, .bool true] (by rw [show (l1[(la : Int).toNat]!.Open) = true from Bp.var.tt h367]) ?_
                        refine QOPS.batch 9 { wraps := [190] } [.agg #[.int .i64 (l1[(la : Int).toNat]!.Tag.Count), .int .i64 (l1[(la : Int).toNat]!.Tag.Client)]] [0, 9, 10, 13, 84, 85, 86, 176, 191] [.slice s1.a s1.n s1.c, .slice (some ⟨g168, 0, none⟩) s1.n s1.n, .int .i64 la, .pointer (some ⟨g231, 0, none⟩), .slice a80 q82.length c81, .int .i64 ((q82.length : Nat) : Int), .int .i64 (k : Int), .bool false, .bool (!((decide ((l1[(la : Int).toNat]!.Tag.Count) = 0)) && ((decide ((l1[(la : Int).toNat]!.Tag.Client) = 0)) && true)))] hnehp306 (fun w369 hp370 => QB.mk (.cons (show InB (la) (s1.n) from ⟨by omega, by omega⟩) (.cons ((o1.rd.at hp370).some (by omega)) (.cons (Ld.elN (P := Try.prog) (t := 70) (o1.rd.at hp370).rd 11 (fun _ => rfl) hy321 (o := 9) (cs := [.int .i64 (l1[(la : Int).toNat]!.Tag.Count), .int .i64 (l1[(la : Int).toNat]!.Tag.Client)]) (by kernel_rfl)) .nil))) (by kernel_rfl)) (fun b371 => ?_)
                        by_cases h372 : ((l1[(la : Int).toNat]!.Tag.Count) = 0) ∧ ((l1[(la : Int).toNat]!.Tag.Client) = 0)
                        · refine QOPS.batch 0 {} [] [0, 9, 10, 13, 84, 85, 86, 176, 191] [.slice s1.a s1.n s1.c, .slice (some ⟨g168, 0, none⟩) s1.n s1.n, .int .i64 la, .pointer (some ⟨g231, 0, none⟩), .slice a80 q82.length c81, .int .i64 ((q82.length : Nat) : Int), .int .i64 (k : Int), .bool false, .bool (!((decide ((l1[(la : Int).toNat]!.Tag.Count) = 0)) && ((decide ((l1[(la : Int).toNat]!.Tag.Client) = 0)) && true)))] hnehp306 (fun _ _ => QB.mk .nil (by kernel_rfl)) (fun b379 => ?_)
                          refine QOPS.re [.slice s1.a s1.n s1.c, .slice (some ⟨g168, 0, none⟩) s1.n s1.n, .int .i64 la, .pointer (some ⟨g231, 0, none⟩), .slice a80 q82.length c81, .int .i64 ((q82.length : Nat) : Int), .int .i64 (k : Int), .bool false, .bool false] (by rw [show (!((decide ((l1[(la : Int).toNat]!.Tag.Count) = 0)) && ((decide ((l1[(la : Int).toNat]!.Tag.Client) = 0)) && true))) = false from (Bp.not (Bp.band Bp.dec (Bp.band1 Bp.dec))).ff (fun k => k h372)]) ?_
                          refine QOPS.batch 11 { wraps := [200, 201] } [] [0, 9, 10, 84, 85, 86, 155] [.slice s1.a s1.n s1.c, .slice (some ⟨g168, 0, none⟩) s1.n s1.n, .int .i64 la, .slice a80 q82.length c81, .int .i64 ((q82.length : Nat) : Int), .int .i64 (k : Int), .bool false] hnehp306 (fun w380 hp381 => QB.mk .nil (by kernel_rfl)) (fun b382 => ?_)
                          refine QOPS.nil (fun w383 hp384 => ?_)
                          refine thn_n ?_
                          exact ⟨false, trivial, Bp.of Bp.f (by first | (simp only [h310, h323, h367, h372, iff_false, false_iff, iff_true, true_iff, Classical.not_not, and_true, true_and, and_false, false_and, or_true, true_or, or_false, false_or, not_true_eq_false, not_false_eq_true, and_self, or_self, iff_self]; done) | (simp [h310, h323, h367, h372]; done) | grind | (simp_all; done)), by kernel_rfl, hp384⟩
                        · refine QOPS.batch 0 {} [] [0, 9, 10, 13, 84, 85, 86, 176, 191] [.slice s1.a s1.n s1.c, .slice (some ⟨g168, 0, none⟩) s1.n s1.n, .int .i64 la, .pointer (some ⟨g231, 0, none⟩), .slice a80 q82.length c81, .int .i64 ((q82.length : Nat) : Int), .int .i64 (k : Int), .bool false, .bool (!((decide ((l1[(la : Int).toNat]!.Tag.Count) = 0)) && ((decide ((l1[(la : Int).toNat]!.Tag.Client) = 0)) && true)))] hnehp306 (fun _ _ => QB.mk .nil (by kernel_rfl)) (fun b373 => ?_)
                          refine QOPS.re [.slice s1.a s1.n s1.c, .slice (some ⟨g168, 0, none⟩) s1.n s1.n, .int .i64 la, .pointer (some ⟨g231, 0, none⟩), .slice a80 q82.length c81, .int .i64 ((q82.length : Nat) : Int), .int .i64 (k : Int), .bool false, .bool true] (by rw [show (!((decide ((l1[(la : Int).toNat]!.Tag.Count) = 0)) && ((decide ((l1[(la : Int).toNat]!.Tag.Client) = 0)) && true))) = true from (Bp.not (Bp.band Bp.dec (Bp.band1 Bp.dec))).tt h372]) ?_
                          refine QOPS.batch 11 { wraps := [200, 201] } [.agg #[.int .i64 (l1[(la : Int).toNat]!.Tag.Count), .int .i64 (l1[(la : Int).toNat]!.Tag.Client)], .agg #[.int .i64 (l1[(q82[k]! : Int).toNat]!.Tag.Count), .int .i64 (l1[(q82[k]! : Int).toNat]!.Tag.Client)]] [0, 9, 10, 84, 85, 86, 155] [.slice s1.a s1.n s1.c, .slice (some ⟨g168, 0, none⟩) s1.n s1.n, .int .i64 la, .slice a80 q82.length c81, .int .i64 ((q82.length : Nat) : Int), .int .i64 (k : Int), .bool (!((decide ((l1[(la : Int).toNat]!.Tag.Count) = (l1[(q82[k]! : Int).toNat]!.Tag.Count))) && ((decide ((l1[(la : Int).toNat]!.Tag.Client) = (l1[(q82[k]! : Int).toNat]!.Tag.Client))) && true)))] hnehp306 (fun w374 hp375 => QB.mk (.cons (show InB (la) (s1.n) from ⟨by omega, by omega⟩) (.cons ((o1.rd.at hp375).some (by omega)) (.cons (Ld.elN (P := Try.prog) (t := 70) (o1.rd.at hp375).rd 11 (fun _ => rfl) hy321 (o := 9) (cs := [.int .i64 (l1[(la : Int).toNat]!.Tag.Count), .int .i64 (l1[(la : Int).toNat]!.Tag.Client)]) (by kernel_rfl)) (.cons (show Ld Try.prog w374 70 ⟨g231, 9, none⟩ (.agg #[.int .i64 (l1[(q82[k]! : Int).toNat]!.Tag.Count), .int .i64 (l1[(q82[k]! : Int).toNat]!.Tag.Client)]) from Ld.rowN (cs := [.int .i64 (l1[(q82[k]! : Int).toNat]!.Tag.Count), .int .i64 (l1[(q82[k]! : Int).toNat]!.Tag.Client)]) hp375.get0 (by kernel_rfl)) .nil)))) (by kernel_rfl)) (fun b376 => ?_)
                          refine QOPS.nil (fun w377 hp378 => ?_)
                          refine thn_n ?_
                          exact ⟨!((decide ((l1[(la : Int).toNat]!.Tag.Count) = (l1[(q82[k]! : Int).toNat]!.Tag.Count))) && ((decide ((l1[(la : Int).toNat]!.Tag.Client) = (l1[(q82[k]! : Int).toNat]!.Tag.Client))) && true)), trivial, Bp.of (Bp.not (Bp.band Bp.dec (Bp.band1 Bp.dec))) (by first | (simp only [h310, h323, h367, h372, iff_false, false_iff, iff_true, true_iff, Classical.not_not, and_true, true_and, and_false, false_and, or_true, true_or, or_false, false_or, not_true_eq_false, not_false_eq_true, and_self, or_self, iff_self]; done) | (simp [h310, h323, h367, h372]; done) | grind | (simp_all; done)), by kernel_rfl, hp378⟩
                      · refine QOPS.batch 0 {} [] [0, 9, 10, 13, 84, 85, 86, 176, 182] [.slice s1.a s1.n s1.c, .slice (some ⟨g168, 0, none⟩) s1.n s1.n, .int .i64 la, .pointer (some ⟨g231, 0, none⟩), .slice a80 q82.length c81, .int .i64 ((q82.length : Nat) : Int), .int .i64 (k : Int), .bool false, .bool (l1[(la : Int).toNat]!.Open)] hnehp306 (fun _ _ => QB.mk .nil (by kernel_rfl)) (fun b385 => ?_)
                        refine QOPS.re [.slice s1.a s1.n s1.c, .slice (some ⟨g168, 0, none⟩) s1.n s1.n, .int .i64 la, .pointer (some ⟨g231, 0, none⟩), .slice a80 q82.length c81, .int .i64 ((q82.length : Nat) : Int), .int .i64 (k : Int), .bool false, .bool false] (by rw [show (l1[(la : Int).toNat]!.Open) = false from Bp.var.ff h367]) ?_
                        refine QOPS.batch 20 { wraps := [190, 200, 201] } [] [0, 9, 10, 84, 85, 86, 155] [.slice s1.a s1.n s1.c, .slice (some ⟨g168, 0, none⟩) s1.n s1.n, .int .i64 la, .slice a80 q82.length c81, .int .i64 ((q82.length : Nat) : Int), .int .i64 (k : Int), .bool false] hnehp306 (fun w386 hp387 => QB.mk .nil (by kernel_rfl)) (fun b388 => ?_)
                        refine QOPS.nil (fun w389 hp390 => ?_)
                        refine thn_n ?_
                        exact ⟨false, trivial, Bp.of Bp.f (by first | (simp only [h310, h323, h367, iff_false, false_iff, iff_true, true_iff, Classical.not_not, and_true, true_and, and_false, false_and, or_true, true_or, or_false, false_or, not_true_eq_false, not_false_eq_true, and_self, or_self, iff_self]; done) | (simp [h310, h323, h367]; done) | grind | (simp_all; done)), by kernel_rfl, hp390⟩
                    · refine QOPS.batch 0 {} [] [0, 9, 10, 13, 84, 85, 86, 158, 165] [.slice s1.a s1.n s1.c, .slice (some ⟨g168, 0, none⟩) s1.n s1.n, .int .i64 la, .pointer (some ⟨g231, 0, none⟩), .slice a80 q82.length c81, .int .i64 ((q82.length : Nat) : Int), .int .i64 (k : Int), .bool false, .bool (!(l1[(la : Int).toNat]!.Open))] hnehp306 (fun _ _ => QB.mk .nil (by kernel_rfl)) (fun b324 => ?_)
                      refine QOPS.re [.slice s1.a s1.n s1.c, .slice (some ⟨g168, 0, none⟩) s1.n s1.n, .int .i64 la, .pointer (some ⟨g231, 0, none⟩), .slice a80 q82.length c81, .int .i64 ((q82.length : Nat) : Int), .int .i64 (k : Int), .bool false, .bool true] (by rw [show (!(l1[(la : Int).toNat]!.Open)) = true from (Bp.not Bp.var).tt h323]) ?_
                      refine QOPS.batch 11 { wraps := [174, 175] } [.agg #[.int .i64 (l1[(la : Int).toNat]!.Tag.Count), .int .i64 (l1[(la : Int).toNat]!.Tag.Client)], .agg #[.int .i64 (l1[(q82[k]! : Int).toNat]!.Tag.Count), .int .i64 (l1[(q82[k]! : Int).toNat]!.Tag.Client)]] [0, 9, 10, 13, 84, 85, 86, 176] [.slice s1.a s1.n s1.c, .slice (some ⟨g168, 0, none⟩) s1.n s1.n, .int .i64 la, .pointer (some ⟨g231, 0, none⟩), .slice a80 q82.length c81, .int .i64 ((q82.length : Nat) : Int), .int .i64 (k : Int), .bool (!((decide ((l1[(la : Int).toNat]!.Tag.Count) = (l1[(q82[k]! : Int).toNat]!.Tag.Count))) && ((decide ((l1[(la : Int).toNat]!.Tag.Client) = (l1[(q82[k]! : Int).toNat]!.Tag.Client))) && true)))] hnehp306 (fun w325 hp326 => QB.mk (.cons (show InB (la) (s1.n) from ⟨by omega, by omega⟩) (.cons ((o1.rd.at hp326).some (by omega)) (.cons (Ld.elN (P := Try.prog) (t := 70) (o1.rd.at hp326).rd 11 (fun _ => rfl) hy321 (o := 9) (cs := [.int .i64 (l1[(la : Int).toNat]!.Tag.Count), .int .i64 (l1[(la : Int).toNat]!.Tag.Client)]) (by kernel_rfl)) (.cons (show Ld Try.prog w325 70 ⟨g231, 9, none⟩ (.agg #[.int .i64 (l1[(q82[k]! : Int).toNat]!.Tag.Count), .int .i64 (l1[(q82[k]! : Int).toNat]!.Tag.Client)]) from Ld.rowN (cs := [.int .i64 (l1[(q82[k]! : Int).toNat]!.Tag.Count), .int .i64 (l1[(q82[k]! : Int).toNat]!.Tag.Client)]) hp326.get0 (by kernel_rfl)) .nil)))) (by kernel_rfl)) (fun b327 => ?_)
                      by_cases h328 : ((l1[(la : Int).toNat]!.Tag.Count) = (l1[(q82[k]! : Int).toNat]!.Tag.Count)) ∧ ((l1[(la : Int).toNat]!.Tag.Client) = (l1[(q82[k]! : Int).toNat]!.Tag.Client))
                      · refine QOPS.batch 0 {} [] [0, 9, 10, 13, 84, 85, 86, 176] [.slice s1.a s1.n s1.c, .slice (some ⟨g168, 0, none⟩) s1.n s1.n, .int .i64 la, .pointer (some ⟨g231, 0, none⟩), .slice a80 q82.length c81, .int .i64 ((q82.length : Nat) : Int), .int .i64 (k : Int), .bool (!((decide ((l1[(la : Int).toNat]!.Tag.Count) = (l1[(q82[k]! : Int).toNat]!.Tag.Count))) && ((decide ((l1[(la : Int).toNat]!.Tag.Client) = (l1[(q82[k]! : Int).toNat]!.Tag.Client))) && true)))] hnehp306 (fun _ _ => QB.mk .nil (by kernel_rfl)) (fun b335 => ?_)
                        refine QOPS.re [.slice s1.a s1.n s1.c, .slice (some ⟨g168, 0, none⟩) s1.n s1.n, .int .i64 la, .pointer (some ⟨g231, 0, none⟩), .slice a80 q82.length c81, .int .i64 ((q82.length : Nat) : Int), .int .i64 (k : Int), .bool false] (by rw [show (!((decide ((l1[(la : Int).toNat]!.Tag.Count) = (l1[(q82[k]! : Int).toNat]!.Tag.Count))) && ((decide ((l1[(la : Int).toNat]!.Tag.Client) = (l1[(q82[k]! : Int).toNat]!.Tag.Client))) && true))) = false from (Bp.not (Bp.band Bp.dec (Bp.band1 Bp.dec))).ff (fun k => k h328)]) ?_
                        refine QOPS.batch 6 {} [.bool (l1[(la : Int).toNat]!.Open)] [0, 9, 10, 13, 84, 85, 86, 176, 182] [.slice s1.a s1.n s1.c, .slice (some ⟨g168, 0, none⟩) s1.n s1.n, .int .i64 la, .pointer (some ⟨g231, 0, none⟩), .slice a80 q82.length c81, .int .i64 ((q82.length : Nat) : Int), .int .i64 (k : Int), .bool false, .bool (l1[(la : Int).toNat]!.Open)] hnehp306 (fun w336 hp337 => QB.mk (.cons (show InB (la) (s1.n) from ⟨by omega, by omega⟩) (.cons ((o1.rd.at hp337).some (by omega)) (.cons (Ld.el1 (P := Try.prog) (t := 4) (o1.rd.at hp337).rd 11 (fun _ => rfl) hy321 (o := 8) (v := .bool (l1[(la : Int).toNat]!.Open)) (by kernel_rfl)) .nil))) (by kernel_rfl)) (fun b338 => ?_)
                        by_cases h339 : (l1[(la : Int).toNat]!.Open) = true
                        · refine QOPS.batch 0 {} [] [0, 9, 10, 13, 84, 85, 86, 176, 182] [.slice s1.a s1.n s1.c, .slice (some ⟨g168, 0, none⟩) s1.n s1.n, .int .i64 la, .pointer (some ⟨g231, 0, none⟩), .slice a80 q82.length c81, .int .i64 ((q82.length : Nat) : Int), .int .i64 (k : Int), .bool false, .bool (l1[(la : Int).toNat]!.Open)] hnehp306 (fun _ _ => QB.mk .nil (by kernel_rfl)) (fun b340 => ?_)
                          refine QOPS.re [.slice s1.a s1.n s1.c, .slice (some ⟨g168, 0, none⟩) s1.n s1.n, .int .i64 la, .pointer (some ⟨g231, 0, none⟩), .slice a80 q82.length c81, .int .i64 ((q82.length : Nat) : Int), .int .i64 (k : Int), .bool false, .bool true] (by rw [show (l1[(la : Int).toNat]!.Open) = true from Bp.var.tt h339]) ?_
                          refine QOPS.batch 9 { wraps := [190] } [.agg #[.int .i64 (l1[(la : Int).toNat]!.Tag.Count), .int .i64 (l1[(la : Int).toNat]!.Tag.Client)]] [0, 9, 10, 13, 84, 85, 86, 176, 191] [.slice s1.a s1.n s1.c, .slice (some ⟨g168, 0, none⟩) s1.n s1.n, .int .i64 la, .pointer (some ⟨g231, 0, none⟩), .slice a80 q82.length c81, .int .i64 ((q82.length : Nat) : Int), .int .i64 (k : Int), .bool false, .bool (!((decide ((l1[(la : Int).toNat]!.Tag.Count) = 0)) && ((decide ((l1[(la : Int).toNat]!.Tag.Client) = 0)) && true)))] hnehp306 (fun w341 hp342 => QB.mk (.cons (show InB (la) (s1.n) from ⟨by omega, by omega⟩) (.cons ((o1.rd.at hp342).some (by omega)) (.cons (Ld.elN (P := Try.prog) (t := 70) (o1.rd.at hp342).rd 11 (fun _ => rfl) hy321 (o := 9) (cs := [.int .i64 (l1[(la : Int).toNat]!.Tag.Count), .int .i64 (l1[(la : Int).toNat]!.Tag.Client)]) (by kernel_rfl)) .nil))) (by kernel_rfl)) (fun b343 => ?_)
                          by_cases h344 : ((l1[(la : Int).toNat]!.Tag.Count) = 0) ∧ ((l1[(la : Int).toNat]!.Tag.Client) = 0)
                          · refine QOPS.batch 0 {} [] [0, 9, 10, 13, 84, 85, 86, 176, 191] [.slice s1.a s1.n s1.c, .slice (some ⟨g168, 0, none⟩) s1.n s1.n, .int .i64 la, .pointer (some ⟨g231, 0, none⟩), .slice a80 q82.length c81, .int .i64 ((q82.length : Nat) : Int), .int .i64 (k : Int), .bool false, .bool (!((decide ((l1[(la : Int).toNat]!.Tag.Count) = 0)) && ((decide ((l1[(la : Int).toNat]!.Tag.Client) = 0)) && true)))] hnehp306 (fun _ _ => QB.mk .nil (by kernel_rfl)) (fun b351 => ?_)
                            refine QOPS.re [.slice s1.a s1.n s1.c, .slice (some ⟨g168, 0, none⟩) s1.n s1.n, .int .i64 la, .pointer (some ⟨g231, 0, none⟩), .slice a80 q82.length c81, .int .i64 ((q82.length : Nat) : Int), .int .i64 (k : Int), .bool false, .bool false] (by rw [show (!((decide ((l1[(la : Int).toNat]!.Tag.Count) = 0)) && ((decide ((l1[(la : Int).toNat]!.Tag.Client) = 0)) && true))) = false from (Bp.not (Bp.band Bp.dec (Bp.band1 Bp.dec))).ff (fun k => k h344)]) ?_
                            refine QOPS.batch 11 { wraps := [200, 201] } [] [0, 9, 10, 84, 85, 86, 155] [.slice s1.a s1.n s1.c, .slice (some ⟨g168, 0, none⟩) s1.n s1.n, .int .i64 la, .slice a80 q82.length c81, .int .i64 ((q82.length : Nat) : Int), .int .i64 (k : Int), .bool false] hnehp306 (fun w352 hp353 => QB.mk .nil (by kernel_rfl)) (fun b354 => ?_)
                            refine QOPS.nil (fun w355 hp356 => ?_)
                            refine thn_n ?_
                            exact ⟨false, trivial, Bp.of Bp.f (by first | (simp only [h310, h323, h328, h339, h344, iff_false, false_iff, iff_true, true_iff, Classical.not_not, and_true, true_and, and_false, false_and, or_true, true_or, or_false, false_or, not_true_eq_false, not_false_eq_true, and_self, or_self, iff_self]; done) | (simp [h310, h323, h328, h339, h344]; done) | grind | (simp_all; done)), by kernel_rfl, hp356⟩
                          · refine QOPS.batch 0 {} [] [0, 9, 10, 13, 84, 85, 86, 176, 191] [.slice s1.a s1.n s1.c, .slice (some ⟨g168, 0, none⟩) s1.n s1.n, .int .i64 la, .pointer (some ⟨g231, 0, none⟩), .slice a80 q82.length c81, .int .i64 ((q82.length : Nat) : Int), .int .i64 (k : Int), .bool false, .bool (!((decide ((l1[(la : Int).toNat]!.Tag.Count) = 0)) && ((decide ((l1[(la : Int).toNat]!.Tag.Client) = 0)) && true)))] hnehp306 (fun _ _ => QB.mk .nil (by kernel_rfl)) (fun b345 => ?_)
                            refine QOPS.re [.slice s1.a s1.n s1.c, .slice (some ⟨g168, 0, none⟩) s1.n s1.n, .int .i64 la, .pointer (some ⟨g231, 0, none⟩), .slice a80 q82.length c81, .int .i64 ((q82.length : Nat) : Int), .int .i64 (k : Int), .bool false, .bool true] (by rw [show (!((decide ((l1[(la : Int).toNat]!.Tag.Count) = 0)) && ((decide ((l1[(la : Int).toNat]!.Tag.Client) = 0)) && true))) = true from (Bp.not (Bp.band Bp.dec (Bp.band1 Bp.dec))).tt h344]) ?_
                            refine QOPS.batch 11 { wraps := [200, 201] } [.agg #[.int .i64 (l1[(la : Int).toNat]!.Tag.Count), .int .i64 (l1[(la : Int).toNat]!.Tag.Client)], .agg #[.int .i64 (l1[(q82[k]! : Int).toNat]!.Tag.Count), .int .i64 (l1[(q82[k]! : Int).toNat]!.Tag.Client)]] [0, 9, 10, 84, 85, 86, 155] [.slice s1.a s1.n s1.c, .slice (some ⟨g168, 0, none⟩) s1.n s1.n, .int .i64 la, .slice a80 q82.length c81, .int .i64 ((q82.length : Nat) : Int), .int .i64 (k : Int), .bool (!((decide ((l1[(la : Int).toNat]!.Tag.Count) = (l1[(q82[k]! : Int).toNat]!.Tag.Count))) && ((decide ((l1[(la : Int).toNat]!.Tag.Client) = (l1[(q82[k]! : Int).toNat]!.Tag.Client))) && true)))] hnehp306 (fun w346 hp347 => QB.mk (.cons (show InB (la) (s1.n) from ⟨by omega, by omega⟩) (.cons ((o1.rd.at hp347).some (by omega)) (.cons (Ld.elN (P := Try.prog) (t := 70) (o1.rd.at hp347).rd 11 (fun _ => rfl) hy321 (o := 9) (cs := [.int .i64 (l1[(la : Int).toNat]!.Tag.Count), .int .i64 (l1[(la : Int).toNat]!.Tag.Client)]) (by kernel_rfl)) (.cons (show Ld Try.prog w346 70 ⟨g231, 9, none⟩ (.agg #[.int .i64 (l1[(q82[k]! : Int).toNat]!.Tag.Count), .int .i64 (l1[(q82[k]! : Int).toNat]!.Tag.Client)]) from Ld.rowN (cs := [.int .i64 (l1[(q82[k]! : Int).toNat]!.Tag.Count), .int .i64 (l1[(q82[k]! : Int).toNat]!.Tag.Client)]) hp347.get0 (by kernel_rfl)) .nil)))) (by kernel_rfl)) (fun b348 => ?_)
                            refine QOPS.nil (fun w349 hp350 => ?_)
                            refine thn_n ?_
                            exact ⟨!((decide ((l1[(la : Int).toNat]!.Tag.Count) = (l1[(q82[k]! : Int).toNat]!.Tag.Count))) && ((decide ((l1[(la : Int).toNat]!.Tag.Client) = (l1[(q82[k]! : Int).toNat]!.Tag.Client))) && true)), trivial, Bp.of (Bp.not (Bp.band Bp.dec (Bp.band1 Bp.dec))) (by first | (simp only [h310, h323, h328, h339, h344, iff_false, false_iff, iff_true, true_iff, Classical.not_not, and_true, true_and, and_false, false_and, or_true, true_or, or_false, false_or, not_true_eq_false, not_false_eq_true, and_self, or_self, iff_self]; done) | (simp [h310, h323, h328, h339, h344]; done) | grind | (simp_all; done)), by kernel_rfl, hp350⟩
                        · refine QOPS.batch 0 {} [] [0, 9, 10, 13, 84, 85, 86, 176, 182] [.slice s1.a s1.n s1.c, .slice (some ⟨g168, 0, none⟩) s1.n s1.n, .int .i64 la, .pointer (some ⟨g231, 0, none⟩), .slice a80 q82.length c81, .int .i64 ((q82.length : Nat) : Int), .int .i64 (k : Int), .bool false, .bool (l1[(la : Int).toNat]!.Open)] hnehp306 (fun _ _ => QB.mk .nil (by kernel_rfl)) (fun b357 => ?_)
                          refine QOPS.re [.slice s1.a s1.n s1.c, .slice (some ⟨g168, 0, none⟩) s1.n s1.n, .int .i64 la, .pointer (some ⟨g231, 0, none⟩), .slice a80 q82.length c81, .int .i64 ((q82.length : Nat) : Int), .int .i64 (k : Int), .bool false, .bool false] (by rw [show (l1[(la : Int).toNat]!.Open) = false from Bp.var.ff h339]) ?_
                          refine QOPS.batch 20 { wraps := [190, 200, 201] } [] [0, 9, 10, 84, 85, 86, 155] [.slice s1.a s1.n s1.c, .slice (some ⟨g168, 0, none⟩) s1.n s1.n, .int .i64 la, .slice a80 q82.length c81, .int .i64 ((q82.length : Nat) : Int), .int .i64 (k : Int), .bool false] hnehp306 (fun w358 hp359 => QB.mk .nil (by kernel_rfl)) (fun b360 => ?_)
                          refine QOPS.nil (fun w361 hp362 => ?_)
                          refine thn_n ?_
                          exact ⟨false, trivial, Bp.of Bp.f (by first | (simp only [h310, h323, h328, h339, iff_false, false_iff, iff_true, true_iff, Classical.not_not, and_true, true_and, and_false, false_and, or_true, true_or, or_false, false_or, not_true_eq_false, not_false_eq_true, and_self, or_self, iff_self]; done) | (simp [h310, h323, h328, h339]; done) | grind | (simp_all; done)), by kernel_rfl, hp362⟩
                      · refine QOPS.batch 0 {} [] [0, 9, 10, 13, 84, 85, 86, 176] [.slice s1.a s1.n s1.c, .slice (some ⟨g168, 0, none⟩) s1.n s1.n, .int .i64 la, .pointer (some ⟨g231, 0, none⟩), .slice a80 q82.length c81, .int .i64 ((q82.length : Nat) : Int), .int .i64 (k : Int), .bool (!((decide ((l1[(la : Int).toNat]!.Tag.Count) = (l1[(q82[k]! : Int).toNat]!.Tag.Count))) && ((decide ((l1[(la : Int).toNat]!.Tag.Client) = (l1[(q82[k]! : Int).toNat]!.Tag.Client))) && true)))] hnehp306 (fun _ _ => QB.mk .nil (by kernel_rfl)) (fun b329 => ?_)
                        refine QOPS.re [.slice s1.a s1.n s1.c, .slice (some ⟨g168, 0, none⟩) s1.n s1.n, .int .i64 la, .pointer (some ⟨g231, 0, none⟩), .slice a80 q82.length c81, .int .i64 ((q82.length : Nat) : Int), .int .i64 (k : Int), .bool true] (by rw [show (!((decide ((l1[(la : Int).toNat]!.Tag.Count) = (l1[(q82[k]! : Int).toNat]!.Tag.Count))) && ((decide ((l1[(la : Int).toNat]!.Tag.Client) = (l1[(q82[k]! : Int).toNat]!.Tag.Client))) && true))) = true from (Bp.not (Bp.band Bp.dec (Bp.band1 Bp.dec))).tt h328]) ?_
                        refine QOPS.batch 26 { wraps := [201] } [] [0, 9, 10, 84, 85, 86, 155] [.slice s1.a s1.n s1.c, .slice (some ⟨g168, 0, none⟩) s1.n s1.n, .int .i64 la, .slice a80 q82.length c81, .int .i64 ((q82.length : Nat) : Int), .int .i64 (k : Int), .bool true] hnehp306 (fun w330 hp331 => QB.mk .nil (by kernel_rfl)) (fun b332 => ?_)
                        refine QOPS.nil (fun w333 hp334 => ?_)
                        refine thn_n ?_
                        exact ⟨true, trivial, Bp.of Bp.t (by first | (simp only [h310, h323, h328, iff_false, false_iff, iff_true, true_iff, Classical.not_not, and_true, true_and, and_false, false_and, or_true, true_or, or_false, false_or, not_true_eq_false, not_false_eq_true, and_self, or_self, iff_self]; done) | (simp [h310, h323, h328]; done) | grind | (simp_all; done)), by kernel_rfl, hp334⟩
                rintro e393 w394 ⟨x391, hd396, hb392, hE397, hp395⟩
                obtain ⟨b398, rfl⟩ := toMk hE397
                clear hE397
                clear hd396
                refine WP.test (p := ((la < 0)) ∨ ((¬ (la < 0)) ∧ (¬ ((l1[(la : Int).toNat]!.Open) = true)) ∧ (¬ (((l1[(la : Int).toNat]!.Tag.Count) = (l1[(q82[k]! : Int).toNat]!.Tag.Count)) ∧ ((l1[(la : Int).toNat]!.Tag.Client) = (l1[(q82[k]! : Int).toNat]!.Tag.Client))))) ∨ ((¬ (la < 0)) ∧ (¬ ((l1[(la : Int).toNat]!.Open) = true)) ∧ (((l1[(la : Int).toNat]!.Tag.Count) = (l1[(q82[k]! : Int).toNat]!.Tag.Count)) ∧ ((l1[(la : Int).toNat]!.Tag.Client) = (l1[(q82[k]! : Int).toNat]!.Tag.Client))) ∧ ((l1[(la : Int).toNat]!.Open) = true) ∧ (¬ (((l1[(la : Int).toNat]!.Tag.Count) = 0) ∧ ((l1[(la : Int).toNat]!.Tag.Client) = 0))) ∧ (¬ (((l1[(la : Int).toNat]!.Tag.Count) = (l1[(q82[k]! : Int).toNat]!.Tag.Count)) ∧ ((l1[(la : Int).toNat]!.Tag.Client) = (l1[(q82[k]! : Int).toNat]!.Tag.Client))))) ∨ ((¬ (la < 0)) ∧ ((l1[(la : Int).toNat]!.Open) = true) ∧ ((l1[(la : Int).toNat]!.Open) = true) ∧ (¬ (((l1[(la : Int).toNat]!.Tag.Count) = 0) ∧ ((l1[(la : Int).toNat]!.Tag.Client) = 0))) ∧ (¬ (((l1[(la : Int).toNat]!.Tag.Count) = (l1[(q82[k]! : Int).toNat]!.Tag.Count)) ∧ ((l1[(la : Int).toNat]!.Tag.Client) = (l1[(q82[k]! : Int).toNat]!.Tag.Client)))))) rfl hb392 (fun h399 => ?_) (fun h399 => ?_)
                · refine WP.seq ?_
                  refine WP.pure {} [] [4] [.bool false] .nil (by kernel_rfl) (fun b400 => ?_)
                  refine thn_n ?_
                  refine WP.ret ?_
                  refine blk_r ?_
                  refine blk_r ?_
                  refine thn_r ?_
                  refine thn_r ?_
                  refine blk_r ?_
                  refine thn_r ?_
                  refine bodyQ.of _ rfl [.bool false] ⟨rfl, trivial⟩ ?_
                  exfalso
                  obtain ⟨a1_, a2_, a3_, a4_, a5_, a6_, a7_⟩ := pat (by omega)
                  first | grind | omega
                · refine WP.skip ?_
                  refine blk_n ?_
                  refine blk_n ?_
                  refine thn_n ?_
                  refine WP.pure {} [] [0, 9, 10, 84, 85, 86] [.slice s1.a s1.n s1.c, .slice (some ⟨g168, 0, none⟩) s1.n s1.n, .int .i64 la, .slice a80 q82.length c81, .int .i64 ((q82.length : Nat) : Int), .int .i64 ((k : Int) + 1)] (.cons (show Rng .i64 ((k : Int) + 1) from Rng.i64 (by omega)) .nil) (by kernel_rfl) (fun b401 => ?_)
                  refine thn_n ?_
                  exact ⟨q82.length - (k + 1), (by omega), k + 1, sl.set ((q82[k]! : Int).toNat) true, la, rfl, ⟨by omega, seenS_step pb (pat (by omega)).1 (pat (by omega)).2.1, by rw [pc]; conv => rhs; unfold lastF; rw [if_neg (show ¬ (atO l1 q82 k).Put = true from h235)]⟩, by kernel_rfl, (hp395.sub (.cons _ (.cons_cons _ (.cons_cons _ (.cons_cons _ (.cons_cons _ (.cons_cons _ (.cons_cons _ (.cons_cons _ (.cons_cons _ (.cons_cons _ (.cons_cons _ (.cons_cons _ (.cons_cons _ (.slnil)))))))))))))))⟩
        · refine WP.exit ?_
          refine thn_x ?_
          refine thn_x ?_
          refine blk_hit ?_
          refine thn_n ?_
          refine WP.seq ?_
          refine WP.seq ?_
          refine WP.pure {} [] [9, 203, 204, 205] [.slice (some ⟨g168, 0, none⟩) s1.n s1.n, .slice s1.a s1.n s1.c, .int .i64 ((s1.n : Nat) : Int), .int .i64 0] .nil (by kernel_rfl) (fun b402 => ?_)
          refine thn_n ?_
          refine WP.block ?_
          obtain rfl : k = q82.length := by omega
          refine WP.loop (fun mz_ e403 w404 => ∃ (m : Nat), mz_ = l1.length - m ∧ (m ≤ l1.length) ∧ List.map e403 [9, 203, 204, 205] = [.slice (some ⟨g168, 0, none⟩) s1.n s1.n, .slice s1.a s1.n s1.c, .int .i64 ((s1.n : Nat) : Int), .int .i64 (m : Int)] ∧ Hp w Non [Res.own 4 1 (.slice (some ⟨g168, 0, none⟩) s1.n s1.n) s1.n (List.flatMap (fun y => [.bool y]) sl), Res.own 3 1 (.slice a80 q82.length c81) q82.length (List.flatMap (fun (y : Int) => [Go.Value.int .i64 y]) q82), Res.own 73 11 (.slice a67 n68 c69) n68 (List.flatMap GCall.cells cl70), Res.vc F72 cl70 bs71, Res.own 3 1 (.slice a52 (0 + s2.n) c53) (0 + s2.n) (List.flatMap (fun (y : Int) => [Go.Value.int .i64 y]) l2), Res.own 73 11 (.slice a38 n39 c40) n39 (List.flatMap GCall.cells cl41), Res.vc F43 cl41 bs42, Res.row g26 [.int .i64 1, .int .i64 0] 3, Res.row g17 [.int .i64 0, .int .i64 1] 3, Res.row g12 [.int .i64 0, .int .i64 0, .bool true, .string ByteArray.empty, .slice (some ⟨g4, 0, none⟩) 1 1, .int .i64 0, .int .i64 0, .int .i64 1, .bool false, .int .i64 1, .int .i64 1, .int .i64 0, .int .i64 0, .bool false, .string ByteArray.empty, .slice (some ⟨g8, 0, none⟩) 1 1, .int .i64 0, .int .i64 2, .int .i64 3, .bool false, .int .i64 1, .int .i64 1] 73, Res.row g8 [.int .u8 1] 5, Res.row g4 [.int .u8 1] 5] w404) (l1.length - (0)) ⟨0, rfl, (by omega), by kernel_rfl, hp174⟩ ?_
          rintro _ e403 w404 ⟨m, rfl, hI406, hE407, hp405⟩
          obtain ⟨b408, rfl⟩ := toMk hE407
          clear hE407
          obtain sa := hI406
          refine WP.seq ?_
          refine WP.pure {} [] [9, 203, 204, 205, 206] [.slice (some ⟨g168, 0, none⟩) s1.n s1.n, .slice s1.a s1.n s1.c, .int .i64 ((s1.n : Nat) : Int), .int .i64 (m : Int), .bool (decide ((m : Int) < ((s1.n : Nat) : Int)))] .nil (by kernel_rfl) (fun b409 => ?_)
          refine thn_n ?_
          refine WP.seq ?_
          refine WP.test (p := (m : Int) < ((s1.n : Nat) : Int)) rfl Bp.dec (fun h410 => ?_) (fun h410 => ?_)
          · refine WP.skip ?_
            refine thn_n ?_
            refine WP.seq ?_
            refine WP.block ?_
            refine WP.seq ?_
            refine WP.region _ rfl (by kernel_rfl) ?_
            have hy414 : (l1)[m]? = some l1[m]! := get_bang (by first | (omega) | (simp only [List.length_append, List.length_cons, List.length_nil]; omega) | (simp only [List.length_take, List.length_append, List.length_cons, List.length_nil]; omega))
            refine OPS.batch 3 {} [GCall.val (l1[m]!)] [9, 203, 204, 205, 207, 209] [.slice (some ⟨g168, 0, none⟩) s1.n s1.n, .slice s1.a s1.n s1.c, .int .i64 ((s1.n : Nat) : Int), .int .i64 (m : Int), .int .i64 (m : Int), GCall.val (l1[m]!)] (.cons (show InB ((m : Int)) (s1.n) from ⟨by omega, by omega⟩) (.cons ((o1.rd.at hp405).some (by omega)) (.cons (Ld.add0 (Ld.elN (P := Try.prog) (t := 73) (o1.rd.at hp405).rd 11 (fun _ => rfl) hy414 (o := 0) (cs := [.int .i64 (l1[m]!.Client), .int .i64 (l1[m]!.Op), .bool (l1[m]!.Put), .string (l1[m]!.Key), .slice (l1[m]!.Value.a) (l1[m]!.Value.n) (l1[m]!.Value.c), .int .i64 (l1[m]!.Status), .int .i64 (l1[m]!.From), .int .i64 (l1[m]!.To), .bool (l1[m]!.Open), .int .i64 (l1[m]!.Tag.Count), .int .i64 (l1[m]!.Tag.Client)]) (by kernel_rfl))) .nil))) (by kernel_rfl) (fun b415 => ?_)
            refine OPS.cons (opStep.alloc hp405 [.int .i64 0, .int .i64 0, .bool false, .string ByteArray.empty, .slice none 0 0, .int .i64 0, .int .i64 0, .int .i64 0, .bool false, .int .i64 0, .int .i64 0] (by kernel_rfl) (fun g418 w416 hp417 => ?_))
            refine OPS.batch 1 {} [] [9, 14, 15, 203, 204, 205, 209] [.slice (some ⟨g168, 0, none⟩) s1.n s1.n, .int .i64 (m : Int), .pointer (some ⟨g418, 0, none⟩), .slice s1.a s1.n s1.c, .int .i64 ((s1.n : Nat) : Int), .int .i64 (m : Int), GCall.val (l1[m]!)] .nil (by kernel_rfl) (fun b419 => ?_)
            refine OPS.cons (opStep.store0 hp417 rfl [.int .i64 (l1[m]!.Client), .int .i64 (l1[m]!.Op), .bool (l1[m]!.Put), .string (l1[m]!.Key), .slice (l1[m]!.Value.a) (l1[m]!.Value.n) (l1[m]!.Value.c), .int .i64 (l1[m]!.Status), .int .i64 (l1[m]!.From), .int .i64 (l1[m]!.To), .bool (l1[m]!.Open), .int .i64 (l1[m]!.Tag.Count), .int .i64 (l1[m]!.Tag.Client)] [.int .i64 (l1[m]!.Client), .int .i64 (l1[m]!.Op), .bool (l1[m]!.Put), .string (l1[m]!.Key), .slice (l1[m]!.Value.a) (l1[m]!.Value.n) (l1[m]!.Value.c), .int .i64 (l1[m]!.Status), .int .i64 (l1[m]!.From), .int .i64 (l1[m]!.To), .bool (l1[m]!.Open), .int .i64 (l1[m]!.Tag.Count), .int .i64 (l1[m]!.Tag.Client)] (by kernel_rfl) (fun w420 hp421 => ?_))
            refine OPS.nil ?_
            refine thn_n ?_
            refine WP.cut (fun e439 w440 => ∃ (x437 : Bool), (True) ∧ Bp x437 (((partI (l1[m]!)) = 2) ∧ (¬ ((sl[m]!) = true))) ∧ List.map e439 [9, 203, 204, 205, 219] = [.slice (some ⟨g168, 0, none⟩) s1.n s1.n, .slice s1.a s1.n s1.c, .int .i64 ((s1.n : Nat) : Int), .int .i64 (m : Int), .bool x437] ∧ Hp w Non [Res.row g418 [.int .i64 (l1[m]!.Client), .int .i64 (l1[m]!.Op), .bool (l1[m]!.Put), .string (l1[m]!.Key), .slice (l1[m]!.Value.a) (l1[m]!.Value.n) (l1[m]!.Value.c), .int .i64 (l1[m]!.Status), .int .i64 (l1[m]!.From), .int .i64 (l1[m]!.To), .bool (l1[m]!.Open), .int .i64 (l1[m]!.Tag.Count), .int .i64 (l1[m]!.Tag.Client)] 73, Res.own 4 1 (.slice (some ⟨g168, 0, none⟩) s1.n s1.n) s1.n (List.flatMap (fun y => [.bool y]) sl), Res.own 3 1 (.slice a80 q82.length c81) q82.length (List.flatMap (fun (y : Int) => [Go.Value.int .i64 y]) q82), Res.own 73 11 (.slice a67 n68 c69) n68 (List.flatMap GCall.cells cl70), Res.vc F72 cl70 bs71, Res.own 3 1 (.slice a52 (0 + s2.n) c53) (0 + s2.n) (List.flatMap (fun (y : Int) => [Go.Value.int .i64 y]) l2), Res.own 73 11 (.slice a38 n39 c40) n39 (List.flatMap GCall.cells cl41), Res.vc F43 cl41 bs42, Res.row g26 [.int .i64 1, .int .i64 0] 3, Res.row g17 [.int .i64 0, .int .i64 1] 3, Res.row g12 [.int .i64 0, .int .i64 0, .bool true, .string ByteArray.empty, .slice (some ⟨g4, 0, none⟩) 1 1, .int .i64 0, .int .i64 0, .int .i64 1, .bool false, .int .i64 1, .int .i64 1, .int .i64 0, .int .i64 0, .bool false, .string ByteArray.empty, .slice (some ⟨g8, 0, none⟩) 1 1, .int .i64 0, .int .i64 2, .int .i64 3, .bool false, .int .i64 1, .int .i64 1] 73, Res.row g8 [.int .u8 1] 5, Res.row g4 [.int .u8 1] 5] w440) ?_ ?_
            · refine WP.region _ rfl (by kernel_rfl) ?_
              refine OPS.batch 1 {} [GCall.val (l1[m]!)] [9, 14, 203, 204, 205, 210] [.slice (some ⟨g168, 0, none⟩) s1.n s1.n, .int .i64 (m : Int), .slice s1.a s1.n s1.c, .int .i64 ((s1.n : Nat) : Int), .int .i64 (m : Int), GCall.val (l1[m]!)] (.cons (show Ld Try.prog w420 73 ⟨g418, 0, none⟩ (GCall.val (l1[m]!)) from Ld.rowN (cs := [.int .i64 (l1[m]!.Client), .int .i64 (l1[m]!.Op), .bool (l1[m]!.Put), .string (l1[m]!.Key), .slice (l1[m]!.Value.a) (l1[m]!.Value.n) (l1[m]!.Value.c), .int .i64 (l1[m]!.Status), .int .i64 (l1[m]!.From), .int .i64 (l1[m]!.To), .bool (l1[m]!.Open), .int .i64 (l1[m]!.Tag.Count), .int .i64 (l1[m]!.Tag.Client)]) hp421.get0 (by kernel_rfl)) .nil) (by kernel_rfl) (fun b423 => ?_)
              refine OPS.cons (opStep.call (some 211) [GCall.val (l1[m]!)] (by kernel_rfl) (t_part (l1[m]!) _) ?_)
              rintro _ w426 ⟨rfl, hf427⟩
              refine ⟨_, rfl, ?_⟩
              have hp428 := hp421.step hf427
              refine OPS.batch 2 {} [] [9, 14, 203, 204, 205, 213] [.slice (some ⟨g168, 0, none⟩) s1.n s1.n, .int .i64 (m : Int), .slice s1.a s1.n s1.c, .int .i64 ((s1.n : Nat) : Int), .int .i64 (m : Int), .bool (decide ((partI (l1[m]!)) = 2))] .nil (by kernel_rfl) (fun b429 => ?_)
              by_cases h430 : (partI (l1[m]!)) = 2
              · refine OPS.batch 0 {} [] [9, 14, 203, 204, 205, 213] [.slice (some ⟨g168, 0, none⟩) s1.n s1.n, .int .i64 (m : Int), .slice s1.a s1.n s1.c, .int .i64 ((s1.n : Nat) : Int), .int .i64 (m : Int), .bool (decide ((partI (l1[m]!)) = 2))] .nil (by kernel_rfl) (fun b431 => ?_)
                refine OPS.re [.slice (some ⟨g168, 0, none⟩) s1.n s1.n, .int .i64 (m : Int), .slice s1.a s1.n s1.c, .int .i64 ((s1.n : Nat) : Int), .int .i64 (m : Int), .bool true] (by rw [show (decide ((partI (l1[m]!)) = 2)) = true from Bp.dec.tt h430]) ?_
                have := own_flat (sz := 1) (fun _ => rfl) (by decide) hp428.get1
                have hy433 : (sl)[m]? = some sl[m]! := get_bang (by first | (omega) | (simp only [List.length_append, List.length_cons, List.length_nil]; omega) | (simp only [List.length_take, List.length_append, List.length_cons, List.length_nil]; omega))
                refine OPS.batch 6 { wraps := [219] } [.bool (sl[m]!)] [9, 203, 204, 205, 219] [.slice (some ⟨g168, 0, none⟩) s1.n s1.n, .slice s1.a s1.n s1.c, .int .i64 ((s1.n : Nat) : Int), .int .i64 (m : Int), .bool (!(sl[m]!))] (.cons (show InB ((m : Int)) (s1.n) from ⟨by omega, by omega⟩) (.cons ((SlR.own (hp428.get1)).some (by omega)) (.cons (Ld.add0 (Ld.el1 (P := Try.prog) (t := 4) (SlR.own (hp428.get1)).rd 1 (fun _ => rfl) hy433 (o := 0) (v := .bool (sl[m]!)) (by kernel_rfl))) .nil))) (by kernel_rfl) (fun b434 => ?_)
                refine OPS.nil ?_
                refine thn_n ?_
                exact ⟨!(sl[m]!), trivial, Bp.of (Bp.not Bp.var) (by first | (simp only [h430, iff_false, false_iff, iff_true, true_iff, Classical.not_not, and_true, true_and, and_false, false_and, or_true, true_or, or_false, false_or, not_true_eq_false, not_false_eq_true, and_self, or_self, iff_self]; done) | (simp [h430]; done) | grind | (simp_all; done)), by kernel_rfl, hp428⟩
              · refine OPS.batch 0 {} [] [9, 14, 203, 204, 205, 213] [.slice (some ⟨g168, 0, none⟩) s1.n s1.n, .int .i64 (m : Int), .slice s1.a s1.n s1.c, .int .i64 ((s1.n : Nat) : Int), .int .i64 (m : Int), .bool (decide ((partI (l1[m]!)) = 2))] .nil (by kernel_rfl) (fun b435 => ?_)
                refine OPS.re [.slice (some ⟨g168, 0, none⟩) s1.n s1.n, .int .i64 (m : Int), .slice s1.a s1.n s1.c, .int .i64 ((s1.n : Nat) : Int), .int .i64 (m : Int), .bool false] (by rw [show (decide ((partI (l1[m]!)) = 2)) = false from Bp.dec.ff h430]) ?_
                refine OPS.batch 6 { wraps := [219] } [] [9, 203, 204, 205, 219] [.slice (some ⟨g168, 0, none⟩) s1.n s1.n, .slice s1.a s1.n s1.c, .int .i64 ((s1.n : Nat) : Int), .int .i64 (m : Int), .bool false] .nil (by kernel_rfl) (fun b436 => ?_)
                refine OPS.nil ?_
                refine thn_n ?_
                exact ⟨false, trivial, Bp.of Bp.f (by first | (simp only [h430, iff_false, false_iff, iff_true, true_iff, Classical.not_not, and_true, true_and, and_false, false_and, or_true, true_or, or_false, false_or, not_true_eq_false, not_false_eq_true, and_self, or_self, iff_self]; done) | (simp [h430]; done) | grind | (simp_all; done)), by kernel_rfl, hp428⟩
            rintro e439 w440 ⟨x437, hd442, hb438, hE443, hp441⟩
            obtain ⟨b444, rfl⟩ := toMk hE443
            clear hE443
            clear hd442
            refine WP.test (p := ((partI (l1[m]!)) = 2) ∧ (¬ ((sl[m]!) = true))) rfl hb438 (fun h445 => ?_) (fun h445 => ?_)
            · refine WP.seq ?_
              refine WP.pure {} [] [4] [.bool false] .nil (by kernel_rfl) (fun b446 => ?_)
              refine thn_n ?_
              refine WP.ret ?_
              refine blk_r ?_
              refine thn_r ?_
              refine thn_r ?_
              refine blk_r ?_
              refine thn_r ?_
              refine bodyQ.of _ rfl [.bool false] ⟨rfl, trivial⟩ ?_
              exfalso
              have hd_ := plc_due pb (Nat.le_refl _) (show m < l1.length by omega) h4_
              have h_ := h445
              grind
            · refine WP.skip ?_
              refine blk_n ?_
              refine thn_n ?_
              refine WP.pure {} [] [9, 203, 204, 205] [.slice (some ⟨g168, 0, none⟩) s1.n s1.n, .slice s1.a s1.n s1.c, .int .i64 ((s1.n : Nat) : Int), .int .i64 ((m : Int) + 1)] (.cons (show Rng .i64 ((m : Int) + 1) from Rng.i64 (by omega)) .nil) (by kernel_rfl) (fun b447 => ?_)
              refine thn_n ?_
              exact ⟨l1.length - (m + 1), (by omega), m + 1, rfl, (by omega), by kernel_rfl, (hp441.sub (.cons _ (.cons_cons _ (.cons_cons _ (.cons_cons _ (.cons_cons _ (.cons_cons _ (.cons_cons _ (.cons_cons _ (.cons_cons _ (.cons_cons _ (.cons_cons _ (.cons_cons _ (.cons_cons _ (.slnil)))))))))))))))⟩
          · refine WP.exit ?_
            refine thn_x ?_
            refine thn_x ?_
            refine blk_hit ?_
            refine thn_n ?_
            refine WP.seq ?_
            refine WP.pure {} [] [4] [.bool true] .nil (by kernel_rfl) (fun b448 => ?_)
            refine thn_n ?_
            refine WP.ret ?_
            refine bodyQ.of _ rfl [.bool true] ⟨rfl, trivial⟩ ?_
            exact ⟨rfl, hp405.fr⟩

end Go.Proofs.Ytdahgdkadfdkeaa.K
