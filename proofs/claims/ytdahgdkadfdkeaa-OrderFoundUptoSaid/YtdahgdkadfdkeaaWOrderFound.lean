/- The walks of WOrderFound: what each function computes. -/
import Derived.Test.YtdahgdkadfdkeaaProg
import Derived.Test.YtdahgdkadfdkeaaCoreO
import Derived.Test.YtdahgdkadfdkeaaOrdJ
import Derived.Test.YtdahgdkadfdkeaaOrdN
import Derived.Test.YtdahgdkadfdkeaaLinW
import Derived.Test.YtdahgdkadfdkeaaOpen
namespace Go.Proofs.Ytdahgdkadfdkeaa.K
open Go Go.Proofs Go.RowKit
set_option linter.unusedVariables false
set_option linter.unusedSimpArgs false
set_option maxRecDepth 20000
set_option maxHeartbeats 4000000

theorem lin_OneH (l : List GCall) {n : Nat} (hn : l.length = n) {a : Option Addr} {cp : Nat} {w : World} (hs : SlR w a n (l.flatMap GCall.cells)) (hv : ∀ x ∈ l, VB w x.Value) (hll : l.length ≤ 8796093022207) : Calls Try.prog 44 #[.slice a n cp] w (fun x w' => ∃ (xs : List Nat) (ok : Bool) (e : Int) (ao : Option Addr) (no co : Nat), x = .returned (.tuple #[.slice ao no co, .bool ok, .int .i64 e]) ∧ oneR (valAt w) l xs ok e ∧ Hp w Non [Res.own 3 1 (.slice ao no co) no (List.flatMap (fun (y : Nat) => [Go.Value.int .i64 (y : Int)]) xs)] w') := by
  subst hn; exact lin_One l a cp w hs hv hll
theorem OrderFound {okp : GCall → Prop} {oki : Int → Prop} (BN BI : Nat) (hBN : BN ≤ 1048576) (hBI : BI ≤ 1048576) (w : World) (s1 s2 : SlH) (l1 : List GCall) (l2 : List Int) (o1 : SlD w (α := GCall) GCall.cells okp BN s1 l1) (o2 : SlD w (fun (y : Int) => [Go.Value.int .i64 y]) oki BI s2 l2) (hv : ∀ x ∈ l1, VB w x.Value) (hr : ByR w l1) (hvn : ∀ x ∈ l1, x.Value.n ≤ 8796093022207000) :
    Calls Try.prog 9 #[.slice s1.a s1.n s1.c, .slice s2.a s2.n s2.c] w (fun x w' => x = .returned (.bool true) ∧ Fram Non w w') := by
  have hn1 := o1.len
  have hc1_ := o1.cap
  have hd1 := o1.bnd
  have hn2 := o2.len
  have hc2_ := o2.cap
  have hd2 := o2.bnd
  refine calls_of Try.func9 rfl 50 rfl (by simp) ?_
  have hp0 := Hp.init w
  have he0 : List.map (env0 [.slice s1.a s1.n s1.c, .slice s2.a s2.n s2.c]) [0, 1] = [.slice s1.a s1.n s1.c, .slice s2.a s2.n s2.c] := by kernel_rfl
  obtain ⟨b0, he0⟩ := toMk he0
  rw [he0]
  clear he0
  refine WP.seq ?_
  refine WP.pure {} [] [0, 1] [.slice s1.a s1.n s1.c, .slice s2.a s2.n s2.c] .nil (by kernel_rfl) (fun b1 => ?_)
  refine thn_n ?_
  refine WP.seq ?_
  refine WP.seq ?_
  refine WP.region _ rfl (by kernel_rfl) ?_
  refine OPS.cons (opStep.call (some 10) [] (by kernel_rfl) (l21_awake _) ?_)
  rintro _ w4 ⟨rfl, hf5⟩
  refine ⟨_, rfl, ?_⟩
  have hp6 := hp0.step hf5
  refine OPS.batch 1 {} [] [0, 1, 11] [.slice s1.a s1.n s1.c, .slice s2.a s2.n s2.c, .bool false] .nil (by kernel_rfl) (fun b7 => ?_)
  refine OPS.nil ?_
  refine thn_n ?_
  refine WP.condF rfl ?_
  refine WP.skip ?_
  refine thn_n ?_
  refine WP.seq ?_
  refine WP.seq ?_
  refine WP.region _ rfl (by kernel_rfl) ?_
  refine OPS.batch 2 {} [] [0, 1, 12, 13] [.slice s1.a s1.n s1.c, .slice s2.a s2.n s2.c, .slice s1.a s1.n s1.c, .slice s2.a s2.n s2.c] .nil (by kernel_rfl) (fun b8 => ?_)
  refine OPS.cons (opStep.call (some 14) [.slice s1.a s1.n s1.c, .slice s2.a s2.n s2.c] (by kernel_rfl) (o_Check l1 _ _ _ _ (by omega) (by omega) (o1.rd.at hp6) l2 _ _ _ (by omega) (by omega) (o2.rd.at hp6) (fun y hy => (hv y hy).at' hp6.fr) hvn) ?_)
  rintro _ w11 ⟨rfl, hf12⟩
  refine ⟨_, rfl, ?_⟩
  rw [chkO_fram hp6.fr hv]
  have hp13 := hp6.step hf12
  refine OPS.batch 1 {} [] [0, 1, 15] [.slice s1.a s1.n s1.c, .slice s2.a s2.n s2.c, .bool (decide ((chkO w l1 l2) = 1))] .nil (by kernel_rfl) (fun b14 => ?_)
  refine OPS.nil ?_
  refine thn_n ?_
  refine WP.test (p := (chkO w l1 l2) = 1) rfl Bp.dec (fun h15 => ?_) (fun h15 => ?_)
  · refine WP.seq ?_
    refine WP.pure {} [] [4] [.bool true] .nil (by kernel_rfl) (fun b16 => ?_)
    refine thn_n ?_
    refine WP.ret ?_
    refine thn_r ?_
    refine bodyQ.of _ rfl [.bool true] ⟨rfl, trivial⟩ ?_
    exact ⟨rfl, hp13.fr⟩
  · refine WP.skip ?_
    refine thn_n ?_
    refine WP.seq ?_
    refine WP.region _ rfl (by kernel_rfl) ?_
    refine OPS.batch 1 {} [] [0, 1, 17] [.slice s1.a s1.n s1.c, .slice s2.a s2.n s2.c, .slice s1.a s1.n s1.c] .nil (by kernel_rfl) (fun b17 => ?_)
    refine OPS.cons (opStep.call (some 18) [.slice s1.a s1.n s1.c] (by kernel_rfl) (lin_OneH l1 hn1.symm (o1.rd.at hp13) (fun y hy => (hv y hy).at' hp13.fr) (by omega)) ?_)
    rintro _ w20 ⟨xs23, ok24, e25, ao26, no27, co28, rfl, hx29, hp21⟩
    rw [flat_nats] at hp21
    refine ⟨_, rfl, ?_⟩
    have hp22 := hp13.made hp21
    refine OPS.batch 7 {} [] [0, 1, 5, 6, 7] [.slice s1.a s1.n s1.c, .slice s2.a s2.n s2.c, .slice ao26 no27 co28, .bool ok24, .int .i64 e25] .nil (by kernel_rfl) (fun b30 => ?_)
    refine OPS.nil ?_
    refine thn_n ?_
    refine WP.seq ?_
    refine WP.seq ?_
    refine WP.pure {} [] [0, 1, 5, 6, 7, 23] [.slice s1.a s1.n s1.c, .slice s2.a s2.n s2.c, .slice ao26 no27 co28, .bool ok24, .int .i64 e25, .bool (decide (¬ (e25 = 0)))] .nil (by kernel_rfl) (fun b31 => ?_)
    refine thn_n ?_
    refine WP.test (p := ¬ (e25 = 0)) rfl Bp.dec (fun h32 => ?_) (fun h32 => ?_)
    · refine WP.seq ?_
      refine WP.pure {} [] [4] [.bool (decide (e25 = 4))] .nil (by kernel_rfl) (fun b33 => ?_)
      refine thn_n ?_
      refine WP.ret ?_
      refine thn_r ?_
      refine bodyQ.of _ rfl [.bool (decide (e25 = 4))] ⟨rfl, trivial⟩ ?_
      have hfit_ := chkO_fit h15
      exact ⟨congrArg (fun b => Ending.returned (.bool b)) (Bp.tt Bp.dec (by have h_ := one_err hfit_ hx29; omega)), hp22.fr⟩
    · replace h32 := Classical.not_not.1 h32
      refine WP.skip ?_
      refine thn_n ?_
      refine WP.seq ?_
      refine WP.region _ rfl (by kernel_rfl) ?_
      refine OPS.batch 1 {} [] [0, 1, 5, 6, 27] [.slice s1.a s1.n s1.c, .slice s2.a s2.n s2.c, .slice ao26 no27 co28, .bool ok24, .slice s1.a s1.n s1.c] .nil (by kernel_rfl) (fun b34 => ?_)
      refine OPS.cons (opStep.call (some 28) [.slice s1.a s1.n s1.c] (by kernel_rfl) (o_ByTags l1 _ _ _ _ (by omega) (by omega) (o1.rd.at hp22) (by omega)) ?_)
      rintro _ w37 ⟨a39, c40, q41, e42, rfl, hq43, hp38⟩
      refine ⟨_, rfl, ?_⟩
      have hp44 := hp22.made hp38
      refine OPS.batch 5 {} [] [0, 1, 5, 6, 8, 9] [.slice s1.a s1.n s1.c, .slice s2.a s2.n s2.c, .slice ao26 no27 co28, .bool ok24, .slice a39 q41.length c40, .int .i64 e42] .nil (by kernel_rfl) (fun b45 => ?_)
      refine OPS.nil ?_
      refine thn_n ?_
      refine WP.seq ?_
      refine WP.seq ?_
      refine WP.pure {} [] [0, 1, 5, 8, 9, 31] [.slice s1.a s1.n s1.c, .slice s2.a s2.n s2.c, .slice ao26 no27 co28, .slice a39 q41.length c40, .int .i64 e42, .bool ok24] .nil (by kernel_rfl) (fun b46 => ?_)
      refine thn_n ?_
      refine WP.test (p := ok24 = true) rfl Bp.var (fun h47 => ?_) (fun h47 => ?_)
      · refine WP.seq ?_
        refine WP.region _ rfl (by kernel_rfl) ?_
        refine OPS.batch 2 {} [] [32, 33] [.slice s1.a s1.n s1.c, .slice ao26 no27 co28] .nil (by kernel_rfl) (fun b48 => ?_)
        refine OPS.cons (opStep.call (some 34) [.slice s1.a s1.n s1.c, .slice ao26 no27 co28] (by kernel_rfl) (o_Check l1 _ _ _ _ (by omega) (by omega) (o1.rd.at hp44) (intsO xs23) _ _ _ (own_flat (sz := 1) (fun _ => rfl) (by decide) hp44.get1).symm (by rw [own_flat (sz := 1) (fun _ => rfl) (by decide) hp44.get1]; have := own_max hp44.get1; omega) (SlR.own (hp44.get1)) (fun y hy => (hv y hy).at' hp44.fr) hvn) ?_)
        rintro _ w51 ⟨rfl, hf52⟩
        refine ⟨_, rfl, ?_⟩
        rw [chkO_fram hp44.fr hv]
        have hp53 := hp44.step hf52
        refine OPS.batch 2 {} [] [4] [.bool (decide ((chkO w l1 (intsO xs23)) = 0))] .nil (by kernel_rfl) (fun b54 => ?_)
        refine OPS.nil ?_
        refine thn_n ?_
        refine WP.ret ?_
        refine thn_r ?_
        refine bodyQ.of _ rfl [.bool (decide ((chkO w l1 (intsO xs23)) = 0))] ⟨rfl, trivial⟩ ?_
        have hfit_ := chkO_fit h15
        have he0_ : e25 = 0 := by first | exact h32 | exact Classical.not_not.1 h32
        exact ⟨congrArg (fun b => Ending.returned (.bool b)) (Bp.tt Bp.dec (by exact found_taken hfit_ hr hv hx29 he0_ h47 hp13.fr (Fram.refl _ _))), hp53.fr⟩
      · refine WP.skip ?_
        refine thn_n ?_
        refine WP.cut (fun e81 w82 => ∃ (x79 : Bool), (True) ∧ Bp x79 ((((chkO w l1 l2) = 81) ∧ (¬ (e42 = 0))) ∨ (((chkO w l1 l2) = 81) ∧ (e42 = 0) ∧ ((chkO w l1 q41) = 81))) ∧ List.map e81 [4] = [.bool x79] ∧ Hp w Non [Res.own 3 1 (.slice a39 q41.length c40) q41.length (List.flatMap (fun (y : Int) => [Go.Value.int .i64 y]) q41), Res.own 3 1 (.slice ao26 no27 co28) no27 (List.flatMap (fun (y : Int) => [Go.Value.int .i64 y]) (intsO xs23))] w82) ?_ ?_
        · refine WP.region _ rfl (by kernel_rfl) ?_
          refine OPS.batch 2 {} [] [0, 8, 9, 36, 37] [.slice s1.a s1.n s1.c, .slice a39 q41.length c40, .int .i64 e42, .slice s1.a s1.n s1.c, .slice s2.a s2.n s2.c] .nil (by kernel_rfl) (fun b56 => ?_)
          refine OPS.cons (opStep.call (some 38) [.slice s1.a s1.n s1.c, .slice s2.a s2.n s2.c] (by kernel_rfl) (o_Check l1 _ _ _ _ (by omega) (by omega) (o1.rd.at hp44) l2 _ _ _ (by omega) (by omega) (o2.rd.at hp44) (fun y hy => (hv y hy).at' hp44.fr) hvn) ?_)
          rintro _ w59 ⟨rfl, hf60⟩
          refine ⟨_, rfl, ?_⟩
          rw [chkO_fram hp44.fr hv]
          have hp61 := hp44.step hf60
          refine OPS.batch 2 {} [] [0, 8, 9, 40] [.slice s1.a s1.n s1.c, .slice a39 q41.length c40, .int .i64 e42, .bool (decide ((chkO w l1 l2) = 81))] .nil (by kernel_rfl) (fun b62 => ?_)
          by_cases h63 : (chkO w l1 l2) = 81
          · refine OPS.batch 0 {} [] [0, 8, 9, 40] [.slice s1.a s1.n s1.c, .slice a39 q41.length c40, .int .i64 e42, .bool (decide ((chkO w l1 l2) = 81))] .nil (by kernel_rfl) (fun b64 => ?_)
            refine OPS.re [.slice s1.a s1.n s1.c, .slice a39 q41.length c40, .int .i64 e42, .bool true] (by rw [show (decide ((chkO w l1 l2) = 81)) = true from Bp.dec.tt h63]) ?_
            refine OPS.batch 3 {} [] [0, 8, 40, 43] [.slice s1.a s1.n s1.c, .slice a39 q41.length c40, .bool true, .bool (decide (¬ (e42 = 0)))] .nil (by kernel_rfl) (fun b65 => ?_)
            by_cases h66 : e42 = 0
            · refine OPS.batch 0 {} [] [0, 8, 40, 43] [.slice s1.a s1.n s1.c, .slice a39 q41.length c40, .bool true, .bool (decide (¬ (e42 = 0)))] .nil (by kernel_rfl) (fun b69 => ?_)
              refine OPS.re [.slice s1.a s1.n s1.c, .slice a39 q41.length c40, .bool true, .bool false] (by rw [show (decide (¬ (e42 = 0))) = false from Bp.dec.ff (fun k => k h66)]) ?_
              refine OPS.batch 2 {} [] [40, 43, 44, 45] [.bool true, .bool false, .slice s1.a s1.n s1.c, .slice a39 q41.length c40] .nil (by kernel_rfl) (fun b70 => ?_)
              refine OPS.want (by kernel_rfl) ?_
              refine OPS.cons (opStep.call (some 46) [.slice s1.a s1.n s1.c, .slice a39 q41.length c40] (by kernel_rfl) (o_Check l1 _ _ _ _ (by omega) (by omega) (o1.rd.at hp61) q41 _ _ _ (own_flat (sz := 1) (fun _ => rfl) (by decide) hp61.get0).symm (by rw [own_flat (sz := 1) (fun _ => rfl) (by decide) hp61.get0]; have := own_max hp61.get0; omega) (SlR.own (hp61.get0)) (fun y hy => (hv y hy).at' hp61.fr) hvn) ?_)
              rintro _ w73 ⟨rfl, hf74⟩
              refine ⟨_, rfl, ?_⟩
              rw [chkO_fram hp61.fr hv]
              have hp75 := hp61.step hf74
              refine OPS.batch 4 { wraps := [48, 49] } [] [4] [.bool (decide ((chkO w l1 q41) = 81))] .nil (by kernel_rfl) (fun b76 => ?_)
              refine OPS.nil ?_
              refine thn_n ?_
              exact ⟨decide ((chkO w l1 q41) = 81), trivial, Bp.of Bp.dec (by first | (simp only [h63, h66, iff_false, false_iff, iff_true, true_iff, Classical.not_not, and_true, true_and, and_false, false_and, or_true, true_or, or_false, false_or, not_true_eq_false, not_false_eq_true, and_self, or_self, iff_self]; done) | (simp [h63, h66]; done) | grind | (simp_all; done)), by kernel_rfl, hp75⟩
            · refine OPS.batch 0 {} [] [0, 8, 40, 43] [.slice s1.a s1.n s1.c, .slice a39 q41.length c40, .bool true, .bool (decide (¬ (e42 = 0)))] .nil (by kernel_rfl) (fun b67 => ?_)
              refine OPS.re [.slice s1.a s1.n s1.c, .slice a39 q41.length c40, .bool true, .bool true] (by rw [show (decide (¬ (e42 = 0))) = true from Bp.dec.tt h66]) ?_
              refine OPS.batch 7 { wraps := [48, 49] } [] [4] [.bool true] .nil (by kernel_rfl) (fun b68 => ?_)
              refine OPS.nil ?_
              refine thn_n ?_
              exact ⟨true, trivial, Bp.of Bp.t (by first | (simp only [h63, h66, iff_false, false_iff, iff_true, true_iff, Classical.not_not, and_true, true_and, and_false, false_and, or_true, true_or, or_false, false_or, not_true_eq_false, not_false_eq_true, and_self, or_self, iff_self]; done) | (simp [h63, h66]; done) | grind | (simp_all; done)), by kernel_rfl, hp61⟩
          · refine OPS.batch 0 {} [] [0, 8, 9, 40] [.slice s1.a s1.n s1.c, .slice a39 q41.length c40, .int .i64 e42, .bool (decide ((chkO w l1 l2) = 81))] .nil (by kernel_rfl) (fun b77 => ?_)
            refine OPS.re [.slice s1.a s1.n s1.c, .slice a39 q41.length c40, .int .i64 e42, .bool false] (by rw [show (decide ((chkO w l1 l2) = 81)) = false from Bp.dec.ff h63]) ?_
            refine OPS.batch 10 { wraps := [49] } [] [4] [.bool false] .nil (by kernel_rfl) (fun b78 => ?_)
            refine OPS.nil ?_
            refine thn_n ?_
            exact ⟨false, trivial, Bp.of Bp.f (by first | (simp only [h63, iff_false, false_iff, iff_true, true_iff, Classical.not_not, and_true, true_and, and_false, false_and, or_true, true_or, or_false, false_or, not_true_eq_false, not_false_eq_true, and_self, or_self, iff_self]; done) | (simp [h63]; done) | grind | (simp_all; done)), by kernel_rfl, hp61⟩
        rintro e81 w82 ⟨x79, hd84, hb80, hE85, hp83⟩
        obtain ⟨b86, rfl⟩ := toMk hE85
        clear hE85
        clear hd84
        refine WP.ret ?_
        refine bodyQ.of _ rfl [.bool x79] ⟨rfl, trivial⟩ ?_
        have hfit_ := chkO_fit h15
        have he0_ : e25 = 0 := by first | exact h32 | exact Classical.not_not.1 h32
        have hx1_ := fun (o : List Int) => none_taken hfit_ hr hv hx29 he0_ h47 hp13.fr (Fram.refl _ w) o
        exact ⟨congrArg (fun b => Ending.returned (.bool b)) (Bp.tt hb80 (by simp only [hx1_]; first | grind | simp_all | omega)), hp83.fr⟩

end Go.Proofs.Ytdahgdkadfdkeaa.K
