/- The walks of WLinearLess: what each function computes. -/
import Derived.Test.YthdkbbpiaeaojaaProg
import Derived.Test.YthdkbbpiaeaojaaCoreO
import Derived.Test.YthdkbbpiaeaojaaLinL
import Derived.Test.YthdkbbpiaeaojaaOpen
import Derived.Test.YthdkbbpiaeaojaaCoreV
namespace Go.Proofs.Ythdkbbpiaeaojaa.K
open Go Go.Proofs Go.RowKit
set_option linter.unusedVariables false
set_option linter.unusedSimpArgs false
set_option maxRecDepth 20000
set_option maxHeartbeats 4000000

theorem LinearLess {okp : Gsherdlaw20_Draft → Prop} (BN : Nat) (hBN : BN ≤ 17592186043904) (out late : Int) (w : World) (s1 : SlH) (l1 : List Gsherdlaw20_Draft) (o1 : SlD w (α := Gsherdlaw20_Draft) Gsherdlaw20_Draft.cells okp BN s1 l1) :
    Calls Try.prog 8 #[.slice s1.a s1.n s1.c, .int .i64 out, .int .i64 late] w (fun x w' => x = .returned (.bool true) ∧ Fram Non w w') := by
  have hn1 := o1.len
  have hc1 := o1.cap
  have hd1 := o1.bnd
  refine calls_of Try.func8 rfl 133 rfl (by simp) ?_
  have hp0 := Hp.init w
  have he0 : List.map (env0 [.slice s1.a s1.n s1.c, .int .i64 out, .int .i64 late]) [0, 1, 2] = [.slice s1.a s1.n s1.c, .int .i64 out, .int .i64 late] := by kernel_rfl
  obtain ⟨b0, he0⟩ := toMk he0
  rw [he0]
  clear he0
  refine WP.seq ?_
  refine WP.pure {} [] [0, 1, 2] [.slice s1.a s1.n s1.c, .int .i64 out, .int .i64 late] .nil (by kernel_rfl) (fun b1 => ?_)
  refine thn_n ?_
  refine WP.seq ?_
  refine WP.region _ rfl (by kernel_rfl) ?_
  refine OPS.batch 1 {} [] [0, 1, 2, 23] [.slice s1.a s1.n s1.c, .int .i64 out, .int .i64 late, .slice s1.a s1.n s1.c] .nil (by kernel_rfl) (fun b2 => ?_)
  refine OPS.cons (opStep.call (some 24) [.slice s1.a s1.n s1.c, .int .i64 7] (by kernel_rfl) (law20_drafted _ s1 l1 (o1.rd.at hp0) hn1 (by omega) 7 (by decide)) ?_)
  rintro _ w5 ⟨ao8, no9, co10, cl11, vs12, F13, rfl, k14, h15, h16, h17, hp6⟩
  refine ⟨_, rfl, ?_⟩
  have hp7 := hp0.madeL hp6
  simp only [List.cons_append, List.nil_append] at hp7
  have h18 := own_flat (sz := 11) (fun _ => rfl) (by decide) hp7.get0
  have := h17.1
  refine OPS.batch 1 {} [] [0, 1, 2, 7] [.slice s1.a s1.n s1.c, .int .i64 out, .int .i64 late, .slice ao8 no9 co10] .nil (by kernel_rfl) (fun b19 => ?_)
  refine OPS.nil ?_
  refine thn_n ?_
  refine WP.seq ?_
  refine WP.region _ rfl (by kernel_rfl) ?_
  refine OPS.batch 1 {} [] [0, 1, 2, 7, 26] [.slice s1.a s1.n s1.c, .int .i64 out, .int .i64 late, .slice ao8 no9 co10, .slice ao8 no9 co10] .nil (by kernel_rfl) (fun b20 => ?_)
  have hz27_l : (cl11).length = no9 := h18
  refine OPS.cons (opStep.call (some 27) [.slice ao8 no9 co10] (by kernel_rfl) (lin_OneN cl11 no9 hz27_l ao8 co10 _ (SlR.own hp7.get0) (vl_vb hp7.get1) (by omega)) ?_)
  rintro _ w23 ⟨xs29, ok30, e31, ao32, no33, co34, rfl, hx25, hn26⟩
  obtain ⟨he28_0, he28, _⟩ := ex_one (ok_mem (dr_mem h17)) (by omega) hx25
  subst he28_0
  refine ⟨_, rfl, ?_⟩
  have hp24 := hp7.made hn26
  refine OPS.batch 7 {} [] [0, 1, 2, 7, 9, 10] [.slice s1.a s1.n s1.c, .int .i64 out, .int .i64 late, .slice ao8 no9 co10, .bool ok30, .int .i64 0] .nil (by kernel_rfl) (fun b35 => ?_)
  refine OPS.nil ?_
  refine thn_n ?_
  refine WP.seq ?_
  refine WP.seq ?_
  refine WP.pure {} [] [0, 1, 2, 7, 9, 32] [.slice s1.a s1.n s1.c, .int .i64 out, .int .i64 late, .slice ao8 no9 co10, .bool ok30, .bool false] .nil (by kernel_rfl) (fun b36 => ?_)
  refine thn_n ?_
  refine WP.condF rfl ?_
  refine WP.skip ?_
  refine thn_n ?_
  refine WP.seq ?_
  refine WP.region _ rfl (by kernel_rfl) ?_
  refine OPS.cons (opStep.buildSlice0 (E := 41) hp24 (by kernel_rfl) (fun g39 w37 hp38 => ?_))
  refine OPS.batch 1 {} [] [0, 1, 2, 7, 9, 33, 34] [.slice s1.a s1.n s1.c, .int .i64 out, .int .i64 late, .slice ao8 no9 co10, .bool ok30, .slice (some ⟨g39, 0, none⟩) 0 0, .slice ao8 no9 co10] .nil (by kernel_rfl) (fun b40 => ?_)
  have hp43 := hp38.pull0
  have hp44 := (show Hp w Non [Res.own 41 11 (.slice (some ⟨g39, 0, none⟩) 0 0) 0 (List.flatMap GCall.cells []), Res.own 3 1 (.slice ao32 no33 co34) no33 (List.flatMap (fun (y : Nat) => [Go.Value.int .i64 (y : Int)]) xs29), Res.own 41 11 (.slice ao8 no9 co10) no9 (List.flatMap GCall.cells cl11), Res.vl F13 cl11 vs12] w37 from hp43.rowOwn 11)
  refine OPS.cons (opStep.appendS (A := []) hp44 112 (by kernel_rfl) rfl rfl (SlR.own (hp44.get2)) (flat_n (fun _ => rfl) (own_flat (sz := 11) (fun _ => rfl) (by decide) hp44.get2)) (one_flat (fun _ => rfl)) (by decide) (by omega) (by omega) (fun a45 c46 w47 hp48 => ?_))
  rw [show List.flatMap GCall.cells [] ++ List.flatMap GCall.cells cl11 = List.flatMap GCall.cells (cl11) from rfl] at hp48
  simp only [List.cons_append, List.nil_append] at hp48
  refine OPS.batch 1 {} [] [0, 1, 2, 7, 9, 35, 36] [.slice s1.a s1.n s1.c, .int .i64 out, .int .i64 late, .slice ao8 no9 co10, .bool ok30, .slice a45 (0 + no9) c46, .int .i64 late] .nil (by kernel_rfl) (fun b49 => ?_)
  refine OPS.cons (opStep.call (some 37) [.int .i64 late, .int .i64 12] (by kernel_rfl) (law20_mod late 12 _ (by omega) (by omega)) ?_)
  rintro _ w52 ⟨rfl, hf53⟩
  refine ⟨_, rfl, ?_⟩
  have hp54 := hp48.step hf53
  have := modI_bd late (k := 12) (by omega)
  refine OPS.cons (opStep.call (some 38) [.string ⟨#[117, 110, 115, 101, 101, 110]⟩, .int .i64 (modI late 12), .int .i64 (-1)] (by kernel_rfl) (law_put ⟨#[117, 110, 115, 101, 101, 110]⟩ (modI late 12) (-1) _) ?_)
  rintro _ w59 ⟨g57, c58, rfl, hp61⟩
  refine ⟨_, rfl, ?_⟩
  have hp60 := hp54.made hp61
  refine OPS.cons (opStep.buildSlice (E := 41) hp60 [.int .i64 ((putC g57 c58 ⟨#[117, 110, 115, 101, 101, 110]⟩ (modI late 12) (-1)).Client), .int .i64 ((putC g57 c58 ⟨#[117, 110, 115, 101, 101, 110]⟩ (modI late 12) (-1)).Op), .bool ((putC g57 c58 ⟨#[117, 110, 115, 101, 101, 110]⟩ (modI late 12) (-1)).Put), .string ((putC g57 c58 ⟨#[117, 110, 115, 101, 101, 110]⟩ (modI late 12) (-1)).Key), .slice ((putC g57 c58 ⟨#[117, 110, 115, 101, 101, 110]⟩ (modI late 12) (-1)).Value.a) ((putC g57 c58 ⟨#[117, 110, 115, 101, 101, 110]⟩ (modI late 12) (-1)).Value.n) ((putC g57 c58 ⟨#[117, 110, 115, 101, 101, 110]⟩ (modI late 12) (-1)).Value.c), .int .i64 ((putC g57 c58 ⟨#[117, 110, 115, 101, 101, 110]⟩ (modI late 12) (-1)).Status), .int .i64 ((putC g57 c58 ⟨#[117, 110, 115, 101, 101, 110]⟩ (modI late 12) (-1)).From), .int .i64 ((putC g57 c58 ⟨#[117, 110, 115, 101, 101, 110]⟩ (modI late 12) (-1)).To), .bool ((putC g57 c58 ⟨#[117, 110, 115, 101, 101, 110]⟩ (modI late 12) (-1)).Open), .int .i64 ((putC g57 c58 ⟨#[117, 110, 115, 101, 101, 110]⟩ (modI late 12) (-1)).Tag.Count), .int .i64 ((putC g57 c58 ⟨#[117, 110, 115, 101, 101, 110]⟩ (modI late 12) (-1)).Tag.Client)] (by kernel_rfl) (fun g64 w62 hp63 => ?_))
  have hrd72 := (SlR.row (n := 1) hp63.get0 rfl).rd
  refine OPS.cons (opStep.append2 _ hp63 112 (by kernel_rfl) rfl rfl rfl hrd72 (List.all_eq_true.1 (by kernel_rfl)) (by decide) (by omega) (by omega) (fun a67 c68 w69 hp70 hn71 => ?_))
  rw [(show List.flatMap GCall.cells cl11 ++ [.int .i64 ((putC g57 c58 ⟨#[117, 110, 115, 101, 101, 110]⟩ (modI late 12) (-1)).Client), .int .i64 ((putC g57 c58 ⟨#[117, 110, 115, 101, 101, 110]⟩ (modI late 12) (-1)).Op), .bool ((putC g57 c58 ⟨#[117, 110, 115, 101, 101, 110]⟩ (modI late 12) (-1)).Put), .string ((putC g57 c58 ⟨#[117, 110, 115, 101, 101, 110]⟩ (modI late 12) (-1)).Key), .slice ((putC g57 c58 ⟨#[117, 110, 115, 101, 101, 110]⟩ (modI late 12) (-1)).Value.a) ((putC g57 c58 ⟨#[117, 110, 115, 101, 101, 110]⟩ (modI late 12) (-1)).Value.n) ((putC g57 c58 ⟨#[117, 110, 115, 101, 101, 110]⟩ (modI late 12) (-1)).Value.c), .int .i64 ((putC g57 c58 ⟨#[117, 110, 115, 101, 101, 110]⟩ (modI late 12) (-1)).Status), .int .i64 ((putC g57 c58 ⟨#[117, 110, 115, 101, 101, 110]⟩ (modI late 12) (-1)).From), .int .i64 ((putC g57 c58 ⟨#[117, 110, 115, 101, 101, 110]⟩ (modI late 12) (-1)).To), .bool ((putC g57 c58 ⟨#[117, 110, 115, 101, 101, 110]⟩ (modI late 12) (-1)).Open), .int .i64 ((putC g57 c58 ⟨#[117, 110, 115, 101, 101, 110]⟩ (modI late 12) (-1)).Tag.Count), .int .i64 ((putC g57 c58 ⟨#[117, 110, 115, 101, 101, 110]⟩ (modI late 12) (-1)).Tag.Client)] = List.flatMap GCall.cells (cl11 ++ [(putC g57 c58 ⟨#[117, 110, 115, 101, 101, 110]⟩ (modI late 12) (-1))]) from (List.flatMap_append (xs := cl11) (ys := [(putC g57 c58 ⟨#[117, 110, 115, 101, 101, 110]⟩ (modI late 12) (-1))])).symm)] at hp70
  refine OPS.batch 1 {} [] [0, 1, 2, 7, 9, 11] [.slice s1.a s1.n s1.c, .int .i64 out, .int .i64 late, .slice ao8 no9 co10, .bool ok30, .slice a67 (0 + no9 + 1) c68] .nil (by kernel_rfl) (fun b73 => ?_)
  refine OPS.nil ?_
  refine thn_n ?_
  refine WP.seq ?_
  refine WP.region _ rfl (by kernel_rfl) ?_
  refine OPS.batch 1 {} [] [0, 1, 2, 7, 9, 42] [.slice s1.a s1.n s1.c, .int .i64 out, .int .i64 late, .slice ao8 no9 co10, .bool ok30, .slice a67 (0 + no9 + 1) c68] .nil (by kernel_rfl) (fun b74 => ?_)
  have hz81_l : (cl11 ++ [(putC g57 c58 ⟨#[117, 110, 115, 101, 101, 110]⟩ (modI late 12) (-1))]).length = 0 + no9 + 1 := (by rw [List.length_append, List.length_singleton]; omega)
  refine OPS.cons (opStep.call (some 43) [.slice a67 (0 + no9 + 1) c68] (by kernel_rfl) (lin_OneN (cl11 ++ [(putC g57 c58 ⟨#[117, 110, 115, 101, 101, 110]⟩ (modI late 12) (-1))]) (0 + no9 + 1) hz81_l a67 c68 _ (SlR.own hp70.get2) (mem_more (vl_vb hp70.get5) (VB.bsr (c := c58) hp70.get1).1) (by omega)) ?_)
  rintro _ w77 ⟨xs83, ok84, e85, ao86, no87, co88, rfl, hx79, hn80⟩
  obtain ⟨he82_0, he82, _⟩ := ex_one (ok_mem (mem_more (dr_mem h17) (by first | (simp [okArg, putC]; done) | (simp [okArg, putC]; omega)))) (by omega) hx79
  subst he82_0
  have he82_m : ok84 = true ↔ Ex (valAt w5) cl11 := he82.trans ⟨more_from h17 rfl (fun i hi => vl_val hp7.get1 (by rw [h17.1]; exact hi)) (fun i hi => vl_val hp70.get5 (by rw [h17.1]; exact hi)) (VB.bsr (c := c58) hp70.get1).2, more_to h17 rfl (fun i hi => vl_val hp7.get1 (by rw [h17.1]; exact hi)) (fun i hi => vl_val hp70.get5 (by rw [h17.1]; exact hi))⟩
  refine ⟨_, rfl, ?_⟩
  have hp78 := hp70.made hn80
  refine OPS.batch 7 {} [] [0, 1, 2, 7, 9, 13, 14] [.slice s1.a s1.n s1.c, .int .i64 out, .int .i64 late, .slice ao8 no9 co10, .bool ok30, .bool ok84, .int .i64 0] .nil (by kernel_rfl) (fun b89 => ?_)
  refine OPS.nil ?_
  refine thn_n ?_
  refine WP.seq ?_
  refine WP.seq ?_
  refine WP.pure { wraps := [53] } [] [0, 1, 2, 7, 9, 53] [.slice s1.a s1.n s1.c, .int .i64 out, .int .i64 late, .slice ao8 no9 co10, .bool ok30, .bool (!(ok84 == ok30))] .nil (by kernel_rfl) (fun b90 => ?_)
  refine thn_n ?_
  refine WP.test (p := ¬ (((Ex (valAt w5) cl11) ↔ (Ex (valAt w5) cl11)))) rfl (Bp.not (Bp.beq (show Bp ok84 (Ex (valAt w5) cl11) from he82_m) (show Bp ok30 (Ex (valAt w5) cl11) from he28))) (fun h91 => ?_) (fun h91 => ?_)
  · refine WP.seq ?_
    refine WP.pure {} [] [6] [.bool false] .nil (by kernel_rfl) (fun b92 => ?_)
    refine thn_n ?_
    refine WP.ret ?_
    refine thn_r ?_
    refine bodyQ.of _ rfl [.bool false] ⟨rfl, trivial⟩ ?_
    exfalso
    first | omega | exact ex_nil (by omega) | exact ⟨ex_nil (by omega), trivial⟩ | simp_all
  · replace h91 := Classical.not_not.1 h91
    refine WP.skip ?_
    refine thn_n ?_
    refine WP.seq ?_
    refine WP.seq ?_
    refine WP.region _ rfl (by kernel_rfl) ?_
    refine OPS.batch 2 {} [] [1, 2, 7, 9, 54, 55] [.int .i64 out, .int .i64 late, .slice ao8 no9 co10, .bool ok30, .slice s1.a s1.n s1.c, .int .i64 late] .nil (by kernel_rfl) (fun b93 => ?_)
    refine OPS.cons (opStep.call (some 56) [.slice s1.a s1.n s1.c, .int .i64 late] (by kernel_rfl) (law20_wrong _ s1 l1 (o1.rd.at hp78) hn1 (by omega) late) ?_)
    rintro _ w96 ⟨rfl, hf97⟩
    refine ⟨_, rfl, ?_⟩
    have hp98 := hp78.step hf97
    refine OPS.batch 1 {} [] [1, 2, 7, 9, 57] [.int .i64 out, .int .i64 late, .slice ao8 no9 co10, .bool ok30, .bool false] .nil (by kernel_rfl) (fun b99 => ?_)
    refine OPS.nil ?_
    refine thn_n ?_
    refine WP.condF rfl ?_
    refine WP.skip ?_
    refine thn_n ?_
    refine WP.seq ?_
    refine WP.seq ?_
    refine WP.pure {} [] [1, 2, 7, 9, 60] [.int .i64 out, .int .i64 late, .slice ao8 no9 co10, .bool ok30, .bool (decide (((no9 : Nat) : Int) = 0))] .nil (by kernel_rfl) (fun b100 => ?_)
    refine thn_n ?_
    refine WP.test (p := ((no9 : Nat) : Int) = 0) rfl Bp.dec (fun h101 => ?_) (fun h101 => ?_)
    · refine WP.cut (fun e114 w115 => ∃ (x112 : Bool), (True) ∧ Bp x112 ((Ex (valAt w5) cl11)) ∧ List.map e114 [6] = [.bool x112] ∧ Hp w Non [Res.own 3 1 (.slice ao86 no87 co88) no87 (List.flatMap (fun (y : Nat) => [Go.Value.int .i64 (y : Int)]) xs83), Res.row g64 [.int .i64 ((putC g57 c58 ⟨#[117, 110, 115, 101, 101, 110]⟩ (modI late 12) (-1)).Client), .int .i64 ((putC g57 c58 ⟨#[117, 110, 115, 101, 101, 110]⟩ (modI late 12) (-1)).Op), .bool ((putC g57 c58 ⟨#[117, 110, 115, 101, 101, 110]⟩ (modI late 12) (-1)).Put), .string ((putC g57 c58 ⟨#[117, 110, 115, 101, 101, 110]⟩ (modI late 12) (-1)).Key), .slice ((putC g57 c58 ⟨#[117, 110, 115, 101, 101, 110]⟩ (modI late 12) (-1)).Value.a) ((putC g57 c58 ⟨#[117, 110, 115, 101, 101, 110]⟩ (modI late 12) (-1)).Value.n) ((putC g57 c58 ⟨#[117, 110, 115, 101, 101, 110]⟩ (modI late 12) (-1)).Value.c), .int .i64 ((putC g57 c58 ⟨#[117, 110, 115, 101, 101, 110]⟩ (modI late 12) (-1)).Status), .int .i64 ((putC g57 c58 ⟨#[117, 110, 115, 101, 101, 110]⟩ (modI late 12) (-1)).From), .int .i64 ((putC g57 c58 ⟨#[117, 110, 115, 101, 101, 110]⟩ (modI late 12) (-1)).To), .bool ((putC g57 c58 ⟨#[117, 110, 115, 101, 101, 110]⟩ (modI late 12) (-1)).Open), .int .i64 ((putC g57 c58 ⟨#[117, 110, 115, 101, 101, 110]⟩ (modI late 12) (-1)).Tag.Count), .int .i64 ((putC g57 c58 ⟨#[117, 110, 115, 101, 101, 110]⟩ (modI late 12) (-1)).Tag.Client)] 41, Res.bs g57 ⟨#[117, 110, 115, 101, 101, 110]⟩, Res.own 41 11 (.slice a67 (0 + no9 + 1) c68) (0 + no9 + 1) (List.flatMap GCall.cells (cl11 ++ [(putC g57 c58 ⟨#[117, 110, 115, 101, 101, 110]⟩ (modI late 12) (-1))])), Res.own 3 1 (.slice ao32 no33 co34) no33 (List.flatMap (fun (y : Nat) => [Go.Value.int .i64 (y : Int)]) xs29), Res.own 41 11 (.slice ao8 no9 co10) no9 (List.flatMap GCall.cells cl11), Res.vl F13 cl11 vs12] w115) ?_ ?_
      · refine WP.region _ rfl (by kernel_rfl) ?_
        refine OPS.batch 2 {} [] [62] [.bool ok30] .nil (by kernel_rfl) (fun b103 => ?_)
        by_cases h104 : Ex (valAt w5) cl11
        · rw [show ok30 = true from (show Bp ok30 (Ex (valAt w5) cl11) from he28).tt h104]
          refine OPS.want (by kernel_rfl) ?_
          refine OPS.cons (opStep.call (some 63) [] (by kernel_rfl) (law20_taken _) ?_)
          rintro _ w107 ⟨rfl, hf108⟩
          refine ⟨_, rfl, ?_⟩
          have hp109 := hp98.step hf108
          refine OPS.batch 2 { wraps := [64] } [] [6] [.bool true] .nil (by kernel_rfl) (fun b110 => ?_)
          refine OPS.nil ?_
          refine thn_n ?_
          exact ⟨true, trivial, Bp.of Bp.t (by first | (simp only [h104, iff_false, false_iff, iff_true, true_iff, Classical.not_not, and_true, true_and, and_false, false_and, or_true, true_or, or_false, false_or, not_true_eq_false, not_false_eq_true, and_self, or_self, iff_self]; done) | (simp [h104]; done) | simp_all), by kernel_rfl, hp109⟩
        · rw [show ok30 = false from (show Bp ok30 (Ex (valAt w5) cl11) from he28).ff h104]
          refine OPS.batch 3 { wraps := [64] } [] [6] [.bool false] .nil (by kernel_rfl) (fun b111 => ?_)
          refine OPS.nil ?_
          refine thn_n ?_
          exact ⟨false, trivial, Bp.of Bp.f (by first | (simp only [h104, iff_false, false_iff, iff_true, true_iff, Classical.not_not, and_true, true_and, and_false, false_and, or_true, true_or, or_false, false_or, not_true_eq_false, not_false_eq_true, and_self, or_self, iff_self]; done) | (simp [h104]; done) | simp_all), by kernel_rfl, hp98⟩
      rintro e114 w115 ⟨x112, hd117, hb113, hE118, hp116⟩
      obtain ⟨b119, rfl⟩ := toMk hE118
      clear hE118
      clear hd117
      refine WP.ret ?_
      refine thn_r ?_
      refine bodyQ.of _ rfl [.bool x112] ⟨rfl, trivial⟩ ?_
      exact ⟨congrArg (fun b => Ending.returned (.bool b)) (Bp.tt hb113 (by first | omega | exact ex_nil (by omega) | exact ⟨ex_nil (by omega), trivial⟩ | simp_all)), hp116.fr⟩
    · refine WP.skip ?_
      refine thn_n ?_
      refine WP.seq ?_
      refine WP.region _ rfl (by kernel_rfl) ?_
      refine OPS.batch 3 {} [] [2, 7, 9, 65, 67] [.int .i64 late, .slice ao8 no9 co10, .bool ok30, .int .i64 out, .int .i64 ((no9 : Nat) : Int)] .nil (by kernel_rfl) (fun b120 => ?_)
      refine OPS.cons (opStep.call (some 68) [.int .i64 out, .int .i64 ((no9 : Nat) : Int)] (by kernel_rfl) (law20_mod out ((no9 : Nat) : Int) _ (by omega) (by omega)) ?_)
      rintro _ w123 ⟨rfl, hf124⟩
      refine ⟨_, rfl, ?_⟩
      have hp125 := hp98.step hf124
      have := modI_bd out (k := ((no9 : Nat) : Int)) (by omega)
      obtain ⟨ha1_, ha2_, _⟩ := dr_at h17 (i := (modI out ((no9 : Nat) : Int)).toNat) (by omega)
      have ha3_ := dfT_bd l1[(modI out ((no9 : Nat) : Int)).toNat]!
      refine OPS.batch 1 {} [] [2, 7, 9, 15] [.int .i64 late, .slice ao8 no9 co10, .bool ok30, .int .i64 (modI out ((no9 : Nat) : Int))] .nil (by kernel_rfl) (fun b126 => ?_)
      refine OPS.nil ?_
      refine thn_n ?_
      refine WP.seq ?_
      refine WP.seq ?_
      have := own_flat (sz := 11) (fun _ => rfl) (by decide) hp125.get5
      have hy128 : (cl11)[(modI out ((no9 : Nat) : Int) : Int).toNat]? = some cl11[(modI out ((no9 : Nat) : Int) : Int).toNat]! := get_bang (by first | (omega) | (simp only [List.length_append, List.length_cons, List.length_nil]; omega))
      refine WP.pure {} [.bool (cl11[(modI out ((no9 : Nat) : Int) : Int).toNat]!.Put)] [2, 7, 9, 15, 74] [.int .i64 late, .slice ao8 no9 co10, .bool ok30, .int .i64 (modI out ((no9 : Nat) : Int)), .bool (!(cl11[(modI out ((no9 : Nat) : Int) : Int).toNat]!.Put))] (.cons (show InB (modI out ((no9 : Nat) : Int)) (no9) from ⟨by omega, by omega⟩) (.cons ((SlR.own (hp125.get5)).some (by omega)) (.cons (Ld.el1 (P := Try.prog) (t := 4) (SlR.own (hp125.get5)).rd 11 (fun _ => rfl) hy128 (o := 2) (v := .bool (cl11[(modI out ((no9 : Nat) : Int) : Int).toNat]!.Put)) (by kernel_rfl)) .nil))) (by kernel_rfl) (fun b129 => ?_)
      refine thn_n ?_
      refine WP.test (p := ¬ ((cl11[(modI out ((no9 : Nat) : Int) : Int).toNat]!.Put) = true)) rfl (Bp.not Bp.var) (fun h130 => ?_) (fun h130 => ?_)
      · refine WP.seq ?_
        have hp131 := hp125.drew
        have := own_cap hp131.get5
        have := own_cap hp131.get5
        refine WP.held (fun w132 => True) [] [(1, true), (2, true), (3, true), (5, true), (6, true), (7, true), (8, true), (0, false), (4, false), (9, false), (10, true)] (np_thn (np_thn np_body)) (by kernel_rfl) ?_
        have := own_cap hp131.get5
        have := own_cap hp131.get5
        refine HOPS.take 7 {} [] [2, 7, 9, 15, 78, 83] [.int .i64 late, .slice ao8 no9 co10, .bool ok30, .int .i64 (modI out ((no9 : Nat) : Int)), .slice ao8 ((modI out ((no9 : Nat) : Int) : Int).toNat) co10, .slice (slOff ao8 co10 (((modI out ((no9 : Nat) : Int)) + 1 : Int).toNat) 11) (no9 - ((modI out ((no9 : Nat) : Int)) + 1 : Int).toNat) (co10 - ((modI out ((no9 : Nat) : Int)) + 1 : Int).toNat)] (by kernel_rfl) trivial (fun w133 hS134 => QB.mk (.cons (show 0 ≤ (modI out ((no9 : Nat) : Int)) ∧ (modI out ((no9 : Nat) : Int)) ≤ ((co10 : Nat) : Int) from ⟨by omega, by omega⟩) (.cons (show Rng .i64 ((modI out ((no9 : Nat) : Int)) + 1) from Rng.i64 (by omega)) (.cons (show 0 ≤ ((modI out ((no9 : Nat) : Int)) + 1) ∧ ((modI out ((no9 : Nat) : Int)) + 1) ≤ ((no9 : Nat) : Int) from ⟨by omega, by omega⟩) .nil))) (by kernel_rfl)) (fun b135 => ?_)
        refine HOPS.eff _ rfl (opStep.buildSlice0 (E := 41) hp131 (by kernel_rfl) (fun g138 w136 hp137 => ?_))
        refine ⟨.inr trivial, ?_⟩
        have hp141 := hp137.pull0
        have hp142 := (show Hp w Non [Res.own 41 11 (.slice (some ⟨g138, 0, none⟩) 0 0) 0 (List.flatMap GCall.cells []), Res.own 3 1 (.slice ao86 no87 co88) no87 (List.flatMap (fun (y : Nat) => [Go.Value.int .i64 (y : Int)]) xs83), Res.row g64 [.int .i64 ((putC g57 c58 ⟨#[117, 110, 115, 101, 101, 110]⟩ (modI late 12) (-1)).Client), .int .i64 ((putC g57 c58 ⟨#[117, 110, 115, 101, 101, 110]⟩ (modI late 12) (-1)).Op), .bool ((putC g57 c58 ⟨#[117, 110, 115, 101, 101, 110]⟩ (modI late 12) (-1)).Put), .string ((putC g57 c58 ⟨#[117, 110, 115, 101, 101, 110]⟩ (modI late 12) (-1)).Key), .slice ((putC g57 c58 ⟨#[117, 110, 115, 101, 101, 110]⟩ (modI late 12) (-1)).Value.a) ((putC g57 c58 ⟨#[117, 110, 115, 101, 101, 110]⟩ (modI late 12) (-1)).Value.n) ((putC g57 c58 ⟨#[117, 110, 115, 101, 101, 110]⟩ (modI late 12) (-1)).Value.c), .int .i64 ((putC g57 c58 ⟨#[117, 110, 115, 101, 101, 110]⟩ (modI late 12) (-1)).Status), .int .i64 ((putC g57 c58 ⟨#[117, 110, 115, 101, 101, 110]⟩ (modI late 12) (-1)).From), .int .i64 ((putC g57 c58 ⟨#[117, 110, 115, 101, 101, 110]⟩ (modI late 12) (-1)).To), .bool ((putC g57 c58 ⟨#[117, 110, 115, 101, 101, 110]⟩ (modI late 12) (-1)).Open), .int .i64 ((putC g57 c58 ⟨#[117, 110, 115, 101, 101, 110]⟩ (modI late 12) (-1)).Tag.Count), .int .i64 ((putC g57 c58 ⟨#[117, 110, 115, 101, 101, 110]⟩ (modI late 12) (-1)).Tag.Client)] 41, Res.bs g57 ⟨#[117, 110, 115, 101, 101, 110]⟩, Res.own 41 11 (.slice a67 (0 + no9 + 1) c68) (0 + no9 + 1) (List.flatMap GCall.cells (cl11 ++ [(putC g57 c58 ⟨#[117, 110, 115, 101, 101, 110]⟩ (modI late 12) (-1))])), Res.own 3 1 (.slice ao32 no33 co34) no33 (List.flatMap (fun (y : Nat) => [Go.Value.int .i64 (y : Int)]) xs29), Res.own 41 11 (.slice ao8 no9 co10) no9 (List.flatMap GCall.cells cl11), Res.vl F13 cl11 vs12] w136 from hp141.rowOwn 11)
        refine HOPS.eff _ rfl (opStep.appendS (A := []) hp142 112 (by kernel_rfl) rfl rfl (slr_take2 (sz := 11) (fun _ => rfl) (SlR.own (hp142.get6)) (by omega)) (flat_n (fun _ => rfl) (by have := (own_flat (sz := 11) (fun _ => rfl) (by decide) hp142.get6); simp only [List.length_take, List.length_drop]; omega)) (one_flat (fun _ => rfl)) (by decide) (by omega) (by omega) (fun a143 c144 w145 hp146 => ?_))
        rw [show List.flatMap GCall.cells [] ++ List.flatMap GCall.cells (List.take ((modI out ((no9 : Nat) : Int) : Int).toNat) cl11) = List.flatMap GCall.cells (List.take ((modI out ((no9 : Nat) : Int) : Int).toNat) cl11) from rfl] at hp146
        simp only [List.cons_append, List.nil_append] at hp146
        refine ⟨.inr trivial, ?_⟩
        refine HOPS.eff _ rfl (opStep.appendS (A := []) hp146 112 (by kernel_rfl) rfl rfl (slr_drop (sz := 11) (fun _ => rfl) (own_flat (sz := 11) (fun _ => rfl) (by decide) hp146.get6) (SlR.own (hp146.get6)) (by omega) (own_cap hp146.get6)) (flat_n (fun _ => rfl) (by have := (own_flat (sz := 11) (fun _ => rfl) (by decide) hp146.get6); simp only [List.length_take, List.length_drop]; omega)) (one_flat (fun _ => rfl)) (by decide) (by omega) (by omega) (fun a149 c150 w151 hp152 => ?_))
        rw [show List.flatMap GCall.cells (List.take ((modI out ((no9 : Nat) : Int) : Int).toNat) cl11) ++ List.flatMap GCall.cells (List.drop (((modI out ((no9 : Nat) : Int)) + 1 : Int).toNat) cl11) = List.flatMap GCall.cells ((List.take ((modI out ((no9 : Nat) : Int) : Int).toNat) cl11) ++ (List.drop (((modI out ((no9 : Nat) : Int)) + 1 : Int).toNat) cl11)) from List.flatMap_append.symm] at hp152
        simp only [List.cons_append, List.nil_append] at hp152
        refine ⟨.inr trivial, ?_⟩
        refine HOPS.take 1 {} [] [2, 7, 9, 15, 16] [.int .i64 late, .slice ao8 no9 co10, .bool ok30, .int .i64 (modI out ((no9 : Nat) : Int)), .slice a149 (0 + ((modI out ((no9 : Nat) : Int) : Int).toNat) + (no9 - ((modI out ((no9 : Nat) : Int)) + 1 : Int).toNat)) c150] (by kernel_rfl) trivial (fun w153 hS154 => QB.mk .nil (by kernel_rfl)) (fun b155 => ?_)
        refine HOPS.nil ?_
        refine thn_n ?_
        refine WP.seq ?_
        refine WP.region _ rfl (by kernel_rfl) ?_
        refine OPS.batch 1 {} [] [2, 7, 9, 15, 86] [.int .i64 late, .slice ao8 no9 co10, .bool ok30, .int .i64 (modI out ((no9 : Nat) : Int)), .slice a149 (0 + ((modI out ((no9 : Nat) : Int) : Int).toNat) + (no9 - ((modI out ((no9 : Nat) : Int)) + 1 : Int).toNat)) c150] .nil (by kernel_rfl) (fun b156 => ?_)
        have hz163_l : ((List.take ((modI out ((no9 : Nat) : Int) : Int).toNat) cl11) ++ (List.drop (((modI out ((no9 : Nat) : Int)) + 1 : Int).toNat) cl11)).length = 0 + ((modI out ((no9 : Nat) : Int) : Int).toNat) + (no9 - ((modI out ((no9 : Nat) : Int)) + 1 : Int).toNat) := (by simp only [List.length_append, List.length_take, List.length_drop]; omega)
        refine OPS.cons (opStep.call (some 87) [.slice a149 (0 + ((modI out ((no9 : Nat) : Int) : Int).toNat) + (no9 - ((modI out ((no9 : Nat) : Int)) + 1 : Int).toNat)) c150] (by kernel_rfl) (lin_OneN ((List.take ((modI out ((no9 : Nat) : Int) : Int).toNat) cl11) ++ (List.drop (((modI out ((no9 : Nat) : Int)) + 1 : Int).toNat) cl11)) (0 + ((modI out ((no9 : Nat) : Int) : Int).toNat) + (no9 - ((modI out ((no9 : Nat) : Int)) + 1 : Int).toNat)) hz163_l a149 c150 _ (SlR.own hp152.get0) (mem_less (vl_vb hp152.get7)) (by omega)) ?_)
        rintro _ w159 ⟨xs165, ok166, e167, ao168, no169, co170, rfl, hx161, hn162⟩
        obtain ⟨he164_0, he164, _⟩ := ex_one (ok_mem (mem_less (dr_mem h17))) (by omega) hx161
        subst he164_0
        have himp_ : Ex (valAt w5) cl11 → Ex (valAt w151) ((List.take ((modI out ((no9 : Nat) : Int) : Int).toNat) cl11) ++ (List.drop (((modI out ((no9 : Nat) : Int)) + 1 : Int).toNat) cl11)) := fun q => by have q2 := less_ex (i := (modI out ((no9 : Nat) : Int)).toNat) h17 (by omega) (by assumption) (fun i hi => vl_val hp7.get1 (by rw [h17.1]; exact hi)) (fun i hi => vl_val hp152.get7 (by rw [h17.1]; exact hi)) q; rw [show (modI out ((no9 : Nat) : Int)).toNat + 1 = (modI out ((no9 : Nat) : Int) + 1).toNat from by omega] at q2; exact q2
        refine ⟨_, rfl, ?_⟩
        have hp160 := hp152.made hn162
        refine OPS.batch 7 {} [] [2, 7, 9, 15, 18, 19] [.int .i64 late, .slice ao8 no9 co10, .bool ok30, .int .i64 (modI out ((no9 : Nat) : Int)), .bool ok166, .int .i64 0] .nil (by kernel_rfl) (fun b172 => ?_)
        refine OPS.nil ?_
        refine thn_n ?_
        refine WP.cut (fun e182 w183 => ∃ (x180 : Bool), (True) ∧ Bp x180 ((Ex (valAt w5) cl11) ∧ (¬ (Ex (valAt w151) ((List.take ((modI out ((no9 : Nat) : Int) : Int).toNat) cl11) ++ (List.drop (((modI out ((no9 : Nat) : Int)) + 1 : Int).toNat) cl11))))) ∧ List.map e182 [2, 7, 9, 15, 99] = [.int .i64 late, .slice ao8 no9 co10, .bool ok30, .int .i64 (modI out ((no9 : Nat) : Int)), .bool x180] ∧ Hp w Non [Res.own 3 1 (.slice ao168 no169 co170) no169 (List.flatMap (fun (y : Nat) => [Go.Value.int .i64 (y : Int)]) xs165), Res.own 41 11 (.slice a149 (0 + ((modI out ((no9 : Nat) : Int) : Int).toNat) + (no9 - ((modI out ((no9 : Nat) : Int)) + 1 : Int).toNat)) c150) (0 + ((modI out ((no9 : Nat) : Int) : Int).toNat) + (no9 - ((modI out ((no9 : Nat) : Int)) + 1 : Int).toNat)) (List.flatMap GCall.cells ((List.take ((modI out ((no9 : Nat) : Int) : Int).toNat) cl11) ++ (List.drop (((modI out ((no9 : Nat) : Int)) + 1 : Int).toNat) cl11))), Res.own 3 1 (.slice ao86 no87 co88) no87 (List.flatMap (fun (y : Nat) => [Go.Value.int .i64 (y : Int)]) xs83), Res.row g64 [.int .i64 ((putC g57 c58 ⟨#[117, 110, 115, 101, 101, 110]⟩ (modI late 12) (-1)).Client), .int .i64 ((putC g57 c58 ⟨#[117, 110, 115, 101, 101, 110]⟩ (modI late 12) (-1)).Op), .bool ((putC g57 c58 ⟨#[117, 110, 115, 101, 101, 110]⟩ (modI late 12) (-1)).Put), .string ((putC g57 c58 ⟨#[117, 110, 115, 101, 101, 110]⟩ (modI late 12) (-1)).Key), .slice ((putC g57 c58 ⟨#[117, 110, 115, 101, 101, 110]⟩ (modI late 12) (-1)).Value.a) ((putC g57 c58 ⟨#[117, 110, 115, 101, 101, 110]⟩ (modI late 12) (-1)).Value.n) ((putC g57 c58 ⟨#[117, 110, 115, 101, 101, 110]⟩ (modI late 12) (-1)).Value.c), .int .i64 ((putC g57 c58 ⟨#[117, 110, 115, 101, 101, 110]⟩ (modI late 12) (-1)).Status), .int .i64 ((putC g57 c58 ⟨#[117, 110, 115, 101, 101, 110]⟩ (modI late 12) (-1)).From), .int .i64 ((putC g57 c58 ⟨#[117, 110, 115, 101, 101, 110]⟩ (modI late 12) (-1)).To), .bool ((putC g57 c58 ⟨#[117, 110, 115, 101, 101, 110]⟩ (modI late 12) (-1)).Open), .int .i64 ((putC g57 c58 ⟨#[117, 110, 115, 101, 101, 110]⟩ (modI late 12) (-1)).Tag.Count), .int .i64 ((putC g57 c58 ⟨#[117, 110, 115, 101, 101, 110]⟩ (modI late 12) (-1)).Tag.Client)] 41, Res.bs g57 ⟨#[117, 110, 115, 101, 101, 110]⟩, Res.own 41 11 (.slice a67 (0 + no9 + 1) c68) (0 + no9 + 1) (List.flatMap GCall.cells (cl11 ++ [(putC g57 c58 ⟨#[117, 110, 115, 101, 101, 110]⟩ (modI late 12) (-1))])), Res.own 3 1 (.slice ao32 no33 co34) no33 (List.flatMap (fun (y : Nat) => [Go.Value.int .i64 (y : Int)]) xs29), Res.own 41 11 (.slice ao8 no9 co10) no9 (List.flatMap GCall.cells cl11), Res.vl F13 cl11 vs12] w183) ?_ ?_
        · refine WP.region _ rfl (by kernel_rfl) ?_
          refine OPS.batch 5 {} [] [2, 7, 9, 15, 18, 93, 95] [.int .i64 late, .slice ao8 no9 co10, .bool ok30, .int .i64 (modI out ((no9 : Nat) : Int)), .bool ok166, .bool false, .bool ok30] .nil (by kernel_rfl) (fun b174 => ?_)
          by_cases h175 : Ex (valAt w5) cl11
          · refine OPS.batch 0 {} [] [2, 7, 9, 15, 18, 93, 95] [.int .i64 late, .slice ao8 no9 co10, .bool ok30, .int .i64 (modI out ((no9 : Nat) : Int)), .bool ok166, .bool false, .bool ok30] .nil (by kernel_rfl) (fun b176 => ?_)
            refine OPS.re [.int .i64 late, .slice ao8 no9 co10, .bool ok30, .int .i64 (modI out ((no9 : Nat) : Int)), .bool ok166, .bool false, .bool true] (by rw [show ok30 = true from (show Bp ok30 (Ex (valAt w5) cl11) from he28).tt h175]) ?_
            refine OPS.batch 4 { wraps := [98, 99] } [] [2, 7, 9, 15, 99] [.int .i64 late, .slice ao8 no9 co10, .bool ok30, .int .i64 (modI out ((no9 : Nat) : Int)), .bool (!ok166)] .nil (by kernel_rfl) (fun b177 => ?_)
            refine OPS.nil ?_
            refine thn_n ?_
            exact ⟨!ok166, trivial, Bp.of (Bp.not (show Bp ok166 (Ex (valAt w151) ((List.take ((modI out ((no9 : Nat) : Int) : Int).toNat) cl11) ++ (List.drop (((modI out ((no9 : Nat) : Int)) + 1 : Int).toNat) cl11))) from he164)) (by first | (simp only [h175, iff_false, false_iff, iff_true, true_iff, Classical.not_not, and_true, true_and, and_false, false_and, or_true, true_or, or_false, false_or, not_true_eq_false, not_false_eq_true, and_self, or_self, iff_self]; done) | (simp [h175]; done) | simp_all), by kernel_rfl, hp160⟩
          · refine OPS.batch 0 {} [] [2, 7, 9, 15, 18, 93, 95] [.int .i64 late, .slice ao8 no9 co10, .bool ok30, .int .i64 (modI out ((no9 : Nat) : Int)), .bool ok166, .bool false, .bool ok30] .nil (by kernel_rfl) (fun b178 => ?_)
            refine OPS.re [.int .i64 late, .slice ao8 no9 co10, .bool ok30, .int .i64 (modI out ((no9 : Nat) : Int)), .bool ok166, .bool false, .bool false] (by rw [show ok30 = false from (show Bp ok30 (Ex (valAt w5) cl11) from he28).ff h175]) ?_
            refine OPS.batch 4 { wraps := [98, 99] } [] [2, 7, 9, 15, 99] [.int .i64 late, .slice ao8 no9 co10, .bool ok30, .int .i64 (modI out ((no9 : Nat) : Int)), .bool false] .nil (by kernel_rfl) (fun b179 => ?_)
            refine OPS.nil ?_
            refine thn_n ?_
            exact ⟨false, trivial, Bp.of Bp.f (by first | (simp only [h175, iff_false, false_iff, iff_true, true_iff, Classical.not_not, and_true, true_and, and_false, false_and, or_true, true_or, or_false, false_or, not_true_eq_false, not_false_eq_true, and_self, or_self, iff_self]; done) | (simp [h175]; done) | simp_all), by kernel_rfl, hp160⟩
        rintro e182 w183 ⟨x180, hd185, hb181, hE186, hp184⟩
        obtain ⟨b187, rfl⟩ := toMk hE186
        clear hE186
        clear hd185
        refine WP.test (p := (Ex (valAt w5) cl11) ∧ (¬ (Ex (valAt w151) ((List.take ((modI out ((no9 : Nat) : Int) : Int).toNat) cl11) ++ (List.drop (((modI out ((no9 : Nat) : Int)) + 1 : Int).toNat) cl11))))) rfl hb181 (fun h188 => ?_) (fun h188 => ?_)
        · refine WP.seq ?_
          refine WP.pure {} [] [6] [.bool false] .nil (by kernel_rfl) (fun b189 => ?_)
          refine thn_n ?_
          refine WP.ret ?_
          refine thn_r ?_
          refine bodyQ.of _ rfl [.bool false] ⟨rfl, trivial⟩ ?_
          exfalso
          first | (clear h91 h101 h130; first | omega | exact ex_nil (by omega) | exact ⟨ex_nil (by omega), trivial⟩ | simp_all) | first | omega | exact ex_nil (by omega) | exact ⟨ex_nil (by omega), trivial⟩ | simp_all
        · refine WP.skip ?_
          refine thn_n ?_
          refine WP.seq ?_
          refine WP.seq ?_
          refine WP.pure {} [.int .i64 (cl11[(modI out ((no9 : Nat) : Int) : Int).toNat]!.To)] [2, 7, 9, 15, 105] [.int .i64 late, .slice ao8 no9 co10, .bool ok30, .int .i64 (modI out ((no9 : Nat) : Int)), .bool (decide (0 ≤ (cl11[(modI out ((no9 : Nat) : Int) : Int).toNat]!.To)))] (.cons (show InB (modI out ((no9 : Nat) : Int)) (no9) from ⟨by omega, by omega⟩) (.cons ((SlR.own (hp184.get7)).some (by omega)) (.cons (Ld.el1 (P := Try.prog) (t := 3) (SlR.own (hp184.get7)).rd 11 (fun _ => rfl) hy128 (o := 7) (v := .int .i64 (cl11[(modI out ((no9 : Nat) : Int) : Int).toNat]!.To)) (by kernel_rfl)) .nil))) (by kernel_rfl) (fun b190 => ?_)
          refine thn_n ?_
          refine WP.test (p := 0 ≤ (cl11[(modI out ((no9 : Nat) : Int) : Int).toNat]!.To)) rfl Bp.dec (fun h191 => ?_) (fun h191 => ?_)
          · refine WP.seq ?_
            have hp192 := hp184.drew
            refine WP.held (fun w193 => Ld Try.prog w193 3 (((adr ao8).add ((modI out ((no9 : Nat) : Int) : Int).toNat * 11)).add 7) (.int .i64 (cl11[(modI out ((no9 : Nat) : Int) : Int).toNat]!.To)) ∧ True) [11] [(0, true), (1, true), (2, true), (3, true), (4, true), (5, true), (6, false), (7, true), (8, true), (9, false), (10, true), (11, false)] (np_thn (np_thn np_body)) (by kernel_rfl) ?_
            refine HOPS.take 6 {} [.int .i64 (cl11[(modI out ((no9 : Nat) : Int) : Int).toNat]!.To)] [7, 9, 106, 107, 110, 111] [.slice ao8 no9 co10, .bool ok30, .slice ao8 no9 co10, .int .i64 (modI out ((no9 : Nat) : Int)), .int .i64 (cl11[(modI out ((no9 : Nat) : Int) : Int).toNat]!.To), .int .i64 late] (by kernel_rfl) ⟨(show Ld Try.prog w183.drew 3 (((adr ao8).add ((modI out ((no9 : Nat) : Int) : Int).toNat * 11)).add 7) (.int .i64 (cl11[(modI out ((no9 : Nat) : Int) : Int).toNat]!.To)) from (Ld.el1 (P := Try.prog) (t := 3) (SlR.own (hp192.get7)).rd 11 (fun _ => rfl) hy128 (o := 7) (v := .int .i64 (cl11[(modI out ((no9 : Nat) : Int) : Int).toNat]!.To)) (by kernel_rfl))), trivial⟩ (fun w194 hS195 => QB.mk (.cons (show InB (modI out ((no9 : Nat) : Int)) (no9) from ⟨by omega, by omega⟩) (.cons ((SlR.own (hp192.get7)).some (by omega)) (.cons (hS195.1) .nil))) (by kernel_rfl)) (fun b196 => ?_)
            refine HOPS.eff _ rfl (opStep.call (some 112) [.int .i64 late, .int .i64 20] (by kernel_rfl) (law20_mod late 20 _ (by omega) (by omega)) ?_)
            rintro _ w199 ⟨rfl, hf200⟩
            refine ⟨_, rfl, ?_⟩
            have hp201 := hp192.step hf200
            have := modI_bd late (k := 20) (by omega)
            refine ⟨.inr ⟨(show Ld Try.prog w199 3 (((adr ao8).add ((modI out ((no9 : Nat) : Int) : Int).toNat * 11)).add 7) (.int .i64 (cl11[(modI out ((no9 : Nat) : Int) : Int).toNat]!.To)) from (Ld.el1 (P := Try.prog) (t := 3) (SlR.own (hp201.get7)).rd 11 (fun _ => rfl) hy128 (o := 7) (v := .int .i64 (cl11[(modI out ((no9 : Nat) : Int) : Int).toNat]!.To)) (by kernel_rfl))), trivial⟩, ?_⟩
            refine HOPS.take 2 {} [] [7, 9, 106, 107, 114] [.slice ao8 no9 co10, .bool ok30, .slice ao8 no9 co10, .int .i64 (modI out ((no9 : Nat) : Int)), .int .i64 ((cl11[(modI out ((no9 : Nat) : Int) : Int).toNat]!.To) + (1 + (modI late 20)))] (by kernel_rfl) ⟨(show Ld Try.prog w199 3 (((adr ao8).add ((modI out ((no9 : Nat) : Int) : Int).toNat * 11)).add 7) (.int .i64 (cl11[(modI out ((no9 : Nat) : Int) : Int).toNat]!.To)) from (Ld.el1 (P := Try.prog) (t := 3) (SlR.own (hp201.get7)).rd 11 (fun _ => rfl) hy128 (o := 7) (v := .int .i64 (cl11[(modI out ((no9 : Nat) : Int) : Int).toNat]!.To)) (by kernel_rfl))), trivial⟩ (fun w202 hS203 => QB.mk (.cons (show Rng .i64 (1 + (modI late 20)) from Rng.i64 (by omega)) (.cons (show Rng .i64 ((cl11[(modI out ((no9 : Nat) : Int) : Int).toNat]!.To) + (1 + (modI late 20))) from Rng.i64 (by omega)) .nil)) (by kernel_rfl)) (fun b204 => ?_)
            refine HOPS.one _ rfl {} [] [7, 9, 114, 115] [.slice ao8 no9 co10, .bool ok30, .int .i64 ((cl11[(modI out ((no9 : Nat) : Int) : Int).toNat]!.To) + (1 + (modI late 20))), .pointer (some ((adr ao8).add ((modI out ((no9 : Nat) : Int) : Int).toNat * 11)))] (.cons (show InB (modI out ((no9 : Nat) : Int)) (no9) from ⟨by omega, by omega⟩) (.cons ((SlR.own (hp201.get7)).some (by omega)) .nil)) (by kernel_rfl) ⟨(show Ld Try.prog w199 3 (((adr ao8).add ((modI out ((no9 : Nat) : Int) : Int).toNat * 11)).add 7) (.int .i64 (cl11[(modI out ((no9 : Nat) : Int) : Int).toNat]!.To)) from (Ld.el1 (P := Try.prog) (t := 3) (SlR.own (hp201.get7)).rd 11 (fun _ => rfl) hy128 (o := 7) (v := .int .i64 (cl11[(modI out ((no9 : Nat) : Int) : Int).toNat]!.To)) (by kernel_rfl))), trivial⟩ (fun b207 => ?_)
            refine HOPS.take 1 {} [] [7, 9, 114, 116] [.slice ao8 no9 co10, .bool ok30, .int .i64 ((cl11[(modI out ((no9 : Nat) : Int) : Int).toNat]!.To) + (1 + (modI late 20))), .pointer (some (((adr ao8).add ((modI out ((no9 : Nat) : Int) : Int).toNat * 11)).add 7))] (by kernel_rfl) ⟨(show Ld Try.prog w199 3 (((adr ao8).add ((modI out ((no9 : Nat) : Int) : Int).toNat * 11)).add 7) (.int .i64 (cl11[(modI out ((no9 : Nat) : Int) : Int).toNat]!.To)) from (Ld.el1 (P := Try.prog) (t := 3) (SlR.own (hp201.get7)).rd 11 (fun _ => rfl) hy128 (o := 7) (v := .int .i64 (cl11[(modI out ((no9 : Nat) : Int) : Int).toNat]!.To)) (by kernel_rfl))), trivial⟩ (fun w208 hS209 => QB.mk .nil (by kernel_rfl)) (fun b210 => ?_)
            have := own_flat (sz := 11) (fun _ => rfl) (by decide) hp201.get7
            try simp only [List.length_set] at this
            refine HOPS.eff _ rfl (opStep.storeOwn7 ((modI out ((no9 : Nat) : Int) : Int).toNat * 11 + 7) hp201 (by exact congrArg (fun z => Value.pointer (some z)) (addr_add2 (adr ao8) ((modI out ((no9 : Nat) : Int) : Int).toNat * 11) 7)) [.int .i64 ((cl11[(modI out ((no9 : Nat) : Int) : Int).toNat]!.To) + (1 + (modI late 20)))] (by kernel_rfl) (by simp) (show (modI out ((no9 : Nat) : Int) : Int).toNat * 11 + 7 + 1 ≤ no9 * 11 by omega) (fun w211 hp212 => ?_))
            have hp213 := hp212
            rw [show ow (List.flatMap GCall.cells cl11) ((modI out ((no9 : Nat) : Int) : Int).toNat * 11 + 7) [.int .i64 ((cl11[(modI out ((no9 : Nat) : Int) : Int).toNat]!.To) + (1 + (modI late 20)))] = List.flatMap GCall.cells (cl11.set ((modI out ((no9 : Nat) : Int) : Int).toNat) (⟨cl11[(modI out ((no9 : Nat) : Int) : Int).toNat]!.Client, cl11[(modI out ((no9 : Nat) : Int) : Int).toNat]!.Op, cl11[(modI out ((no9 : Nat) : Int) : Int).toNat]!.Put, cl11[(modI out ((no9 : Nat) : Int) : Int).toNat]!.Key, cl11[(modI out ((no9 : Nat) : Int) : Int).toNat]!.Value, cl11[(modI out ((no9 : Nat) : Int) : Int).toNat]!.Status, cl11[(modI out ((no9 : Nat) : Int) : Int).toNat]!.From, (cl11[(modI out ((no9 : Nat) : Int) : Int).toNat]!.To) + (1 + (modI late 20)), cl11[(modI out ((no9 : Nat) : Int) : Int).toNat]!.Open, (⟨cl11[(modI out ((no9 : Nat) : Int) : Int).toNat]!.Tag.Count, cl11[(modI out ((no9 : Nat) : Int) : Int).toNat]!.Tag.Client⟩ : GTag)⟩ : GCall)) from ow_flat_part (sz := 11) (fun _ => rfl) (show 7 + 1 ≤ 11 by decide) (by first | (omega) | (simp only [List.length_set]; omega)) (⟨cl11[(modI out ((no9 : Nat) : Int) : Int).toNat]!.Client, cl11[(modI out ((no9 : Nat) : Int) : Int).toNat]!.Op, cl11[(modI out ((no9 : Nat) : Int) : Int).toNat]!.Put, cl11[(modI out ((no9 : Nat) : Int) : Int).toNat]!.Key, cl11[(modI out ((no9 : Nat) : Int) : Int).toNat]!.Value, cl11[(modI out ((no9 : Nat) : Int) : Int).toNat]!.Status, cl11[(modI out ((no9 : Nat) : Int) : Int).toNat]!.From, (cl11[(modI out ((no9 : Nat) : Int) : Int).toNat]!.To) + (1 + (modI late 20)), cl11[(modI out ((no9 : Nat) : Int) : Int).toNat]!.Open, (⟨cl11[(modI out ((no9 : Nat) : Int) : Int).toNat]!.Tag.Count, cl11[(modI out ((no9 : Nat) : Int) : Int).toNat]!.Tag.Client⟩ : GTag)⟩ : GCall) (by first | rfl | (rw [set_get (by omega), if_pos rfl]; rfl))] at hp213
            refine ⟨.inl rfl, ?_⟩
            refine HOPS.nil ?_
            refine thn_n ?_
            refine WP.seq ?_
            refine WP.region _ rfl (by kernel_rfl) ?_
            refine OPS.batch 1 {} [] [9, 118] [.bool ok30, .slice ao8 no9 co10] .nil (by kernel_rfl) (fun b214 => ?_)
            have hz221_l : (cl11.set ((modI out ((no9 : Nat) : Int) : Int).toNat) (⟨cl11[(modI out ((no9 : Nat) : Int) : Int).toNat]!.Client, cl11[(modI out ((no9 : Nat) : Int) : Int).toNat]!.Op, cl11[(modI out ((no9 : Nat) : Int) : Int).toNat]!.Put, cl11[(modI out ((no9 : Nat) : Int) : Int).toNat]!.Key, cl11[(modI out ((no9 : Nat) : Int) : Int).toNat]!.Value, cl11[(modI out ((no9 : Nat) : Int) : Int).toNat]!.Status, cl11[(modI out ((no9 : Nat) : Int) : Int).toNat]!.From, (cl11[(modI out ((no9 : Nat) : Int) : Int).toNat]!.To) + (1 + (modI late 20)), cl11[(modI out ((no9 : Nat) : Int) : Int).toNat]!.Open, (⟨cl11[(modI out ((no9 : Nat) : Int) : Int).toNat]!.Tag.Count, cl11[(modI out ((no9 : Nat) : Int) : Int).toNat]!.Tag.Client⟩ : GTag)⟩ : GCall)).length = no9 := (by rw [List.length_set]; omega)
            refine OPS.cons (opStep.call (some 119) [.slice ao8 no9 co10] (by kernel_rfl) (lin_OneN (cl11.set ((modI out ((no9 : Nat) : Int) : Int).toNat) (⟨cl11[(modI out ((no9 : Nat) : Int) : Int).toNat]!.Client, cl11[(modI out ((no9 : Nat) : Int) : Int).toNat]!.Op, cl11[(modI out ((no9 : Nat) : Int) : Int).toNat]!.Put, cl11[(modI out ((no9 : Nat) : Int) : Int).toNat]!.Key, cl11[(modI out ((no9 : Nat) : Int) : Int).toNat]!.Value, cl11[(modI out ((no9 : Nat) : Int) : Int).toNat]!.Status, cl11[(modI out ((no9 : Nat) : Int) : Int).toNat]!.From, (cl11[(modI out ((no9 : Nat) : Int) : Int).toNat]!.To) + (1 + (modI late 20)), cl11[(modI out ((no9 : Nat) : Int) : Int).toNat]!.Open, (⟨cl11[(modI out ((no9 : Nat) : Int) : Int).toNat]!.Tag.Count, cl11[(modI out ((no9 : Nat) : Int) : Int).toNat]!.Tag.Client⟩ : GTag)⟩ : GCall)) no9 hz221_l ao8 co10 _ (SlR.own hp213.get7) (mem_later (vl_vb hp213.get8) (show VB w211 cl11[(modI out ((no9 : Nat) : Int)).toNat]!.Value from vl_vb hp213.get8 _ (List.mem_of_getElem? (get_bang (by omega))))) (by omega)) ?_)
            rintro _ w217 ⟨xs223, ok224, e225, ao226, no227, co228, rfl, hx219, hn220⟩
            obtain ⟨he222_0, he222, _⟩ := ex_one (ok_mem (mem_later (dr_mem h17) (by have := dr_ok h17 (i := (modI out ((no9 : Nat) : Int)).toNat) (by omega); simp only [okArg] at this ⊢; omega))) (by omega) hx219
            subst he222_0
            have himp2_ : Ex (valAt w5) cl11 → Ex (valAt w211) (cl11.set ((modI out ((no9 : Nat) : Int) : Int).toNat) (⟨cl11[(modI out ((no9 : Nat) : Int) : Int).toNat]!.Client, cl11[(modI out ((no9 : Nat) : Int) : Int).toNat]!.Op, cl11[(modI out ((no9 : Nat) : Int) : Int).toNat]!.Put, cl11[(modI out ((no9 : Nat) : Int) : Int).toNat]!.Key, cl11[(modI out ((no9 : Nat) : Int) : Int).toNat]!.Value, cl11[(modI out ((no9 : Nat) : Int) : Int).toNat]!.Status, cl11[(modI out ((no9 : Nat) : Int) : Int).toNat]!.From, (cl11[(modI out ((no9 : Nat) : Int) : Int).toNat]!.To) + (1 + (modI late 20)), cl11[(modI out ((no9 : Nat) : Int) : Int).toNat]!.Open, (⟨cl11[(modI out ((no9 : Nat) : Int) : Int).toNat]!.Tag.Count, cl11[(modI out ((no9 : Nat) : Int) : Int).toNat]!.Tag.Client⟩ : GTag)⟩ : GCall)) := later_ex h17 (by omega) (by assumption) ⟨rfl, rfl, rfl, rfl, rfl⟩ (by dsimp only; omega) (fun i hi => vl_val hp7.get1 (by rw [h17.1]; exact hi)) (fun i hi => vl_val hp213.get8 (by rw [h17.1]; exact hi))
            refine ⟨_, rfl, ?_⟩
            have hp218 := hp213.made hn220
            refine OPS.batch 7 {} [] [9, 21, 22] [.bool ok30, .bool ok224, .int .i64 0] .nil (by kernel_rfl) (fun b229 => ?_)
            refine OPS.nil ?_
            refine thn_n ?_
            refine WP.cut (fun e237 w238 => ∃ (x235 : Bool), (True) ∧ Bp x235 ((Ex (valAt w5) cl11) ∧ (¬ (Ex (valAt w211) (cl11.set ((modI out ((no9 : Nat) : Int) : Int).toNat) (⟨cl11[(modI out ((no9 : Nat) : Int) : Int).toNat]!.Client, cl11[(modI out ((no9 : Nat) : Int) : Int).toNat]!.Op, cl11[(modI out ((no9 : Nat) : Int) : Int).toNat]!.Put, cl11[(modI out ((no9 : Nat) : Int) : Int).toNat]!.Key, cl11[(modI out ((no9 : Nat) : Int) : Int).toNat]!.Value, cl11[(modI out ((no9 : Nat) : Int) : Int).toNat]!.Status, cl11[(modI out ((no9 : Nat) : Int) : Int).toNat]!.From, (cl11[(modI out ((no9 : Nat) : Int) : Int).toNat]!.To) + (1 + (modI late 20)), cl11[(modI out ((no9 : Nat) : Int) : Int).toNat]!.Open, (⟨cl11[(modI out ((no9 : Nat) : Int) : Int).toNat]!.Tag.Count, cl11[(modI out ((no9 : Nat) : Int) : Int).toNat]!.Tag.Client⟩ : GTag)⟩ : GCall))))) ∧ List.map e237 [131] = [.bool x235] ∧ Hp w Non [Res.own 3 1 (.slice ao226 no227 co228) no227 (List.flatMap (fun (y : Nat) => [Go.Value.int .i64 (y : Int)]) xs223), Res.own 3 1 (.slice ao168 no169 co170) no169 (List.flatMap (fun (y : Nat) => [Go.Value.int .i64 (y : Int)]) xs165), Res.own 41 11 (.slice a149 (0 + ((modI out ((no9 : Nat) : Int) : Int).toNat) + (no9 - ((modI out ((no9 : Nat) : Int)) + 1 : Int).toNat)) c150) (0 + ((modI out ((no9 : Nat) : Int) : Int).toNat) + (no9 - ((modI out ((no9 : Nat) : Int)) + 1 : Int).toNat)) (List.flatMap GCall.cells ((List.take ((modI out ((no9 : Nat) : Int) : Int).toNat) cl11) ++ (List.drop (((modI out ((no9 : Nat) : Int)) + 1 : Int).toNat) cl11))), Res.own 3 1 (.slice ao86 no87 co88) no87 (List.flatMap (fun (y : Nat) => [Go.Value.int .i64 (y : Int)]) xs83), Res.row g64 [.int .i64 ((putC g57 c58 ⟨#[117, 110, 115, 101, 101, 110]⟩ (modI late 12) (-1)).Client), .int .i64 ((putC g57 c58 ⟨#[117, 110, 115, 101, 101, 110]⟩ (modI late 12) (-1)).Op), .bool ((putC g57 c58 ⟨#[117, 110, 115, 101, 101, 110]⟩ (modI late 12) (-1)).Put), .string ((putC g57 c58 ⟨#[117, 110, 115, 101, 101, 110]⟩ (modI late 12) (-1)).Key), .slice ((putC g57 c58 ⟨#[117, 110, 115, 101, 101, 110]⟩ (modI late 12) (-1)).Value.a) ((putC g57 c58 ⟨#[117, 110, 115, 101, 101, 110]⟩ (modI late 12) (-1)).Value.n) ((putC g57 c58 ⟨#[117, 110, 115, 101, 101, 110]⟩ (modI late 12) (-1)).Value.c), .int .i64 ((putC g57 c58 ⟨#[117, 110, 115, 101, 101, 110]⟩ (modI late 12) (-1)).Status), .int .i64 ((putC g57 c58 ⟨#[117, 110, 115, 101, 101, 110]⟩ (modI late 12) (-1)).From), .int .i64 ((putC g57 c58 ⟨#[117, 110, 115, 101, 101, 110]⟩ (modI late 12) (-1)).To), .bool ((putC g57 c58 ⟨#[117, 110, 115, 101, 101, 110]⟩ (modI late 12) (-1)).Open), .int .i64 ((putC g57 c58 ⟨#[117, 110, 115, 101, 101, 110]⟩ (modI late 12) (-1)).Tag.Count), .int .i64 ((putC g57 c58 ⟨#[117, 110, 115, 101, 101, 110]⟩ (modI late 12) (-1)).Tag.Client)] 41, Res.bs g57 ⟨#[117, 110, 115, 101, 101, 110]⟩, Res.own 41 11 (.slice a67 (0 + no9 + 1) c68) (0 + no9 + 1) (List.flatMap GCall.cells (cl11 ++ [(putC g57 c58 ⟨#[117, 110, 115, 101, 101, 110]⟩ (modI late 12) (-1))])), Res.own 3 1 (.slice ao32 no33 co34) no33 (List.flatMap (fun (y : Nat) => [Go.Value.int .i64 (y : Int)]) xs29), Res.own 41 11 (.slice ao8 no9 co10) no9 (List.flatMap GCall.cells (cl11.set ((modI out ((no9 : Nat) : Int) : Int).toNat) (⟨cl11[(modI out ((no9 : Nat) : Int) : Int).toNat]!.Client, cl11[(modI out ((no9 : Nat) : Int) : Int).toNat]!.Op, cl11[(modI out ((no9 : Nat) : Int) : Int).toNat]!.Put, cl11[(modI out ((no9 : Nat) : Int) : Int).toNat]!.Key, cl11[(modI out ((no9 : Nat) : Int) : Int).toNat]!.Value, cl11[(modI out ((no9 : Nat) : Int) : Int).toNat]!.Status, cl11[(modI out ((no9 : Nat) : Int) : Int).toNat]!.From, (cl11[(modI out ((no9 : Nat) : Int) : Int).toNat]!.To) + (1 + (modI late 20)), cl11[(modI out ((no9 : Nat) : Int) : Int).toNat]!.Open, (⟨cl11[(modI out ((no9 : Nat) : Int) : Int).toNat]!.Tag.Count, cl11[(modI out ((no9 : Nat) : Int) : Int).toNat]!.Tag.Client⟩ : GTag)⟩ : GCall))), Res.vl F13 cl11 vs12] w238) ?_ ?_
            · refine WP.region _ rfl (by kernel_rfl) ?_
              refine OPS.batch 5 {} [] [21, 125, 127] [.bool ok224, .bool false, .bool ok30] .nil (by kernel_rfl) (fun b231 => ?_)
              by_cases h232 : Ex (valAt w5) cl11
              · rw [show ok30 = true from (show Bp ok30 (Ex (valAt w5) cl11) from he28).tt h232]
                refine OPS.batch 4 { wraps := [130, 131] } [] [131] [.bool (!ok224)] .nil (by kernel_rfl) (fun b233 => ?_)
                refine OPS.nil ?_
                refine thn_n ?_
                exact ⟨!ok224, trivial, Bp.of (Bp.not (show Bp ok224 (Ex (valAt w211) (cl11.set ((modI out ((no9 : Nat) : Int) : Int).toNat) (⟨cl11[(modI out ((no9 : Nat) : Int) : Int).toNat]!.Client, cl11[(modI out ((no9 : Nat) : Int) : Int).toNat]!.Op, cl11[(modI out ((no9 : Nat) : Int) : Int).toNat]!.Put, cl11[(modI out ((no9 : Nat) : Int) : Int).toNat]!.Key, cl11[(modI out ((no9 : Nat) : Int) : Int).toNat]!.Value, cl11[(modI out ((no9 : Nat) : Int) : Int).toNat]!.Status, cl11[(modI out ((no9 : Nat) : Int) : Int).toNat]!.From, (cl11[(modI out ((no9 : Nat) : Int) : Int).toNat]!.To) + (1 + (modI late 20)), cl11[(modI out ((no9 : Nat) : Int) : Int).toNat]!.Open, (⟨cl11[(modI out ((no9 : Nat) : Int) : Int).toNat]!.Tag.Count, cl11[(modI out ((no9 : Nat) : Int) : Int).toNat]!.Tag.Client⟩ : GTag)⟩ : GCall))) from he222)) (by first | (simp only [h232, iff_false, false_iff, iff_true, true_iff, Classical.not_not, and_true, true_and, and_false, false_and, or_true, true_or, or_false, false_or, not_true_eq_false, not_false_eq_true, and_self, or_self, iff_self]; done) | (simp [h232]; done) | simp_all), by kernel_rfl, hp218⟩
              · rw [show ok30 = false from (show Bp ok30 (Ex (valAt w5) cl11) from he28).ff h232]
                refine OPS.batch 4 { wraps := [130, 131] } [] [131] [.bool false] .nil (by kernel_rfl) (fun b234 => ?_)
                refine OPS.nil ?_
                refine thn_n ?_
                exact ⟨false, trivial, Bp.of Bp.f (by first | (simp only [h232, iff_false, false_iff, iff_true, true_iff, Classical.not_not, and_true, true_and, and_false, false_and, or_true, true_or, or_false, false_or, not_true_eq_false, not_false_eq_true, and_self, or_self, iff_self]; done) | (simp [h232]; done) | simp_all), by kernel_rfl, hp218⟩
            rintro e237 w238 ⟨x235, hd240, hb236, hE241, hp239⟩
            obtain ⟨b242, rfl⟩ := toMk hE241
            clear hE241
            clear hd240
            refine WP.test (p := (Ex (valAt w5) cl11) ∧ (¬ (Ex (valAt w211) (cl11.set ((modI out ((no9 : Nat) : Int) : Int).toNat) (⟨cl11[(modI out ((no9 : Nat) : Int) : Int).toNat]!.Client, cl11[(modI out ((no9 : Nat) : Int) : Int).toNat]!.Op, cl11[(modI out ((no9 : Nat) : Int) : Int).toNat]!.Put, cl11[(modI out ((no9 : Nat) : Int) : Int).toNat]!.Key, cl11[(modI out ((no9 : Nat) : Int) : Int).toNat]!.Value, cl11[(modI out ((no9 : Nat) : Int) : Int).toNat]!.Status, cl11[(modI out ((no9 : Nat) : Int) : Int).toNat]!.From, (cl11[(modI out ((no9 : Nat) : Int) : Int).toNat]!.To) + (1 + (modI late 20)), cl11[(modI out ((no9 : Nat) : Int) : Int).toNat]!.Open, (⟨cl11[(modI out ((no9 : Nat) : Int) : Int).toNat]!.Tag.Count, cl11[(modI out ((no9 : Nat) : Int) : Int).toNat]!.Tag.Client⟩ : GTag)⟩ : GCall))))) rfl hb236 (fun h243 => ?_) (fun h243 => ?_)
            · refine WP.seq ?_
              refine WP.pure {} [] [6] [.bool false] .nil (by kernel_rfl) (fun b244 => ?_)
              refine thn_n ?_
              refine WP.ret ?_
              refine thn_r ?_
              refine bodyQ.of _ rfl [.bool false] ⟨rfl, trivial⟩ ?_
              exfalso
              first | (clear h91 h101 h130 h188 h191; first | omega | exact ex_nil (by omega) | exact ⟨ex_nil (by omega), trivial⟩ | simp_all) | first | omega | exact ex_nil (by omega) | exact ⟨ex_nil (by omega), trivial⟩ | simp_all
            · refine WP.skip ?_
              refine thn_n ?_
              refine WP.seq ?_
              refine WP.region _ rfl (by kernel_rfl) ?_
              refine OPS.cons (opStep.call (some 132) [] (by kernel_rfl) (law20_taken _) ?_)
              rintro _ w247 ⟨rfl, hf248⟩
              refine ⟨_, rfl, ?_⟩
              have hp249 := hp239.step hf248
              refine OPS.batch 1 {} [] [6] [.bool true] .nil (by kernel_rfl) (fun b250 => ?_)
              refine OPS.nil ?_
              refine thn_n ?_
              refine WP.ret ?_
              refine bodyQ.of _ rfl [.bool true] ⟨rfl, trivial⟩ ?_
              exact ⟨rfl, hp249.fr⟩
          · refine WP.skip ?_
            refine thn_n ?_
            refine WP.seq ?_
            refine WP.region _ rfl (by kernel_rfl) ?_
            refine OPS.cons (opStep.call (some 132) [] (by kernel_rfl) (law20_taken _) ?_)
            rintro _ w253 ⟨rfl, hf254⟩
            refine ⟨_, rfl, ?_⟩
            have hp255 := hp184.step hf254
            refine OPS.batch 1 {} [] [6] [.bool true] .nil (by kernel_rfl) (fun b256 => ?_)
            refine OPS.nil ?_
            refine thn_n ?_
            refine WP.ret ?_
            refine bodyQ.of _ rfl [.bool true] ⟨rfl, trivial⟩ ?_
            exact ⟨rfl, hp255.fr⟩
      · replace h130 := Classical.not_not.1 h130
        refine WP.skip ?_
        refine thn_n ?_
        refine WP.seq ?_
        refine WP.seq ?_
        refine WP.pure {} [.int .i64 (cl11[(modI out ((no9 : Nat) : Int) : Int).toNat]!.To)] [2, 7, 9, 15, 105] [.int .i64 late, .slice ao8 no9 co10, .bool ok30, .int .i64 (modI out ((no9 : Nat) : Int)), .bool (decide (0 ≤ (cl11[(modI out ((no9 : Nat) : Int) : Int).toNat]!.To)))] (.cons (show InB (modI out ((no9 : Nat) : Int)) (no9) from ⟨by omega, by omega⟩) (.cons ((SlR.own (hp125.get5)).some (by omega)) (.cons (Ld.el1 (P := Try.prog) (t := 3) (SlR.own (hp125.get5)).rd 11 (fun _ => rfl) hy128 (o := 7) (v := .int .i64 (cl11[(modI out ((no9 : Nat) : Int) : Int).toNat]!.To)) (by kernel_rfl)) .nil))) (by kernel_rfl) (fun b257 => ?_)
        refine thn_n ?_
        refine WP.test (p := 0 ≤ (cl11[(modI out ((no9 : Nat) : Int) : Int).toNat]!.To)) rfl Bp.dec (fun h258 => ?_) (fun h258 => ?_)
        · refine WP.seq ?_
          have hp259 := hp125.drew
          refine WP.held (fun w260 => Ld Try.prog w260 3 (((adr ao8).add ((modI out ((no9 : Nat) : Int) : Int).toNat * 11)).add 7) (.int .i64 (cl11[(modI out ((no9 : Nat) : Int) : Int).toNat]!.To)) ∧ True) [11] [(0, true), (1, true), (2, true), (3, true), (4, true), (5, true), (6, false), (7, true), (8, true), (9, false), (10, true), (11, false)] (np_thn (np_thn np_body)) (by kernel_rfl) ?_
          refine HOPS.take 6 {} [.int .i64 (cl11[(modI out ((no9 : Nat) : Int) : Int).toNat]!.To)] [7, 9, 106, 107, 110, 111] [.slice ao8 no9 co10, .bool ok30, .slice ao8 no9 co10, .int .i64 (modI out ((no9 : Nat) : Int)), .int .i64 (cl11[(modI out ((no9 : Nat) : Int) : Int).toNat]!.To), .int .i64 late] (by kernel_rfl) ⟨(show Ld Try.prog w123.drew 3 (((adr ao8).add ((modI out ((no9 : Nat) : Int) : Int).toNat * 11)).add 7) (.int .i64 (cl11[(modI out ((no9 : Nat) : Int) : Int).toNat]!.To)) from (Ld.el1 (P := Try.prog) (t := 3) (SlR.own (hp259.get5)).rd 11 (fun _ => rfl) hy128 (o := 7) (v := .int .i64 (cl11[(modI out ((no9 : Nat) : Int) : Int).toNat]!.To)) (by kernel_rfl))), trivial⟩ (fun w261 hS262 => QB.mk (.cons (show InB (modI out ((no9 : Nat) : Int)) (no9) from ⟨by omega, by omega⟩) (.cons ((SlR.own (hp259.get5)).some (by omega)) (.cons (hS262.1) .nil))) (by kernel_rfl)) (fun b263 => ?_)
          refine HOPS.eff _ rfl (opStep.call (some 112) [.int .i64 late, .int .i64 20] (by kernel_rfl) (law20_mod late 20 _ (by omega) (by omega)) ?_)
          rintro _ w266 ⟨rfl, hf267⟩
          refine ⟨_, rfl, ?_⟩
          have hp268 := hp259.step hf267
          have := modI_bd late (k := 20) (by omega)
          refine ⟨.inr ⟨(show Ld Try.prog w266 3 (((adr ao8).add ((modI out ((no9 : Nat) : Int) : Int).toNat * 11)).add 7) (.int .i64 (cl11[(modI out ((no9 : Nat) : Int) : Int).toNat]!.To)) from (Ld.el1 (P := Try.prog) (t := 3) (SlR.own (hp268.get5)).rd 11 (fun _ => rfl) hy128 (o := 7) (v := .int .i64 (cl11[(modI out ((no9 : Nat) : Int) : Int).toNat]!.To)) (by kernel_rfl))), trivial⟩, ?_⟩
          refine HOPS.take 2 {} [] [7, 9, 106, 107, 114] [.slice ao8 no9 co10, .bool ok30, .slice ao8 no9 co10, .int .i64 (modI out ((no9 : Nat) : Int)), .int .i64 ((cl11[(modI out ((no9 : Nat) : Int) : Int).toNat]!.To) + (1 + (modI late 20)))] (by kernel_rfl) ⟨(show Ld Try.prog w266 3 (((adr ao8).add ((modI out ((no9 : Nat) : Int) : Int).toNat * 11)).add 7) (.int .i64 (cl11[(modI out ((no9 : Nat) : Int) : Int).toNat]!.To)) from (Ld.el1 (P := Try.prog) (t := 3) (SlR.own (hp268.get5)).rd 11 (fun _ => rfl) hy128 (o := 7) (v := .int .i64 (cl11[(modI out ((no9 : Nat) : Int) : Int).toNat]!.To)) (by kernel_rfl))), trivial⟩ (fun w269 hS270 => QB.mk (.cons (show Rng .i64 (1 + (modI late 20)) from Rng.i64 (by omega)) (.cons (show Rng .i64 ((cl11[(modI out ((no9 : Nat) : Int) : Int).toNat]!.To) + (1 + (modI late 20))) from Rng.i64 (by omega)) .nil)) (by kernel_rfl)) (fun b271 => ?_)
          refine HOPS.one _ rfl {} [] [7, 9, 114, 115] [.slice ao8 no9 co10, .bool ok30, .int .i64 ((cl11[(modI out ((no9 : Nat) : Int) : Int).toNat]!.To) + (1 + (modI late 20))), .pointer (some ((adr ao8).add ((modI out ((no9 : Nat) : Int) : Int).toNat * 11)))] (.cons (show InB (modI out ((no9 : Nat) : Int)) (no9) from ⟨by omega, by omega⟩) (.cons ((SlR.own (hp268.get5)).some (by omega)) .nil)) (by kernel_rfl) ⟨(show Ld Try.prog w266 3 (((adr ao8).add ((modI out ((no9 : Nat) : Int) : Int).toNat * 11)).add 7) (.int .i64 (cl11[(modI out ((no9 : Nat) : Int) : Int).toNat]!.To)) from (Ld.el1 (P := Try.prog) (t := 3) (SlR.own (hp268.get5)).rd 11 (fun _ => rfl) hy128 (o := 7) (v := .int .i64 (cl11[(modI out ((no9 : Nat) : Int) : Int).toNat]!.To)) (by kernel_rfl))), trivial⟩ (fun b274 => ?_)
          refine HOPS.take 1 {} [] [7, 9, 114, 116] [.slice ao8 no9 co10, .bool ok30, .int .i64 ((cl11[(modI out ((no9 : Nat) : Int) : Int).toNat]!.To) + (1 + (modI late 20))), .pointer (some (((adr ao8).add ((modI out ((no9 : Nat) : Int) : Int).toNat * 11)).add 7))] (by kernel_rfl) ⟨(show Ld Try.prog w266 3 (((adr ao8).add ((modI out ((no9 : Nat) : Int) : Int).toNat * 11)).add 7) (.int .i64 (cl11[(modI out ((no9 : Nat) : Int) : Int).toNat]!.To)) from (Ld.el1 (P := Try.prog) (t := 3) (SlR.own (hp268.get5)).rd 11 (fun _ => rfl) hy128 (o := 7) (v := .int .i64 (cl11[(modI out ((no9 : Nat) : Int) : Int).toNat]!.To)) (by kernel_rfl))), trivial⟩ (fun w275 hS276 => QB.mk .nil (by kernel_rfl)) (fun b277 => ?_)
          have := own_flat (sz := 11) (fun _ => rfl) (by decide) hp268.get5
          try simp only [List.length_set] at this
          refine HOPS.eff _ rfl (opStep.storeOwn5 ((modI out ((no9 : Nat) : Int) : Int).toNat * 11 + 7) hp268 (by exact congrArg (fun z => Value.pointer (some z)) (addr_add2 (adr ao8) ((modI out ((no9 : Nat) : Int) : Int).toNat * 11) 7)) [.int .i64 ((cl11[(modI out ((no9 : Nat) : Int) : Int).toNat]!.To) + (1 + (modI late 20)))] (by kernel_rfl) (by simp) (show (modI out ((no9 : Nat) : Int) : Int).toNat * 11 + 7 + 1 ≤ no9 * 11 by omega) (fun w278 hp279 => ?_))
          have hp280 := hp279
          rw [show ow (List.flatMap GCall.cells cl11) ((modI out ((no9 : Nat) : Int) : Int).toNat * 11 + 7) [.int .i64 ((cl11[(modI out ((no9 : Nat) : Int) : Int).toNat]!.To) + (1 + (modI late 20)))] = List.flatMap GCall.cells (cl11.set ((modI out ((no9 : Nat) : Int) : Int).toNat) (⟨cl11[(modI out ((no9 : Nat) : Int) : Int).toNat]!.Client, cl11[(modI out ((no9 : Nat) : Int) : Int).toNat]!.Op, cl11[(modI out ((no9 : Nat) : Int) : Int).toNat]!.Put, cl11[(modI out ((no9 : Nat) : Int) : Int).toNat]!.Key, cl11[(modI out ((no9 : Nat) : Int) : Int).toNat]!.Value, cl11[(modI out ((no9 : Nat) : Int) : Int).toNat]!.Status, cl11[(modI out ((no9 : Nat) : Int) : Int).toNat]!.From, (cl11[(modI out ((no9 : Nat) : Int) : Int).toNat]!.To) + (1 + (modI late 20)), cl11[(modI out ((no9 : Nat) : Int) : Int).toNat]!.Open, (⟨cl11[(modI out ((no9 : Nat) : Int) : Int).toNat]!.Tag.Count, cl11[(modI out ((no9 : Nat) : Int) : Int).toNat]!.Tag.Client⟩ : GTag)⟩ : GCall)) from ow_flat_part (sz := 11) (fun _ => rfl) (show 7 + 1 ≤ 11 by decide) (by first | (omega) | (simp only [List.length_set]; omega)) (⟨cl11[(modI out ((no9 : Nat) : Int) : Int).toNat]!.Client, cl11[(modI out ((no9 : Nat) : Int) : Int).toNat]!.Op, cl11[(modI out ((no9 : Nat) : Int) : Int).toNat]!.Put, cl11[(modI out ((no9 : Nat) : Int) : Int).toNat]!.Key, cl11[(modI out ((no9 : Nat) : Int) : Int).toNat]!.Value, cl11[(modI out ((no9 : Nat) : Int) : Int).toNat]!.Status, cl11[(modI out ((no9 : Nat) : Int) : Int).toNat]!.From, (cl11[(modI out ((no9 : Nat) : Int) : Int).toNat]!.To) + (1 + (modI late 20)), cl11[(modI out ((no9 : Nat) : Int) : Int).toNat]!.Open, (⟨cl11[(modI out ((no9 : Nat) : Int) : Int).toNat]!.Tag.Count, cl11[(modI out ((no9 : Nat) : Int) : Int).toNat]!.Tag.Client⟩ : GTag)⟩ : GCall) (by first | rfl | (rw [set_get (by omega), if_pos rfl]; rfl))] at hp280
          refine ⟨.inl rfl, ?_⟩
          refine HOPS.nil ?_
          refine thn_n ?_
          refine WP.seq ?_
          refine WP.region _ rfl (by kernel_rfl) ?_
          refine OPS.batch 1 {} [] [9, 118] [.bool ok30, .slice ao8 no9 co10] .nil (by kernel_rfl) (fun b281 => ?_)
          have hz288_l : (cl11.set ((modI out ((no9 : Nat) : Int) : Int).toNat) (⟨cl11[(modI out ((no9 : Nat) : Int) : Int).toNat]!.Client, cl11[(modI out ((no9 : Nat) : Int) : Int).toNat]!.Op, cl11[(modI out ((no9 : Nat) : Int) : Int).toNat]!.Put, cl11[(modI out ((no9 : Nat) : Int) : Int).toNat]!.Key, cl11[(modI out ((no9 : Nat) : Int) : Int).toNat]!.Value, cl11[(modI out ((no9 : Nat) : Int) : Int).toNat]!.Status, cl11[(modI out ((no9 : Nat) : Int) : Int).toNat]!.From, (cl11[(modI out ((no9 : Nat) : Int) : Int).toNat]!.To) + (1 + (modI late 20)), cl11[(modI out ((no9 : Nat) : Int) : Int).toNat]!.Open, (⟨cl11[(modI out ((no9 : Nat) : Int) : Int).toNat]!.Tag.Count, cl11[(modI out ((no9 : Nat) : Int) : Int).toNat]!.Tag.Client⟩ : GTag)⟩ : GCall)).length = no9 := (by rw [List.length_set]; omega)
          refine OPS.cons (opStep.call (some 119) [.slice ao8 no9 co10] (by kernel_rfl) (lin_OneN (cl11.set ((modI out ((no9 : Nat) : Int) : Int).toNat) (⟨cl11[(modI out ((no9 : Nat) : Int) : Int).toNat]!.Client, cl11[(modI out ((no9 : Nat) : Int) : Int).toNat]!.Op, cl11[(modI out ((no9 : Nat) : Int) : Int).toNat]!.Put, cl11[(modI out ((no9 : Nat) : Int) : Int).toNat]!.Key, cl11[(modI out ((no9 : Nat) : Int) : Int).toNat]!.Value, cl11[(modI out ((no9 : Nat) : Int) : Int).toNat]!.Status, cl11[(modI out ((no9 : Nat) : Int) : Int).toNat]!.From, (cl11[(modI out ((no9 : Nat) : Int) : Int).toNat]!.To) + (1 + (modI late 20)), cl11[(modI out ((no9 : Nat) : Int) : Int).toNat]!.Open, (⟨cl11[(modI out ((no9 : Nat) : Int) : Int).toNat]!.Tag.Count, cl11[(modI out ((no9 : Nat) : Int) : Int).toNat]!.Tag.Client⟩ : GTag)⟩ : GCall)) no9 hz288_l ao8 co10 _ (SlR.own hp280.get5) (mem_later (vl_vb hp280.get6) (show VB w278 cl11[(modI out ((no9 : Nat) : Int)).toNat]!.Value from vl_vb hp280.get6 _ (List.mem_of_getElem? (get_bang (by omega))))) (by omega)) ?_)
          rintro _ w284 ⟨xs290, ok291, e292, ao293, no294, co295, rfl, hx286, hn287⟩
          obtain ⟨he289_0, he289, _⟩ := ex_one (ok_mem (mem_later (dr_mem h17) (by have := dr_ok h17 (i := (modI out ((no9 : Nat) : Int)).toNat) (by omega); simp only [okArg] at this ⊢; omega))) (by omega) hx286
          subst he289_0
          have himp2_ : Ex (valAt w5) cl11 → Ex (valAt w278) (cl11.set ((modI out ((no9 : Nat) : Int) : Int).toNat) (⟨cl11[(modI out ((no9 : Nat) : Int) : Int).toNat]!.Client, cl11[(modI out ((no9 : Nat) : Int) : Int).toNat]!.Op, cl11[(modI out ((no9 : Nat) : Int) : Int).toNat]!.Put, cl11[(modI out ((no9 : Nat) : Int) : Int).toNat]!.Key, cl11[(modI out ((no9 : Nat) : Int) : Int).toNat]!.Value, cl11[(modI out ((no9 : Nat) : Int) : Int).toNat]!.Status, cl11[(modI out ((no9 : Nat) : Int) : Int).toNat]!.From, (cl11[(modI out ((no9 : Nat) : Int) : Int).toNat]!.To) + (1 + (modI late 20)), cl11[(modI out ((no9 : Nat) : Int) : Int).toNat]!.Open, (⟨cl11[(modI out ((no9 : Nat) : Int) : Int).toNat]!.Tag.Count, cl11[(modI out ((no9 : Nat) : Int) : Int).toNat]!.Tag.Client⟩ : GTag)⟩ : GCall)) := later_ex h17 (by omega) (by assumption) ⟨rfl, rfl, rfl, rfl, rfl⟩ (by dsimp only; omega) (fun i hi => vl_val hp7.get1 (by rw [h17.1]; exact hi)) (fun i hi => vl_val hp280.get6 (by rw [h17.1]; exact hi))
          refine ⟨_, rfl, ?_⟩
          have hp285 := hp280.made hn287
          refine OPS.batch 7 {} [] [9, 21, 22] [.bool ok30, .bool ok291, .int .i64 0] .nil (by kernel_rfl) (fun b296 => ?_)
          refine OPS.nil ?_
          refine thn_n ?_
          refine WP.cut (fun e304 w305 => ∃ (x302 : Bool), (True) ∧ Bp x302 ((Ex (valAt w5) cl11) ∧ (¬ (Ex (valAt w278) (cl11.set ((modI out ((no9 : Nat) : Int) : Int).toNat) (⟨cl11[(modI out ((no9 : Nat) : Int) : Int).toNat]!.Client, cl11[(modI out ((no9 : Nat) : Int) : Int).toNat]!.Op, cl11[(modI out ((no9 : Nat) : Int) : Int).toNat]!.Put, cl11[(modI out ((no9 : Nat) : Int) : Int).toNat]!.Key, cl11[(modI out ((no9 : Nat) : Int) : Int).toNat]!.Value, cl11[(modI out ((no9 : Nat) : Int) : Int).toNat]!.Status, cl11[(modI out ((no9 : Nat) : Int) : Int).toNat]!.From, (cl11[(modI out ((no9 : Nat) : Int) : Int).toNat]!.To) + (1 + (modI late 20)), cl11[(modI out ((no9 : Nat) : Int) : Int).toNat]!.Open, (⟨cl11[(modI out ((no9 : Nat) : Int) : Int).toNat]!.Tag.Count, cl11[(modI out ((no9 : Nat) : Int) : Int).toNat]!.Tag.Client⟩ : GTag)⟩ : GCall))))) ∧ List.map e304 [131] = [.bool x302] ∧ Hp w Non [Res.own 3 1 (.slice ao293 no294 co295) no294 (List.flatMap (fun (y : Nat) => [Go.Value.int .i64 (y : Int)]) xs290), Res.own 3 1 (.slice ao86 no87 co88) no87 (List.flatMap (fun (y : Nat) => [Go.Value.int .i64 (y : Int)]) xs83), Res.row g64 [.int .i64 ((putC g57 c58 ⟨#[117, 110, 115, 101, 101, 110]⟩ (modI late 12) (-1)).Client), .int .i64 ((putC g57 c58 ⟨#[117, 110, 115, 101, 101, 110]⟩ (modI late 12) (-1)).Op), .bool ((putC g57 c58 ⟨#[117, 110, 115, 101, 101, 110]⟩ (modI late 12) (-1)).Put), .string ((putC g57 c58 ⟨#[117, 110, 115, 101, 101, 110]⟩ (modI late 12) (-1)).Key), .slice ((putC g57 c58 ⟨#[117, 110, 115, 101, 101, 110]⟩ (modI late 12) (-1)).Value.a) ((putC g57 c58 ⟨#[117, 110, 115, 101, 101, 110]⟩ (modI late 12) (-1)).Value.n) ((putC g57 c58 ⟨#[117, 110, 115, 101, 101, 110]⟩ (modI late 12) (-1)).Value.c), .int .i64 ((putC g57 c58 ⟨#[117, 110, 115, 101, 101, 110]⟩ (modI late 12) (-1)).Status), .int .i64 ((putC g57 c58 ⟨#[117, 110, 115, 101, 101, 110]⟩ (modI late 12) (-1)).From), .int .i64 ((putC g57 c58 ⟨#[117, 110, 115, 101, 101, 110]⟩ (modI late 12) (-1)).To), .bool ((putC g57 c58 ⟨#[117, 110, 115, 101, 101, 110]⟩ (modI late 12) (-1)).Open), .int .i64 ((putC g57 c58 ⟨#[117, 110, 115, 101, 101, 110]⟩ (modI late 12) (-1)).Tag.Count), .int .i64 ((putC g57 c58 ⟨#[117, 110, 115, 101, 101, 110]⟩ (modI late 12) (-1)).Tag.Client)] 41, Res.bs g57 ⟨#[117, 110, 115, 101, 101, 110]⟩, Res.own 41 11 (.slice a67 (0 + no9 + 1) c68) (0 + no9 + 1) (List.flatMap GCall.cells (cl11 ++ [(putC g57 c58 ⟨#[117, 110, 115, 101, 101, 110]⟩ (modI late 12) (-1))])), Res.own 3 1 (.slice ao32 no33 co34) no33 (List.flatMap (fun (y : Nat) => [Go.Value.int .i64 (y : Int)]) xs29), Res.own 41 11 (.slice ao8 no9 co10) no9 (List.flatMap GCall.cells (cl11.set ((modI out ((no9 : Nat) : Int) : Int).toNat) (⟨cl11[(modI out ((no9 : Nat) : Int) : Int).toNat]!.Client, cl11[(modI out ((no9 : Nat) : Int) : Int).toNat]!.Op, cl11[(modI out ((no9 : Nat) : Int) : Int).toNat]!.Put, cl11[(modI out ((no9 : Nat) : Int) : Int).toNat]!.Key, cl11[(modI out ((no9 : Nat) : Int) : Int).toNat]!.Value, cl11[(modI out ((no9 : Nat) : Int) : Int).toNat]!.Status, cl11[(modI out ((no9 : Nat) : Int) : Int).toNat]!.From, (cl11[(modI out ((no9 : Nat) : Int) : Int).toNat]!.To) + (1 + (modI late 20)), cl11[(modI out ((no9 : Nat) : Int) : Int).toNat]!.Open, (⟨cl11[(modI out ((no9 : Nat) : Int) : Int).toNat]!.Tag.Count, cl11[(modI out ((no9 : Nat) : Int) : Int).toNat]!.Tag.Client⟩ : GTag)⟩ : GCall))), Res.vl F13 cl11 vs12] w305) ?_ ?_
          · refine WP.region _ rfl (by kernel_rfl) ?_
            refine OPS.batch 5 {} [] [21, 125, 127] [.bool ok291, .bool false, .bool ok30] .nil (by kernel_rfl) (fun b298 => ?_)
            by_cases h299 : Ex (valAt w5) cl11
            · rw [show ok30 = true from (show Bp ok30 (Ex (valAt w5) cl11) from he28).tt h299]
              refine OPS.batch 4 { wraps := [130, 131] } [] [131] [.bool (!ok291)] .nil (by kernel_rfl) (fun b300 => ?_)
              refine OPS.nil ?_
              refine thn_n ?_
              exact ⟨!ok291, trivial, Bp.of (Bp.not (show Bp ok291 (Ex (valAt w278) (cl11.set ((modI out ((no9 : Nat) : Int) : Int).toNat) (⟨cl11[(modI out ((no9 : Nat) : Int) : Int).toNat]!.Client, cl11[(modI out ((no9 : Nat) : Int) : Int).toNat]!.Op, cl11[(modI out ((no9 : Nat) : Int) : Int).toNat]!.Put, cl11[(modI out ((no9 : Nat) : Int) : Int).toNat]!.Key, cl11[(modI out ((no9 : Nat) : Int) : Int).toNat]!.Value, cl11[(modI out ((no9 : Nat) : Int) : Int).toNat]!.Status, cl11[(modI out ((no9 : Nat) : Int) : Int).toNat]!.From, (cl11[(modI out ((no9 : Nat) : Int) : Int).toNat]!.To) + (1 + (modI late 20)), cl11[(modI out ((no9 : Nat) : Int) : Int).toNat]!.Open, (⟨cl11[(modI out ((no9 : Nat) : Int) : Int).toNat]!.Tag.Count, cl11[(modI out ((no9 : Nat) : Int) : Int).toNat]!.Tag.Client⟩ : GTag)⟩ : GCall))) from he289)) (by first | (simp only [h299, iff_false, false_iff, iff_true, true_iff, Classical.not_not, and_true, true_and, and_false, false_and, or_true, true_or, or_false, false_or, not_true_eq_false, not_false_eq_true, and_self, or_self, iff_self]; done) | (simp [h299]; done) | simp_all), by kernel_rfl, hp285⟩
            · rw [show ok30 = false from (show Bp ok30 (Ex (valAt w5) cl11) from he28).ff h299]
              refine OPS.batch 4 { wraps := [130, 131] } [] [131] [.bool false] .nil (by kernel_rfl) (fun b301 => ?_)
              refine OPS.nil ?_
              refine thn_n ?_
              exact ⟨false, trivial, Bp.of Bp.f (by first | (simp only [h299, iff_false, false_iff, iff_true, true_iff, Classical.not_not, and_true, true_and, and_false, false_and, or_true, true_or, or_false, false_or, not_true_eq_false, not_false_eq_true, and_self, or_self, iff_self]; done) | (simp [h299]; done) | simp_all), by kernel_rfl, hp285⟩
          rintro e304 w305 ⟨x302, hd307, hb303, hE308, hp306⟩
          obtain ⟨b309, rfl⟩ := toMk hE308
          clear hE308
          clear hd307
          refine WP.test (p := (Ex (valAt w5) cl11) ∧ (¬ (Ex (valAt w278) (cl11.set ((modI out ((no9 : Nat) : Int) : Int).toNat) (⟨cl11[(modI out ((no9 : Nat) : Int) : Int).toNat]!.Client, cl11[(modI out ((no9 : Nat) : Int) : Int).toNat]!.Op, cl11[(modI out ((no9 : Nat) : Int) : Int).toNat]!.Put, cl11[(modI out ((no9 : Nat) : Int) : Int).toNat]!.Key, cl11[(modI out ((no9 : Nat) : Int) : Int).toNat]!.Value, cl11[(modI out ((no9 : Nat) : Int) : Int).toNat]!.Status, cl11[(modI out ((no9 : Nat) : Int) : Int).toNat]!.From, (cl11[(modI out ((no9 : Nat) : Int) : Int).toNat]!.To) + (1 + (modI late 20)), cl11[(modI out ((no9 : Nat) : Int) : Int).toNat]!.Open, (⟨cl11[(modI out ((no9 : Nat) : Int) : Int).toNat]!.Tag.Count, cl11[(modI out ((no9 : Nat) : Int) : Int).toNat]!.Tag.Client⟩ : GTag)⟩ : GCall))))) rfl hb303 (fun h310 => ?_) (fun h310 => ?_)
          · refine WP.seq ?_
            refine WP.pure {} [] [6] [.bool false] .nil (by kernel_rfl) (fun b311 => ?_)
            refine thn_n ?_
            refine WP.ret ?_
            refine thn_r ?_
            refine bodyQ.of _ rfl [.bool false] ⟨rfl, trivial⟩ ?_
            exfalso
            first | (clear h91 h101 h130 h258; first | omega | exact ex_nil (by omega) | exact ⟨ex_nil (by omega), trivial⟩ | simp_all) | first | omega | exact ex_nil (by omega) | exact ⟨ex_nil (by omega), trivial⟩ | simp_all
          · refine WP.skip ?_
            refine thn_n ?_
            refine WP.seq ?_
            refine WP.region _ rfl (by kernel_rfl) ?_
            refine OPS.cons (opStep.call (some 132) [] (by kernel_rfl) (law20_taken _) ?_)
            rintro _ w314 ⟨rfl, hf315⟩
            refine ⟨_, rfl, ?_⟩
            have hp316 := hp306.step hf315
            refine OPS.batch 1 {} [] [6] [.bool true] .nil (by kernel_rfl) (fun b317 => ?_)
            refine OPS.nil ?_
            refine thn_n ?_
            refine WP.ret ?_
            refine bodyQ.of _ rfl [.bool true] ⟨rfl, trivial⟩ ?_
            exact ⟨rfl, hp316.fr⟩
        · refine WP.skip ?_
          refine thn_n ?_
          refine WP.seq ?_
          refine WP.region _ rfl (by kernel_rfl) ?_
          refine OPS.cons (opStep.call (some 132) [] (by kernel_rfl) (law20_taken _) ?_)
          rintro _ w320 ⟨rfl, hf321⟩
          refine ⟨_, rfl, ?_⟩
          have hp322 := hp125.step hf321
          refine OPS.batch 1 {} [] [6] [.bool true] .nil (by kernel_rfl) (fun b323 => ?_)
          refine OPS.nil ?_
          refine thn_n ?_
          refine WP.ret ?_
          refine bodyQ.of _ rfl [.bool true] ⟨rfl, trivial⟩ ?_
          exact ⟨rfl, hp322.fr⟩

end Go.Proofs.Ythdkbbpiaeaojaa.K
