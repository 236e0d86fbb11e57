/- The walks of WLinearFirst: what each function computes. -/
import Derived.Test.YthdkbbpiaeaojaaProg
import Derived.Test.YthdkbbpiaeaojaaCoreO
import Derived.Test.YthdkbbpiaeaojaaLinI
import Derived.Test.YthdkbbpiaeaojaaOpen
namespace Go.Proofs.Ythdkbbpiaeaojaa.K
open Go Go.Proofs Go.RowKit
set_option linter.unusedVariables false
set_option linter.unusedSimpArgs false
set_option maxRecDepth 20000
set_option maxHeartbeats 4000000

theorem LinearFirst {okp : Gsherdlaw20_Draft → Prop} (BN : Nat) (hBN : BN ≤ 17592186043904) (w : World) (s1 : SlH) (l1 : List Gsherdlaw20_Draft) (o1 : SlD w (α := Gsherdlaw20_Draft) Gsherdlaw20_Draft.cells okp BN s1 l1) :
    Calls Try.prog 6 #[.slice s1.a s1.n s1.c] w (fun x w' => x = .returned (.bool true) ∧ Fram Non w w') := by
  have hn1 := o1.len
  have hc1 := o1.cap
  have hd1 := o1.bnd
  refine calls_of Try.func6 rfl 46 rfl (by simp) ?_
  have hp0 := Hp.init w
  have he0 : List.map (env0 [.slice s1.a s1.n s1.c]) [0] = [.slice s1.a s1.n s1.c] := by kernel_rfl
  obtain ⟨b0, he0⟩ := toMk he0
  rw [he0]
  clear he0
  refine WP.seq ?_
  refine WP.pure {} [] [0] [.slice s1.a s1.n s1.c] .nil (by kernel_rfl) (fun b1 => ?_)
  refine thn_n ?_
  refine WP.seq ?_
  refine WP.region _ rfl (by kernel_rfl) ?_
  refine OPS.batch 1 {} [] [9] [.slice s1.a s1.n s1.c] .nil (by kernel_rfl) (fun b2 => ?_)
  refine OPS.cons (opStep.call (some 10) [.slice s1.a s1.n s1.c, .int .i64 5] (by kernel_rfl) (law20_drafted _ s1 l1 (o1.rd.at hp0) hn1 (by omega) 5 (by decide)) ?_)
  rintro _ w5 ⟨ao8, no9, co10, cl11, vs12, F13, rfl, k14, h15, h16, h17, hp6⟩
  refine ⟨_, rfl, ?_⟩
  have hp7 := hp0.madeL hp6
  simp only [List.cons_append, List.nil_append] at hp7
  have h18 := own_flat (sz := 11) (fun _ => rfl) (by decide) hp7.get0
  have := h17.1
  refine OPS.batch 1 {} [] [3] [.slice ao8 no9 co10] .nil (by kernel_rfl) (fun b19 => ?_)
  refine OPS.nil ?_
  refine thn_n ?_
  refine WP.seq ?_
  refine WP.region _ rfl (by kernel_rfl) ?_
  refine OPS.batch 1 {} [] [3, 12] [.slice ao8 no9 co10, .slice ao8 no9 co10] .nil (by kernel_rfl) (fun b20 => ?_)
  refine OPS.cons (opStep.call (some 13) [.slice ao8 no9 co10, .slice none 0 0] (by kernel_rfl) (least_top _ cl11 no9 h18 ao8 co10 (SlR.own hp7.get0) (vl_vb hp7.get1) (by omega)) ?_)
  rintro _ w23 ⟨ok27, ao28, no29, co30, os31, rfl, hr26, hp24⟩
  refine ⟨_, rfl, ?_⟩
  have hp25 := hp7.made hp24
  refine OPS.batch 5 {} [] [3, 4, 5] [.slice ao8 no9 co10, .slice ao28 no29 co30, .bool ok27] .nil (by kernel_rfl) (fun b32 => ?_)
  refine OPS.nil ?_
  refine thn_n ?_
  refine WP.seq ?_
  refine WP.region _ rfl (by kernel_rfl) ?_
  refine OPS.batch 1 {} [] [3, 4, 5, 17] [.slice ao8 no9 co10, .slice ao28 no29 co30, .bool ok27, .slice ao8 no9 co10] .nil (by kernel_rfl) (fun b33 => ?_)
  refine OPS.cons (opStep.call (some 18) [.slice ao8 no9 co10] (by kernel_rfl) (lin_OneN cl11 no9 h18 ao8 co10 _ (SlR.own hp25.get1) (vl_vb hp25.get2) (by omega)) ?_)
  rintro _ w36 ⟨xs43, ok44, e45, ao46, no47, co48, rfl, hx38, hn39⟩
  have hy40 := (simC_self (fun i hi => vl_val hp25.get2 hi) (fun i hi => vl_val hp7.get1 hi)).one hx38
  obtain ⟨e0hb41, hb41⟩ := dr_one h17 (by omega) hy40
  obtain ⟨e1hb41, e2hb41, he42⟩ := least_best hr26 hb41
  subst e0hb41
  have e3hb41 : ok44 = ok27 := e1hb41
  subst e3hb41
  have e4hb41 : xs43 = os31 := e2hb41
  subst e4hb41
  have hmhb41 : xs43.length ≤ cl11.length := by rcases hb41 with ⟨_, q, _⟩ | ⟨_, q, _⟩; have := pathA_len q List.nodup_nil (by simp); simpa using this; (rw [q]; simp)
  refine ⟨_, rfl, ?_⟩
  have hp37 := hp25.made hn39
  have hk49 := own_flat (sz := 1) (fun _ => rfl) (by decide) hp37.get0
  cases ok44
  · refine OPS.batch 7 {} [] [3, 4, 5, 6, 7, 8] [.slice ao8 no9 co10, .slice ao28 no29 co30, .bool false, .slice ao46 no47 co48, .bool false, .int .i64 0] .nil (by kernel_rfl) (fun b50 => ?_)
    refine OPS.nil ?_
    refine thn_n ?_
    refine WP.cut (fun e74 w75 => ∃ (x72 : Bool), (True) ∧ Bp x72 (((False) ↔ (False))) ∧ List.map e74 [2] = [.bool x72] ∧ Hp w Non [Res.own 3 1 (.slice ao46 no47 co48) no47 (List.flatMap (fun (y : Nat) => [Go.Value.int .i64 (y : Int)]) xs43), Res.own 3 1 (.slice ao28 no29 co30) no29 (List.flatMap (fun (y : Nat) => [Go.Value.int .i64 (y : Int)]) xs43), Res.own 41 11 (.slice ao8 no9 co10) no9 (List.flatMap GCall.cells cl11), Res.vl F13 cl11 vs12] w75) ?_ ?_
    · refine WP.region _ rfl (by kernel_rfl) ?_
      refine OPS.batch 8 { wraps := [28] } [] [3, 4, 6, 7, 29] [.slice ao8 no9 co10, .slice ao28 no29 co30, .slice ao46 no47 co48, .bool false, .bool (false == false)] .nil (by kernel_rfl) (fun b52 => ?_)
      by_cases h53 : ((False) ↔ (False))
      · refine OPS.batch 0 {} [] [3, 4, 6, 7, 29] [.slice ao8 no9 co10, .slice ao28 no29 co30, .slice ao46 no47 co48, .bool false, .bool (false == false)] .nil (by kernel_rfl) (fun b54 => ?_)
        refine OPS.re [.slice ao8 no9 co10, .slice ao28 no29 co30, .slice ao46 no47 co48, .bool false, .bool true] (by rw [show (false == false) = true from (Bp.beq Bp.f Bp.f).tt h53]) ?_
        refine OPS.batch 2 {} [] [3, 6, 7, 29, 30, 31] [.slice ao8 no9 co10, .slice ao46 no47 co48, .bool false, .bool true, .slice ao46 no47 co48, .slice ao28 no29 co30] .nil (by kernel_rfl) (fun b55 => ?_)
        refine OPS.want (by kernel_rfl) ?_
        refine OPS.cons (opStep.call (some 32) [.slice ao46 no47 co48, .slice ao28 no29 co30] (by kernel_rfl) (sherdlaw20_sameInts (ints xs43) (ints xs43) ao46 ao28 no47 no29 co48 co30 _ ((ints_len _).trans (own_flat (sz := 1) (fun _ => rfl) (by decide) hp37.get0)) ((ints_len _).trans (own_flat (sz := 1) (fun _ => rfl) (by decide) hp37.get1)) (by simp only [ints_len]; omega) (slr_ints (SlR.own hp37.get0)) (slr_ints (SlR.own hp37.get1))) ?_)
        rintro _ w58 ⟨b61, rfl, hb62, hf59⟩
        refine ⟨_, rfl, ?_⟩
        have hp60 := hp37.step hf59
        obtain rfl : b61 = true := Bp.tt hb62 rfl
        refine OPS.batch 11 { wraps := [33, 41, 42] } [] [43] [.bool true] .nil (by kernel_rfl) (fun b63 => ?_)
        refine OPS.want (by kernel_rfl) ?_
        refine OPS.cons (opStep.call (some 44) [] (by kernel_rfl) (law20_taken _) ?_)
        rintro _ w66 ⟨rfl, hf67⟩
        refine ⟨_, rfl, ?_⟩
        have hp68 := hp60.step hf67
        refine OPS.batch 2 { wraps := [45] } [] [2] [.bool true] .nil (by kernel_rfl) (fun b69 => ?_)
        refine OPS.nil ?_
        refine thn_n ?_
        exact ⟨true, trivial, Bp.of Bp.t (by first | (simp only [h53, iff_false, false_iff, iff_true, true_iff, Classical.not_not, and_true, true_and, and_false, false_and, or_true, true_or, or_false, false_or, not_true_eq_false, not_false_eq_true, and_self, or_self, iff_self]; done) | (simp [h53]; done) | simp_all), by kernel_rfl, hp68⟩
      · refine OPS.batch 0 {} [] [3, 4, 6, 7, 29] [.slice ao8 no9 co10, .slice ao28 no29 co30, .slice ao46 no47 co48, .bool false, .bool (false == false)] .nil (by kernel_rfl) (fun b70 => ?_)
        refine OPS.re [.slice ao8 no9 co10, .slice ao28 no29 co30, .slice ao46 no47 co48, .bool false, .bool false] (by rw [show (false == false) = false from (Bp.beq Bp.f Bp.f).ff h53]) ?_
        refine OPS.batch 17 { wraps := [33, 42, 45] } [] [2] [.bool false] .nil (by kernel_rfl) (fun b71 => ?_)
        refine OPS.nil ?_
        refine thn_n ?_
        exact ⟨false, trivial, Bp.of Bp.f (by first | (simp only [h53, iff_false, false_iff, iff_true, true_iff, Classical.not_not, and_true, true_and, and_false, false_and, or_true, true_or, or_false, false_or, not_true_eq_false, not_false_eq_true, and_self, or_self, iff_self]; done) | (simp [h53]; done) | simp_all), by kernel_rfl, hp37⟩
    rintro e74 w75 ⟨x72, hd77, hb73, hE78, hp76⟩
    obtain ⟨b79, rfl⟩ := toMk hE78
    clear hE78
    clear hd77
    refine WP.ret ?_
    refine bodyQ.of _ rfl [.bool x72] ⟨rfl, trivial⟩ ?_
    exact ⟨congrArg (fun b => Ending.returned (.bool b)) (Bp.tt hb73 (by simp)), hp76.fr⟩
  · refine OPS.batch 7 {} [] [3, 4, 5, 6, 7, 8] [.slice ao8 no9 co10, .slice ao28 no29 co30, .bool true, .slice ao46 no47 co48, .bool true, .int .i64 0] .nil (by kernel_rfl) (fun b80 => ?_)
    refine OPS.nil ?_
    refine thn_n ?_
    refine WP.cut (fun e112 w113 => ∃ (x110 : Bool), (True) ∧ Bp x110 (((True) ↔ (True))) ∧ List.map e112 [2] = [.bool x110] ∧ Hp w Non [Res.own 3 1 (.slice ao46 no47 co48) no47 (List.flatMap (fun (y : Nat) => [Go.Value.int .i64 (y : Int)]) xs43), Res.own 3 1 (.slice ao28 no29 co30) no29 (List.flatMap (fun (y : Nat) => [Go.Value.int .i64 (y : Int)]) xs43), Res.own 41 11 (.slice ao8 no9 co10) no9 (List.flatMap GCall.cells cl11), Res.vl F13 cl11 vs12] w113) ?_ ?_
    · refine WP.region _ rfl (by kernel_rfl) ?_
      refine OPS.batch 8 { wraps := [28] } [] [3, 4, 6, 7, 29] [.slice ao8 no9 co10, .slice ao28 no29 co30, .slice ao46 no47 co48, .bool true, .bool (true == true)] .nil (by kernel_rfl) (fun b82 => ?_)
      by_cases h83 : ((True) ↔ (True))
      · refine OPS.batch 0 {} [] [3, 4, 6, 7, 29] [.slice ao8 no9 co10, .slice ao28 no29 co30, .slice ao46 no47 co48, .bool true, .bool (true == true)] .nil (by kernel_rfl) (fun b84 => ?_)
        refine OPS.re [.slice ao8 no9 co10, .slice ao28 no29 co30, .slice ao46 no47 co48, .bool true, .bool true] (by rw [show (true == true) = true from (Bp.beq Bp.t Bp.t).tt h83]) ?_
        refine OPS.batch 2 {} [] [3, 6, 7, 29, 30, 31] [.slice ao8 no9 co10, .slice ao46 no47 co48, .bool true, .bool true, .slice ao46 no47 co48, .slice ao28 no29 co30] .nil (by kernel_rfl) (fun b85 => ?_)
        refine OPS.want (by kernel_rfl) ?_
        refine OPS.cons (opStep.call (some 32) [.slice ao46 no47 co48, .slice ao28 no29 co30] (by kernel_rfl) (sherdlaw20_sameInts (ints xs43) (ints xs43) ao46 ao28 no47 no29 co48 co30 _ ((ints_len _).trans (own_flat (sz := 1) (fun _ => rfl) (by decide) hp37.get0)) ((ints_len _).trans (own_flat (sz := 1) (fun _ => rfl) (by decide) hp37.get1)) (by simp only [ints_len]; omega) (slr_ints (SlR.own hp37.get0)) (slr_ints (SlR.own hp37.get1))) ?_)
        rintro _ w88 ⟨b91, rfl, hb92, hf89⟩
        refine ⟨_, rfl, ?_⟩
        have hp90 := hp37.step hf89
        obtain rfl : b91 = true := Bp.tt hb92 rfl
        refine OPS.batch 7 { wraps := [33] } [] [34, 37, 38, 39] [.bool true, .bool false, .slice ao8 no9 co10, .slice ao46 no47 co48] .nil (by kernel_rfl) (fun b93 => ?_)
        refine OPS.want (by kernel_rfl) ?_
        refine OPS.cons (opStep.call (some 40) [.slice ao8 no9 co10, .slice ao46 no47 co48] (by kernel_rfl) (expl_N cl11 no9 h18 ao8 co10 xs43 ao46 no47 co48 _ (SlR.own hp90.get2) (vl_vb hp90.get3) (by omega) (SlR.own hp90.get0) hk49 (by omega)) ?_)
        rintro _ w96 ⟨f97, rfl, hb98, hf99⟩
        obtain rfl : f97 = true := Bp.tt hb98 ((expl_same fun i hi => ((fun i hi => vl_val hp7.get1 hi) i hi).trans ((fun i hi => vl_val hp90.get3 hi) i hi).symm).1 (he42 rfl))
        refine ⟨_, rfl, ?_⟩
        have hp100 := hp90.step hf99
        refine OPS.batch 3 { wraps := [41, 42] } [] [43] [.bool true] .nil (by kernel_rfl) (fun b101 => ?_)
        refine OPS.want (by kernel_rfl) ?_
        refine OPS.cons (opStep.call (some 44) [] (by kernel_rfl) (law20_taken _) ?_)
        rintro _ w104 ⟨rfl, hf105⟩
        refine ⟨_, rfl, ?_⟩
        have hp106 := hp100.step hf105
        refine OPS.batch 2 { wraps := [45] } [] [2] [.bool true] .nil (by kernel_rfl) (fun b107 => ?_)
        refine OPS.nil ?_
        refine thn_n ?_
        exact ⟨true, trivial, Bp.of Bp.t (by first | (simp only [h83, iff_false, false_iff, iff_true, true_iff, Classical.not_not, and_true, true_and, and_false, false_and, or_true, true_or, or_false, false_or, not_true_eq_false, not_false_eq_true, and_self, or_self, iff_self]; done) | (simp [h83]; done) | simp_all), by kernel_rfl, hp106⟩
      · refine OPS.batch 0 {} [] [3, 4, 6, 7, 29] [.slice ao8 no9 co10, .slice ao28 no29 co30, .slice ao46 no47 co48, .bool true, .bool (true == true)] .nil (by kernel_rfl) (fun b108 => ?_)
        refine OPS.re [.slice ao8 no9 co10, .slice ao28 no29 co30, .slice ao46 no47 co48, .bool true, .bool false] (by rw [show (true == true) = false from (Bp.beq Bp.t Bp.t).ff h83]) ?_
        refine OPS.batch 17 { wraps := [33, 42, 45] } [] [2] [.bool false] .nil (by kernel_rfl) (fun b109 => ?_)
        refine OPS.nil ?_
        refine thn_n ?_
        exact ⟨false, trivial, Bp.of Bp.f (by first | (simp only [h83, iff_false, false_iff, iff_true, true_iff, Classical.not_not, and_true, true_and, and_false, false_and, or_true, true_or, or_false, false_or, not_true_eq_false, not_false_eq_true, and_self, or_self, iff_self]; done) | (simp [h83]; done) | simp_all), by kernel_rfl, hp37⟩
    rintro e112 w113 ⟨x110, hd115, hb111, hE116, hp114⟩
    obtain ⟨b117, rfl⟩ := toMk hE116
    clear hE116
    clear hd115
    refine WP.ret ?_
    refine bodyQ.of _ rfl [.bool x110] ⟨rfl, trivial⟩ ?_
    exact ⟨congrArg (fun b => Ending.returned (.bool b)) (Bp.tt hb111 (by simp)), hp114.fr⟩

end Go.Proofs.Ythdkbbpiaeaojaa.K
