/- The walks of ReoF: what each function computes. -/
import Derived.Test.YtdahgdkadfdkeaaProg
import Derived.Test.YtdahgdkadfdkeaaCoreO
import Derived.Test.YtdahgdkadfdkeaaReoD
namespace Go.Proofs.Ytdahgdkadfdkeaa.K
open Go Go.Proofs Go.RowKit
set_option linter.unusedVariables false
set_option linter.unusedSimpArgs false
set_option maxRecDepth 20000
set_option maxHeartbeats 4000000

theorem r21_taken (l : List GCall) (a : Option Addr) (n c : Nat) (w : World) (hn : n = l.length) (hb : l.length ≤ 8796093022207) (hs : SlR w a n (l.flatMap GCall.cells)) (hb2 : l.length ≤ 1048576) (hf : fitP l) :
    Calls Try.prog 78 #[.slice a n c] w (fun r_ w' => ∃ ao no co xs, r_ = .returned (.slice ao no co) ∧ tkA l xs ∧ Hp w Non [Res.own 115 3 (.slice ao no co) no (List.flatMap Gsherdref21_Taken.cells xs)] w') := by
  refine calls_of Try.func78 rfl 133 rfl (by simp) ?_
  have hp0 := Hp.init w
  have he0 : List.map (env0 [.slice a n c]) [0] = [.slice a n c] := by kernel_rfl
  obtain ⟨b0, he0⟩ := toMk he0
  rw [he0]
  clear he0
  refine WP.seq ?_
  refine WP.pure {} [] [0] [.slice a n c] .nil (by kernel_rfl) (fun b1 => ?_)
  refine thn_n ?_
  refine WP.seq ?_
  refine WP.pure {} [] [0, 3] [.slice a n c, .slice none 0 0] .nil (by kernel_rfl) (fun b2 => ?_)
  refine thn_n ?_
  refine WP.seq ?_
  refine WP.seq ?_
  refine WP.pure {} [] [0, 3, 4] [.slice a n c, .slice none 0 0, .int .i64 0] .nil (by kernel_rfl) (fun b3 => ?_)
  refine thn_n ?_
  refine WP.block ?_
  have hp4 := (show Hp w Non [Res.own 115 3 (.slice none 0 0) 0 (List.flatMap Gsherdref21_Taken.cells ([] : List Gsherdref21_Taken))] w from hp0.nilOwn 115 3)
  refine WP.loop (fun mz_ e5 w6 => ∃ (k : Nat) (xs : List Gsherdref21_Taken) (ao : Option Addr) (no : Nat) (co : Nat), mz_ = l.length - k ∧ (k ≤ l.length ∧ tkO l k xs) ∧ List.map e5 [0, 3, 4] = [.slice a n c, .slice ao no co, .int .i64 (k : Int)] ∧ Hp w Non [Res.own 115 3 (.slice ao no co) no (List.flatMap Gsherdref21_Taken.cells xs)] w6) (l.length - (0)) ⟨0, [], none, 0, 0, rfl, ⟨by omega, tkO_start⟩, by kernel_rfl, hp4⟩ ?_
  rintro _ e5 w6 ⟨k, xs, ao, no, co, rfl, hI8, hE9, hp7⟩
  obtain ⟨b10, rfl⟩ := toMk hE9
  clear hE9
  obtain ⟨pa, pb⟩ := hI8
  have pe := own_flat (sz := 3) (fun _ => rfl) (by decide) hp7.get0
  have pl := pb.2.2
  refine WP.seq ?_
  refine WP.seq ?_
  refine WP.pure {} [] [0, 3, 4, 15] [.slice a n c, .slice ao no co, .int .i64 (k : Int), .bool (decide ((k : Int) < ((n : Nat) : Int)))] .nil (by kernel_rfl) (fun b11 => ?_)
  refine thn_n ?_
  refine WP.test (p := (k : Int) < ((n : Nat) : Int)) rfl Bp.dec (fun h12 => ?_) (fun h12 => ?_)
  · refine WP.skip ?_
    refine thn_n ?_
    refine WP.seq ?_
    refine WP.block ?_
    refine WP.cut (fun e45 w46 => ∃ (x43 : Bool), (True) ∧ Bp x43 (((ownA (l[k]!)) ∧ (¬ ((l[k]!.Open) = true))) ∨ ((ownA (l[k]!)) ∧ ((l[k]!.Open) = true) ∧ (wan l l.length (l[k]!.Tag)))) ∧ List.map e45 [0, 3, 4, 39] = [.slice a n c, .slice ao no co, .int .i64 (k : Int), .bool x43] ∧ Hp w Non [Res.own 115 3 (.slice ao no co) no (List.flatMap Gsherdref21_Taken.cells xs)] w46) ?_ ?_
    · refine WP.region _ rfl (by kernel_rfl) ?_
      have hy17 : (l)[k]? = some l[k]! := get_bang (by first | (omega) | (simp only [List.length_append, List.length_cons, List.length_nil]; omega) | (simp only [List.length_take, List.length_append, List.length_cons, List.length_nil]; omega))
      refine OPS.batch 4 {} [GCall.val (l[k]!)] [0, 3, 4, 21] [.slice a n c, .slice ao no co, .int .i64 (k : Int), GCall.val (l[k]!)] (.cons (show InB ((k : Int)) (n) from ⟨by omega, by omega⟩) (.cons ((hs.at hp7).some (by omega)) (.cons (Ld.add0 (Ld.elN (P := Try.prog) (t := 73) (hs.at hp7).rd 11 (fun _ => rfl) hy17 (o := 0) (cs := [.int .i64 (l[k]!.Client), .int .i64 (l[k]!.Op), .bool (l[k]!.Put), .string (l[k]!.Key), .slice (l[k]!.Value.a) (l[k]!.Value.n) (l[k]!.Value.c), .int .i64 (l[k]!.Status), .int .i64 (l[k]!.From), .int .i64 (l[k]!.To), .bool (l[k]!.Open), .int .i64 (l[k]!.Tag.Count), .int .i64 (l[k]!.Tag.Client)]) (by kernel_rfl))) .nil))) (by kernel_rfl) (fun b18 => ?_)
      refine OPS.cons (opStep.call (some 22) [GCall.val (l[k]!)] (by kernel_rfl) (r21_own (l[k]!) _) ?_)
      rintro _ w21 ⟨b24, rfl, hb25, hf22⟩
      refine ⟨_, rfl, ?_⟩
      have hp23 := hp7.step hf22
      refine OPS.batch 1 {} [] [0, 3, 4, 23] [.slice a n c, .slice ao no co, .int .i64 (k : Int), .bool b24] .nil (by kernel_rfl) (fun b26 => ?_)
      by_cases h27 : ownA (l[k]!)
      · rw [show b24 = true from hb25.tt h27]
        refine OPS.batch 7 {} [.bool (l[k]!.Open)] [0, 3, 4, 23, 30] [.slice a n c, .slice ao no co, .int .i64 (k : Int), .bool true, .bool (!(l[k]!.Open))] (.cons (show InB ((k : Int)) (n) from ⟨by omega, by omega⟩) (.cons ((hs.at hp23).some (by omega)) (.cons (Ld.el1 (P := Try.prog) (t := 4) (hs.at hp23).rd 11 (fun _ => rfl) hy17 (o := 8) (v := .bool (l[k]!.Open)) (by kernel_rfl)) .nil))) (by kernel_rfl) (fun b28 => ?_)
        by_cases h29 : (l[k]!.Open) = true
        · refine OPS.batch 0 {} [] [0, 3, 4, 23, 30] [.slice a n c, .slice ao no co, .int .i64 (k : Int), .bool true, .bool (!(l[k]!.Open))] .nil (by kernel_rfl) (fun b32 => ?_)
          refine OPS.re [.slice a n c, .slice ao no co, .int .i64 (k : Int), .bool true, .bool false] (by rw [show (!(l[k]!.Open)) = false from (Bp.not Bp.var).ff (fun k => k h29)]) ?_
          refine OPS.batch 6 {} [.agg #[.int .i64 (l[k]!.Tag.Count), .int .i64 (l[k]!.Tag.Client)]] [0, 3, 4, 23, 30, 31, 36] [.slice a n c, .slice ao no co, .int .i64 (k : Int), .bool true, .bool false, .slice a n c, .agg #[.int .i64 (l[k]!.Tag.Count), .int .i64 (l[k]!.Tag.Client)]] (.cons (show InB ((k : Int)) (n) from ⟨by omega, by omega⟩) (.cons ((hs.at hp23).some (by omega)) (.cons (Ld.elN (P := Try.prog) (t := 70) (hs.at hp23).rd 11 (fun _ => rfl) hy17 (o := 9) (cs := [.int .i64 (l[k]!.Tag.Count), .int .i64 (l[k]!.Tag.Client)]) (by kernel_rfl)) .nil))) (by kernel_rfl) (fun b33 => ?_)
          refine OPS.want (by kernel_rfl) ?_
          refine OPS.cons (opStep.call (some 37) [.slice a n c, .agg #[.int .i64 (l[k]!.Tag.Count), .int .i64 (l[k]!.Tag.Client)]] (by kernel_rfl) (r21_wanted l _ _ _ _ (by omega) (by omega) (hs.at hp23) (l[k]!.Tag)) ?_)
          rintro _ w36 ⟨b39, rfl, hb40, hf37⟩
          refine ⟨_, rfl, ?_⟩
          have hp38 := hp23.step hf37
          refine OPS.batch 2 { wraps := [38, 39] } [] [0, 3, 4, 39] [.slice a n c, .slice ao no co, .int .i64 (k : Int), .bool b39] .nil (by kernel_rfl) (fun b41 => ?_)
          refine OPS.nil ?_
          refine thn_n ?_
          exact ⟨b39, trivial, Bp.of hb40 (by first | (simp only [h27, h29, iff_false, false_iff, iff_true, true_iff, Classical.not_not, and_true, true_and, and_false, false_and, or_true, true_or, or_false, false_or, not_true_eq_false, not_false_eq_true, and_self, or_self, iff_self]; done) | (simp [h27, h29]; done) | grind | (simp_all; done)), by kernel_rfl, hp38⟩
        · refine OPS.batch 0 {} [] [0, 3, 4, 23, 30] [.slice a n c, .slice ao no co, .int .i64 (k : Int), .bool true, .bool (!(l[k]!.Open))] .nil (by kernel_rfl) (fun b30 => ?_)
          refine OPS.re [.slice a n c, .slice ao no co, .int .i64 (k : Int), .bool true, .bool true] (by rw [show (!(l[k]!.Open)) = true from (Bp.not Bp.var).tt h29]) ?_
          refine OPS.batch 9 { wraps := [38, 39] } [] [0, 3, 4, 39] [.slice a n c, .slice ao no co, .int .i64 (k : Int), .bool true] .nil (by kernel_rfl) (fun b31 => ?_)
          refine OPS.nil ?_
          refine thn_n ?_
          exact ⟨true, trivial, Bp.of Bp.t (by first | (simp only [h27, h29, iff_false, false_iff, iff_true, true_iff, Classical.not_not, and_true, true_and, and_false, false_and, or_true, true_or, or_false, false_or, not_true_eq_false, not_false_eq_true, and_self, or_self, iff_self]; done) | (simp [h27, h29]; done) | grind | (simp_all; done)), by kernel_rfl, hp23⟩
      · rw [show b24 = false from hb25.ff h27]
        refine OPS.batch 16 { wraps := [39] } [] [0, 3, 4, 39] [.slice a n c, .slice ao no co, .int .i64 (k : Int), .bool false] .nil (by kernel_rfl) (fun b42 => ?_)
        refine OPS.nil ?_
        refine thn_n ?_
        exact ⟨false, trivial, Bp.of Bp.f (by first | (simp only [h27, iff_false, false_iff, iff_true, true_iff, Classical.not_not, and_true, true_and, and_false, false_and, or_true, true_or, or_false, false_or, not_true_eq_false, not_false_eq_true, and_self, or_self, iff_self]; done) | (simp [h27]; done) | grind | (simp_all; done)), by kernel_rfl, hp23⟩
    rintro e45 w46 ⟨x43, hd48, hb44, hE49, hp47⟩
    obtain ⟨b50, rfl⟩ := toMk hE49
    clear hE49
    clear hd48
    refine WP.test (p := ((ownA (l[k]!)) ∧ (¬ ((l[k]!.Open) = true))) ∨ ((ownA (l[k]!)) ∧ ((l[k]!.Open) = true) ∧ (wan l l.length (l[k]!.Tag)))) rfl hb44 (fun h51 => ?_) (fun h51 => ?_)
    · refine WP.region _ rfl (by kernel_rfl) ?_
      have hy55 : (l)[k]? = some l[k]! := get_bang (by first | (omega) | (simp only [List.length_append, List.length_cons, List.length_nil]; omega) | (simp only [List.length_take, List.length_append, List.length_cons, List.length_nil]; omega))
      refine OPS.batch 8 {} [.agg #[.int .i64 (l[k]!.Tag.Count), .int .i64 (l[k]!.Tag.Client)]] [0, 4, 40, 47] [.slice a n c, .int .i64 (k : Int), .slice ao no co, .agg #[.int .i64 (k : Int), .int .i64 (l[k]!.Tag.Count), .int .i64 (l[k]!.Tag.Client)]] (.cons (show InB ((k : Int)) (n) from ⟨by omega, by omega⟩) (.cons ((hs.at hp47).some (by omega)) (.cons (Ld.elN (P := Try.prog) (t := 70) (hs.at hp47).rd 11 (fun _ => rfl) hy55 (o := 9) (cs := [.int .i64 (l[k]!.Tag.Count), .int .i64 (l[k]!.Tag.Client)]) (by kernel_rfl)) .nil))) (by kernel_rfl) (fun b56 => ?_)
      refine OPS.cons (opStep.buildSlice (E := 115) hp47 [.int .i64 (k : Int), .int .i64 (l[k]!.Tag.Count), .int .i64 (l[k]!.Tag.Client)] (by kernel_rfl) (fun g59 w57 hp58 => ?_))
      refine OPS.cons (opStep.append1 [.int .i64 (k : Int), .int .i64 (l[k]!.Tag.Count), .int .i64 (l[k]!.Tag.Client)] hp58 24 (by kernel_rfl) rfl rfl rfl (SlR.row (n := 1) hp58.get0 rfl).rd (List.all_eq_true.1 (by kernel_rfl)) (by decide) (by omega) (by omega) (fun a62 c63 w64 hp65 hn66 => ?_))
      rw [(show List.flatMap Gsherdref21_Taken.cells xs ++ [.int .i64 (k : Int), .int .i64 (l[k]!.Tag.Count), .int .i64 (l[k]!.Tag.Client)] = List.flatMap Gsherdref21_Taken.cells (xs ++ [(⟨(k : Int), (⟨l[k]!.Tag.Count, l[k]!.Tag.Client⟩ : GTag)⟩ : Gsherdref21_Taken)]) from (List.flatMap_append (xs := xs) (ys := [(⟨(k : Int), (⟨l[k]!.Tag.Count, l[k]!.Tag.Client⟩ : GTag)⟩ : Gsherdref21_Taken)])).symm)] at hp65
      refine OPS.batch 1 {} [] [0, 3, 4] [.slice a n c, .slice a62 (no + 1) c63, .int .i64 (k : Int)] .nil (by kernel_rfl) (fun b67 => ?_)
      refine OPS.nil ?_
      refine blk_n ?_
      refine thn_n ?_
      refine WP.pure {} [] [0, 3, 4] [.slice a n c, .slice a62 (no + 1) c63, .int .i64 ((k : Int) + 1)] (.cons (show Rng .i64 ((k : Int) + 1) from Rng.i64 (by omega)) .nil) (by kernel_rfl) (fun b68 => ?_)
      refine thn_n ?_
      exact ⟨l.length - (k + 1), (by omega), k + 1, xs ++ [(⟨(k : Int), (⟨l[k]!.Tag.Count, l[k]!.Tag.Client⟩ : GTag)⟩ : Gsherdref21_Taken)], a62, no + 1, c63, rfl, ⟨by omega, tkO_add pb (by unfold ownW; have h_ := h51; grind)⟩, by kernel_rfl, (hp65.sub (.cons _ (.cons_cons _ (.slnil))))⟩
    · refine WP.skip ?_
      refine blk_n ?_
      refine thn_n ?_
      refine WP.pure {} [] [0, 3, 4] [.slice a n c, .slice ao no co, .int .i64 ((k : Int) + 1)] (.cons (show Rng .i64 ((k : Int) + 1) from Rng.i64 (by omega)) .nil) (by kernel_rfl) (fun b69 => ?_)
      refine thn_n ?_
      exact ⟨l.length - (k + 1), (by omega), k + 1, xs, ao, no, co, rfl, ⟨by omega, tkO_skip pb (by unfold ownW; have h_ := h51; grind)⟩, by kernel_rfl, hp47⟩
  · refine WP.exit ?_
    refine thn_x ?_
    refine thn_x ?_
    refine blk_hit ?_
    refine thn_n ?_
    refine WP.seq ?_
    refine WP.pure {} [] [0, 3, 5] [.slice a n c, .slice ao no co, .slice none 0 0] .nil (by kernel_rfl) (fun b70 => ?_)
    refine thn_n ?_
    refine WP.seq ?_
    refine WP.seq ?_
    refine WP.pure {} [] [0, 3, 5, 6] [.slice a n c, .slice ao no co, .slice none 0 0, .int .i64 0] .nil (by kernel_rfl) (fun b71 => ?_)
    refine thn_n ?_
    refine WP.block ?_
    obtain rfl : k = l.length := by omega
    have hp72 := (show Hp w Non [Res.own 70 2 (.slice none 0 0) 0 (List.flatMap GTag.cells ([] : List GTag)), Res.own 115 3 (.slice ao no co) no (List.flatMap Gsherdref21_Taken.cells xs)] w6 from hp7.nilOwn 70 2)
    refine WP.loop (fun mz_ e73 w74 => ∃ (k2 : Nat) (xs2 : List Gsherdref21_Taken) (gs : List GTag) (ag : Option Addr) (ng : Nat) (cg : Nat) (ao2 : Option Addr) (no2 : Nat) (co2 : Nat), mz_ = l.length - k2 ∧ (k2 ≤ l.length ∧ tkG l k2 gs xs2) ∧ List.map e73 [0, 3, 5, 6] = [.slice a n c, .slice ao2 no2 co2, .slice ag ng cg, .int .i64 (k2 : Int)] ∧ Hp w Non [Res.own 70 2 (.slice ag ng cg) ng (List.flatMap GTag.cells gs), Res.own 115 3 (.slice ao2 no2 co2) no2 (List.flatMap Gsherdref21_Taken.cells xs2)] w74) (l.length - (0)) ⟨0, xs, [], none, 0, 0, ao, no, co, rfl, ⟨by omega, tkG_start pb⟩, by kernel_rfl, hp72⟩ ?_
    rintro _ e73 w74 ⟨k2, xs2, gs, ag, ng, cg, ao2, no2, co2, rfl, hI76, hE77, hp75⟩
    obtain ⟨b78, rfl⟩ := toMk hE77
    clear hE77
    obtain ⟨pa2, pb2⟩ := hI76
    have pe1 := own_flat (sz := 2) (fun _ => rfl) (by decide) hp75.get0
    have pe2 := own_flat (sz := 3) (fun _ => rfl) (by decide) hp75.get1
    have pl1 := pb2.2.1
    have pl2 := pb2.2.2.2.2
    refine WP.seq ?_
    refine WP.seq ?_
    refine WP.pure {} [] [0, 3, 5, 6, 53] [.slice a n c, .slice ao2 no2 co2, .slice ag ng cg, .int .i64 (k2 : Int), .bool (decide ((k2 : Int) < ((n : Nat) : Int)))] .nil (by kernel_rfl) (fun b79 => ?_)
    refine thn_n ?_
    refine WP.test (p := (k2 : Int) < ((n : Nat) : Int)) rfl Bp.dec (fun h80 => ?_) (fun h80 => ?_)
    · refine WP.skip ?_
      refine thn_n ?_
      refine WP.seq ?_
      refine WP.block ?_
      refine WP.seq ?_
      refine WP.region _ rfl (by kernel_rfl) ?_
      have hy84 : (l)[k2]? = some l[k2]! := get_bang (by first | (omega) | (simp only [List.length_append, List.length_cons, List.length_nil]; omega) | (simp only [List.length_take, List.length_append, List.length_cons, List.length_nil]; omega))
      refine OPS.batch 5 {} [.agg #[.int .i64 (l[k2]!.Tag.Count), .int .i64 (l[k2]!.Tag.Client)]] [0, 3, 5, 6, 60] [.slice a n c, .slice ao2 no2 co2, .slice ag ng cg, .int .i64 (k2 : Int), .agg #[.int .i64 (l[k2]!.Tag.Count), .int .i64 (l[k2]!.Tag.Client)]] (.cons (show InB ((k2 : Int)) (n) from ⟨by omega, by omega⟩) (.cons ((hs.at hp75).some (by omega)) (.cons (Ld.elN (P := Try.prog) (t := 70) (hs.at hp75).rd 11 (fun _ => rfl) hy84 (o := 9) (cs := [.int .i64 (l[k2]!.Tag.Count), .int .i64 (l[k2]!.Tag.Client)]) (by kernel_rfl)) .nil))) (by kernel_rfl) (fun b85 => ?_)
      refine OPS.cons (opStep.alloc hp75 [.int .i64 0, .int .i64 0] (by kernel_rfl) (fun g88 w86 hp87 => ?_))
      refine OPS.cons (opStep.store0 hp87 rfl [.int .i64 (l[k2]!.Tag.Count), .int .i64 (l[k2]!.Tag.Client)] [.int .i64 (l[k2]!.Tag.Count), .int .i64 (l[k2]!.Tag.Client)] (by kernel_rfl) (fun w89 hp90 => ?_))
      refine OPS.nil ?_
      refine thn_n ?_
      refine WP.seq ?_
      refine WP.pure {} [] [0, 3, 5, 6, 7, 8] [.slice a n c, .slice ao2 no2 co2, .slice ag ng cg, .int .i64 (k2 : Int), .pointer (some ⟨g88, 0, none⟩), .bool false] .nil (by kernel_rfl) (fun b91 => ?_)
      refine thn_n ?_
      refine WP.seq ?_
      refine WP.seq ?_
      refine WP.pure {} [] [0, 3, 5, 6, 7, 8, 9] [.slice a n c, .slice ao2 no2 co2, .slice ag ng cg, .int .i64 (k2 : Int), .pointer (some ⟨g88, 0, none⟩), .bool false, .int .i64 0] .nil (by kernel_rfl) (fun b92 => ?_)
      refine thn_n ?_
      refine WP.block ?_
      refine WP.loop (fun mz_ e93 w94 => ∃ (j : Nat) (b : Bool), mz_ = gs.length - j ∧ (j ≤ gs.length ∧ (b = true ↔ ∃ m, m < j ∧ gs[m]! = l[k2]!.Tag)) ∧ List.map e93 [0, 3, 5, 6, 7, 8, 9] = [.slice a n c, .slice ao2 no2 co2, .slice ag ng cg, .int .i64 (k2 : Int), .pointer (some ⟨g88, 0, none⟩), .bool b, .int .i64 (j : Int)] ∧ Hp w Non [Res.row g88 [.int .i64 (l[k2]!.Tag.Count), .int .i64 (l[k2]!.Tag.Client)] 70, Res.own 70 2 (.slice ag ng cg) ng (List.flatMap GTag.cells gs), Res.own 115 3 (.slice ao2 no2 co2) no2 (List.flatMap Gsherdref21_Taken.cells xs2)] w94) (gs.length - (0)) ⟨0, false, rfl, ⟨by omega, by simp⟩, by kernel_rfl, hp90⟩ ?_
      rintro _ e93 w94 ⟨j, b, rfl, hI96, hE97, hp95⟩
      obtain ⟨b98, rfl⟩ := toMk hE97
      clear hE97
      obtain ⟨ra, rb⟩ := hI96
      refine WP.seq ?_
      refine WP.seq ?_
      refine WP.pure {} [] [0, 3, 5, 6, 7, 8, 9, 64] [.slice a n c, .slice ao2 no2 co2, .slice ag ng cg, .int .i64 (k2 : Int), .pointer (some ⟨g88, 0, none⟩), .bool b, .int .i64 (j : Int), .bool (decide ((j : Int) < ((ng : Nat) : Int)))] .nil (by kernel_rfl) (fun b99 => ?_)
      refine thn_n ?_
      refine WP.test (p := (j : Int) < ((ng : Nat) : Int)) rfl Bp.dec (fun h100 => ?_) (fun h100 => ?_)
      · refine WP.skip ?_
        refine thn_n ?_
        refine WP.seq ?_
        refine WP.block ?_
        have hp103 := hp95.drew
        refine WP.quiet (fun w101 => Hp w Non [Res.row g88 [.int .i64 (l[k2]!.Tag.Count), .int .i64 (l[k2]!.Tag.Client)] 70, Res.own 70 2 (.slice ag ng cg) ng (List.flatMap GTag.cells gs), Res.own 115 3 (.slice ao2 no2 co2) no2 (List.flatMap Gsherdref21_Taken.cells xs2)] w101) (by kernel_rfl) hp103 ?_
        have hnehp103 : ∃ wz_, (fun w101 => Hp w Non [Res.row g88 [.int .i64 (l[k2]!.Tag.Count), .int .i64 (l[k2]!.Tag.Client)] 70, Res.own 70 2 (.slice ag ng cg) ng (List.flatMap GTag.cells gs), Res.own 115 3 (.slice ao2 no2 co2) no2 (List.flatMap Gsherdref21_Taken.cells xs2)] w101) wz_ := ⟨_, hp103⟩
        refine QOPS.batch 2 {} [] [0, 3, 5, 6, 7, 9, 68] [.slice a n c, .slice ao2 no2 co2, .slice ag ng cg, .int .i64 (k2 : Int), .pointer (some ⟨g88, 0, none⟩), .int .i64 (j : Int), .bool b] hnehp103 (fun w104 hp105 => QB.mk .nil (by kernel_rfl)) (fun b106 => ?_)
        by_cases h107 : b = true
        · refine QOPS.batch 0 {} [] [0, 3, 5, 6, 7, 9, 68] [.slice a n c, .slice ao2 no2 co2, .slice ag ng cg, .int .i64 (k2 : Int), .pointer (some ⟨g88, 0, none⟩), .int .i64 (j : Int), .bool b] hnehp103 (fun _ _ => QB.mk .nil (by kernel_rfl)) (fun b108 => ?_)
          refine QOPS.re [.slice a n c, .slice ao2 no2 co2, .slice ag ng cg, .int .i64 (k2 : Int), .pointer (some ⟨g88, 0, none⟩), .int .i64 (j : Int), .bool true] (by rw [show b = true from Bp.var.tt h107]) ?_
          refine QOPS.batch 8 { wraps := [75] } [] [0, 3, 5, 6, 7, 8, 9] [.slice a n c, .slice ao2 no2 co2, .slice ag ng cg, .int .i64 (k2 : Int), .pointer (some ⟨g88, 0, none⟩), .bool true, .int .i64 (j : Int)] hnehp103 (fun w109 hp110 => QB.mk .nil (by kernel_rfl)) (fun b111 => ?_)
          refine QOPS.nil (fun w112 hp113 => ?_)
          refine blk_n ?_
          refine thn_n ?_
          refine WP.pure {} [] [0, 3, 5, 6, 7, 8, 9] [.slice a n c, .slice ao2 no2 co2, .slice ag ng cg, .int .i64 (k2 : Int), .pointer (some ⟨g88, 0, none⟩), .bool true, .int .i64 ((j : Int) + 1)] (.cons (show Rng .i64 ((j : Int) + 1) from Rng.i64 (by omega)) .nil) (by kernel_rfl) (fun b114 => ?_)
          refine thn_n ?_
          exact ⟨gs.length - (j + 1), (by omega), j + 1, true, rfl, ⟨by omega, by rw [show (_ = true ↔ _) from Bp.t, ex_step, ← rb, tagEq]; grind⟩, by kernel_rfl, hp113⟩
        · refine QOPS.batch 0 {} [] [0, 3, 5, 6, 7, 9, 68] [.slice a n c, .slice ao2 no2 co2, .slice ag ng cg, .int .i64 (k2 : Int), .pointer (some ⟨g88, 0, none⟩), .int .i64 (j : Int), .bool b] hnehp103 (fun _ _ => QB.mk .nil (by kernel_rfl)) (fun b115 => ?_)
          refine QOPS.re [.slice a n c, .slice ao2 no2 co2, .slice ag ng cg, .int .i64 (k2 : Int), .pointer (some ⟨g88, 0, none⟩), .int .i64 (j : Int), .bool false] (by rw [show b = false from Bp.var.ff h107]) ?_
          have := own_flat (sz := 2) (fun _ => rfl) (by decide) hp103.get1
          have hy119 : (gs)[j]? = some gs[j]! := get_bang (by first | (omega) | (simp only [List.length_append, List.length_cons, List.length_nil]; omega) | (simp only [List.length_take, List.length_append, List.length_cons, List.length_nil]; omega))
          refine QOPS.batch 8 { wraps := [75] } [GTag.val (gs[j]!), .agg #[.int .i64 (l[k2]!.Tag.Count), .int .i64 (l[k2]!.Tag.Client)]] [0, 3, 5, 6, 7, 8, 9] [.slice a n c, .slice ao2 no2 co2, .slice ag ng cg, .int .i64 (k2 : Int), .pointer (some ⟨g88, 0, none⟩), .bool ((decide ((gs[j]!.Count) = (l[k2]!.Tag.Count))) && ((decide ((gs[j]!.Client) = (l[k2]!.Tag.Client))) && true)), .int .i64 (j : Int)] hnehp103 (fun w116 hp117 => QB.mk (.cons (show InB ((j : Int)) (ng) from ⟨by omega, by omega⟩) (.cons ((SlR.own (hp117.get1)).some (by omega)) (.cons (Ld.add0 (Ld.elN (P := Try.prog) (t := 70) (SlR.own (hp117.get1)).rd 2 (fun _ => rfl) hy119 (o := 0) (cs := [.int .i64 (gs[j]!.Count), .int .i64 (gs[j]!.Client)]) (by kernel_rfl))) (.cons (show Ld Try.prog w116 70 ⟨g88, 0, none⟩ (.agg #[.int .i64 (l[k2]!.Tag.Count), .int .i64 (l[k2]!.Tag.Client)]) from Ld.rowN (cs := [.int .i64 (l[k2]!.Tag.Count), .int .i64 (l[k2]!.Tag.Client)]) hp117.get0 (by kernel_rfl)) .nil)))) (by kernel_rfl)) (fun b120 => ?_)
          refine QOPS.nil (fun w121 hp122 => ?_)
          refine blk_n ?_
          refine thn_n ?_
          refine WP.pure {} [] [0, 3, 5, 6, 7, 8, 9] [.slice a n c, .slice ao2 no2 co2, .slice ag ng cg, .int .i64 (k2 : Int), .pointer (some ⟨g88, 0, none⟩), .bool ((decide ((gs[j]!.Count) = (l[k2]!.Tag.Count))) && ((decide ((gs[j]!.Client) = (l[k2]!.Tag.Client))) && true)), .int .i64 ((j : Int) + 1)] (.cons (show Rng .i64 ((j : Int) + 1) from Rng.i64 (by omega)) .nil) (by kernel_rfl) (fun b123 => ?_)
          refine thn_n ?_
          exact ⟨gs.length - (j + 1), (by omega), j + 1, (decide ((gs[j]!.Count) = (l[k2]!.Tag.Count))) && ((decide ((gs[j]!.Client) = (l[k2]!.Tag.Client))) && true), rfl, ⟨by omega, by rw [show (_ = true ↔ _) from (Bp.band Bp.dec (Bp.band1 Bp.dec)), ex_step, ← rb, tagEq]; grind⟩, by kernel_rfl, hp122⟩
      · refine WP.exit ?_
        refine thn_x ?_
        refine thn_x ?_
        refine blk_hit ?_
        refine thn_n ?_
        refine WP.seq ?_
        refine WP.cut (fun e156 w157 => ∃ (x154 : Bool), (True) ∧ Bp x154 (((¬ (rdC (l[k2]!)))) ∨ ((rdC (l[k2]!)) ∧ (knw l (l[k2]!.Tag))) ∨ ((rdC (l[k2]!)) ∧ (¬ (knw l (l[k2]!.Tag))) ∧ (b = true))) ∧ List.map e156 [0, 3, 5, 6, 7, 89] = [.slice a n c, .slice ao2 no2 co2, .slice ag ng cg, .int .i64 (k2 : Int), .pointer (some ⟨g88, 0, none⟩), .bool x154] ∧ Hp w Non [Res.row g88 [.int .i64 (l[k2]!.Tag.Count), .int .i64 (l[k2]!.Tag.Client)] 70, Res.own 70 2 (.slice ag ng cg) ng (List.flatMap GTag.cells gs), Res.own 115 3 (.slice ao2 no2 co2) no2 (List.flatMap Gsherdref21_Taken.cells xs2)] w157) ?_ ?_
        · refine WP.region _ rfl (by kernel_rfl) ?_
          have hy128 : (l)[k2]? = some l[k2]! := get_bang (by first | (omega) | (simp only [List.length_append, List.length_cons, List.length_nil]; omega) | (simp only [List.length_take, List.length_append, List.length_cons, List.length_nil]; omega))
          refine OPS.batch 4 {} [GCall.val (l[k2]!)] [0, 3, 5, 6, 7, 8, 79] [.slice a n c, .slice ao2 no2 co2, .slice ag ng cg, .int .i64 (k2 : Int), .pointer (some ⟨g88, 0, none⟩), .bool b, GCall.val (l[k2]!)] (.cons (show InB ((k2 : Int)) (n) from ⟨by omega, by omega⟩) (.cons ((hs.at hp95).some (by omega)) (.cons (Ld.add0 (Ld.elN (P := Try.prog) (t := 73) (hs.at hp95).rd 11 (fun _ => rfl) hy128 (o := 0) (cs := [.int .i64 (l[k2]!.Client), .int .i64 (l[k2]!.Op), .bool (l[k2]!.Put), .string (l[k2]!.Key), .slice (l[k2]!.Value.a) (l[k2]!.Value.n) (l[k2]!.Value.c), .int .i64 (l[k2]!.Status), .int .i64 (l[k2]!.From), .int .i64 (l[k2]!.To), .bool (l[k2]!.Open), .int .i64 (l[k2]!.Tag.Count), .int .i64 (l[k2]!.Tag.Client)]) (by kernel_rfl))) .nil))) (by kernel_rfl) (fun b129 => ?_)
          refine OPS.cons (opStep.call (some 80) [GCall.val (l[k2]!)] (by kernel_rfl) (r21_read (l[k2]!) _) ?_)
          rintro _ w132 ⟨b135, rfl, hb136, hf133⟩
          refine ⟨_, rfl, ?_⟩
          have hp134 := hp95.step hf133
          refine OPS.batch 2 {} [] [0, 3, 5, 6, 7, 8, 82] [.slice a n c, .slice ao2 no2 co2, .slice ag ng cg, .int .i64 (k2 : Int), .pointer (some ⟨g88, 0, none⟩), .bool b, .bool (!b135)] .nil (by kernel_rfl) (fun b137 => ?_)
          by_cases h138 : rdC (l[k2]!)
          · refine OPS.batch 0 {} [] [0, 3, 5, 6, 7, 8, 82] [.slice a n c, .slice ao2 no2 co2, .slice ag ng cg, .int .i64 (k2 : Int), .pointer (some ⟨g88, 0, none⟩), .bool b, .bool (!b135)] .nil (by kernel_rfl) (fun b141 => ?_)
            refine OPS.re [.slice a n c, .slice ao2 no2 co2, .slice ag ng cg, .int .i64 (k2 : Int), .pointer (some ⟨g88, 0, none⟩), .bool b, .bool false] (by rw [show (!b135) = false from (Bp.not hb136).ff (fun k => k h138)]) ?_
            refine OPS.batch 2 {} [.agg #[.int .i64 (l[k2]!.Tag.Count), .int .i64 (l[k2]!.Tag.Client)]] [0, 3, 5, 6, 7, 8, 82, 83, 84] [.slice a n c, .slice ao2 no2 co2, .slice ag ng cg, .int .i64 (k2 : Int), .pointer (some ⟨g88, 0, none⟩), .bool b, .bool false, .slice a n c, .agg #[.int .i64 (l[k2]!.Tag.Count), .int .i64 (l[k2]!.Tag.Client)]] (.cons (show Ld Try.prog w132 70 ⟨g88, 0, none⟩ (.agg #[.int .i64 (l[k2]!.Tag.Count), .int .i64 (l[k2]!.Tag.Client)]) from Ld.rowN (cs := [.int .i64 (l[k2]!.Tag.Count), .int .i64 (l[k2]!.Tag.Client)]) hp134.get0 (by kernel_rfl)) .nil) (by kernel_rfl) (fun b142 => ?_)
            refine OPS.want (by kernel_rfl) ?_
            refine OPS.cons (opStep.call (some 85) [.slice a n c, .agg #[.int .i64 (l[k2]!.Tag.Count), .int .i64 (l[k2]!.Tag.Client)]] (by kernel_rfl) (r21_known l _ _ _ _ (by omega) (by omega) (hs.at hp134) (l[k2]!.Tag)) ?_)
            rintro _ w145 ⟨b148, rfl, hb149, hf146⟩
            refine ⟨_, rfl, ?_⟩
            have hp147 := hp134.step hf146
            refine OPS.batch 2 { wraps := [86] } [] [0, 3, 5, 6, 7, 8, 87] [.slice a n c, .slice ao2 no2 co2, .slice ag ng cg, .int .i64 (k2 : Int), .pointer (some ⟨g88, 0, none⟩), .bool b, .bool b148] .nil (by kernel_rfl) (fun b150 => ?_)
            by_cases h151 : knw l (l[k2]!.Tag)
            · rw [show b148 = true from hb149.tt h151]
              refine OPS.batch 2 { wraps := [89] } [] [0, 3, 5, 6, 7, 89] [.slice a n c, .slice ao2 no2 co2, .slice ag ng cg, .int .i64 (k2 : Int), .pointer (some ⟨g88, 0, none⟩), .bool true] .nil (by kernel_rfl) (fun b152 => ?_)
              refine OPS.nil ?_
              refine thn_n ?_
              exact ⟨true, trivial, Bp.of Bp.t (by first | (simp only [h138, h151, iff_false, false_iff, iff_true, true_iff, Classical.not_not, and_true, true_and, and_false, false_and, or_true, true_or, or_false, false_or, not_true_eq_false, not_false_eq_true, and_self, or_self, iff_self]; done) | (simp [h138, h151]; done) | grind | (simp_all; done)), by kernel_rfl, hp147⟩
            · rw [show b148 = false from hb149.ff h151]
              refine OPS.batch 2 { wraps := [89] } [] [0, 3, 5, 6, 7, 89] [.slice a n c, .slice ao2 no2 co2, .slice ag ng cg, .int .i64 (k2 : Int), .pointer (some ⟨g88, 0, none⟩), .bool b] .nil (by kernel_rfl) (fun b153 => ?_)
              refine OPS.nil ?_
              refine thn_n ?_
              exact ⟨b, trivial, Bp.of Bp.var (by first | (simp only [h138, h151, iff_false, false_iff, iff_true, true_iff, Classical.not_not, and_true, true_and, and_false, false_and, or_true, true_or, or_false, false_or, not_true_eq_false, not_false_eq_true, and_self, or_self, iff_self]; done) | (simp [h138, h151]; done) | grind | (simp_all; done)), by kernel_rfl, hp147⟩
          · refine OPS.batch 0 {} [] [0, 3, 5, 6, 7, 8, 82] [.slice a n c, .slice ao2 no2 co2, .slice ag ng cg, .int .i64 (k2 : Int), .pointer (some ⟨g88, 0, none⟩), .bool b, .bool (!b135)] .nil (by kernel_rfl) (fun b139 => ?_)
            refine OPS.re [.slice a n c, .slice ao2 no2 co2, .slice ag ng cg, .int .i64 (k2 : Int), .pointer (some ⟨g88, 0, none⟩), .bool b, .bool true] (by rw [show (!b135) = true from (Bp.not hb136).tt h138]) ?_
            refine OPS.batch 7 { wraps := [86, 89] } [] [0, 3, 5, 6, 7, 89] [.slice a n c, .slice ao2 no2 co2, .slice ag ng cg, .int .i64 (k2 : Int), .pointer (some ⟨g88, 0, none⟩), .bool true] .nil (by kernel_rfl) (fun b140 => ?_)
            refine OPS.nil ?_
            refine thn_n ?_
            exact ⟨true, trivial, Bp.of Bp.t (by first | (simp only [h138, iff_false, false_iff, iff_true, true_iff, Classical.not_not, and_true, true_and, and_false, false_and, or_true, true_or, or_false, false_or, not_true_eq_false, not_false_eq_true, and_self, or_self, iff_self]; done) | (simp [h138]; done) | grind | (simp_all; done)), by kernel_rfl, hp134⟩
        rintro e156 w157 ⟨x154, hd159, hb155, hE160, hp158⟩
        obtain ⟨b161, rfl⟩ := toMk hE160
        clear hE160
        clear hd159
        refine WP.test (p := ((¬ (rdC (l[k2]!)))) ∨ ((rdC (l[k2]!)) ∧ (knw l (l[k2]!.Tag))) ∨ ((rdC (l[k2]!)) ∧ (¬ (knw l (l[k2]!.Tag))) ∧ (b = true))) rfl hb155 (fun h162 => ?_) (fun h162 => ?_)
        · refine WP.exit ?_
          refine thn_x ?_
          refine blk_hit ?_
          refine thn_n ?_
          refine WP.pure {} [] [0, 3, 5, 6] [.slice a n c, .slice ao2 no2 co2, .slice ag ng cg, .int .i64 ((k2 : Int) + 1)] (.cons (show Rng .i64 ((k2 : Int) + 1) from Rng.i64 (by omega)) .nil) (by kernel_rfl) (fun b163 => ?_)
          refine thn_n ?_
          exact ⟨l.length - (k2 + 1), (by omega), k2 + 1, xs2, gs, ag, ng, cg, ao2, no2, co2, rfl, ⟨by omega, tkG_skip pb2 (by rw [← mem_ex (n := j) (by omega), ← rb]; have h_ := h162; grind)⟩, by kernel_rfl, (hp158.sub (.cons _ (.cons_cons _ (.cons_cons _ (.slnil)))))⟩
        · refine WP.skip ?_
          refine thn_n ?_
          refine WP.seq ?_
          refine WP.region _ rfl (by kernel_rfl) ?_
          refine OPS.batch 2 {} [.agg #[.int .i64 (l[k2]!.Tag.Count), .int .i64 (l[k2]!.Tag.Client)]] [0, 3, 6, 7, 90, 91] [.slice a n c, .slice ao2 no2 co2, .int .i64 (k2 : Int), .pointer (some ⟨g88, 0, none⟩), .slice ag ng cg, .agg #[.int .i64 (l[k2]!.Tag.Count), .int .i64 (l[k2]!.Tag.Client)]] (.cons (show Ld Try.prog w157 70 ⟨g88, 0, none⟩ (.agg #[.int .i64 (l[k2]!.Tag.Count), .int .i64 (l[k2]!.Tag.Client)]) from Ld.rowN (cs := [.int .i64 (l[k2]!.Tag.Count), .int .i64 (l[k2]!.Tag.Client)]) hp158.get0 (by kernel_rfl)) .nil) (by kernel_rfl) (fun b164 => ?_)
          refine OPS.cons (opStep.buildSlice (E := 70) hp158 [.int .i64 (l[k2]!.Tag.Count), .int .i64 (l[k2]!.Tag.Client)] (by kernel_rfl) (fun g167 w165 hp166 => ?_))
          refine OPS.cons (opStep.append2 [.int .i64 (l[k2]!.Tag.Count), .int .i64 (l[k2]!.Tag.Client)] hp166 16 (by kernel_rfl) rfl rfl rfl (SlR.row (n := 1) hp166.get0 rfl).rd (List.all_eq_true.1 (by kernel_rfl)) (by decide) (by omega) (by omega) (fun a170 c171 w172 hp173 hn174 => ?_))
          rw [(show List.flatMap GTag.cells gs ++ [.int .i64 (l[k2]!.Tag.Count), .int .i64 (l[k2]!.Tag.Client)] = List.flatMap GTag.cells (gs ++ [(⟨l[k2]!.Tag.Count, l[k2]!.Tag.Client⟩ : GTag)]) from (List.flatMap_append (xs := gs) (ys := [(⟨l[k2]!.Tag.Count, l[k2]!.Tag.Client⟩ : GTag)])).symm)] at hp173
          refine OPS.batch 1 {} [] [0, 3, 5, 6, 7] [.slice a n c, .slice ao2 no2 co2, .slice a170 (ng + 1) c171, .int .i64 (k2 : Int), .pointer (some ⟨g88, 0, none⟩)] .nil (by kernel_rfl) (fun b175 => ?_)
          refine OPS.nil ?_
          refine thn_n ?_
          refine WP.seq ?_
          refine WP.pure {} [] [0, 3, 5, 6, 7, 10] [.slice a n c, .slice ao2 no2 co2, .slice a170 (ng + 1) c171, .int .i64 (k2 : Int), .pointer (some ⟨g88, 0, none⟩), .int .i64 (-1)] .nil (by kernel_rfl) (fun b176 => ?_)
          refine thn_n ?_
          refine WP.seq ?_
          refine WP.seq ?_
          refine WP.pure {} [] [0, 3, 5, 6, 7, 10, 11] [.slice a n c, .slice ao2 no2 co2, .slice a170 (ng + 1) c171, .int .i64 (k2 : Int), .pointer (some ⟨g88, 0, none⟩), .int .i64 (-1), .int .i64 0] .nil (by kernel_rfl) (fun b177 => ?_)
          refine thn_n ?_
          refine WP.block ?_
          refine WP.loop (fun mz_ e178 w179 => ∃ (j3 : Nat) (la : Int), mz_ = l.length - j3 ∧ (j3 ≤ l.length ∧ la = lastP l l[k2]!.Tag.Client j3) ∧ List.map e178 [0, 3, 5, 6, 7, 10, 11] = [.slice a n c, .slice ao2 no2 co2, .slice a170 (ng + 1) c171, .int .i64 (k2 : Int), .pointer (some ⟨g88, 0, none⟩), .int .i64 la, .int .i64 (j3 : Int)] ∧ Hp w Non [Res.row g167 [.int .i64 (l[k2]!.Tag.Count), .int .i64 (l[k2]!.Tag.Client)] 70, Res.row g88 [.int .i64 (l[k2]!.Tag.Count), .int .i64 (l[k2]!.Tag.Client)] 70, Res.own 70 2 (.slice a170 (ng + 1) c171) (ng + 1) (List.flatMap GTag.cells (gs ++ [(⟨l[k2]!.Tag.Count, l[k2]!.Tag.Client⟩ : GTag)])), Res.own 115 3 (.slice ao2 no2 co2) no2 (List.flatMap Gsherdref21_Taken.cells xs2)] w179) (l.length - (0)) ⟨0, (-1), rfl, ⟨by omega, rfl⟩, by kernel_rfl, hp173⟩ ?_
          rintro _ e178 w179 ⟨j3, la, rfl, hI181, hE182, hp180⟩
          obtain ⟨b183, rfl⟩ := toMk hE182
          clear hE182
          obtain ⟨sa, sb⟩ := hI181
          have hlop := fun h => lop_iff (l := l) (j := j3) (cl := l[k2]!.Tag.Client) hf h
          refine WP.seq ?_
          refine WP.seq ?_
          refine WP.pure {} [] [0, 3, 5, 6, 7, 10, 11, 97] [.slice a n c, .slice ao2 no2 co2, .slice a170 (ng + 1) c171, .int .i64 (k2 : Int), .pointer (some ⟨g88, 0, none⟩), .int .i64 la, .int .i64 (j3 : Int), .bool (decide ((j3 : Int) < ((n : Nat) : Int)))] .nil (by kernel_rfl) (fun b184 => ?_)
          refine thn_n ?_
          refine WP.test (p := (j3 : Int) < ((n : Nat) : Int)) rfl Bp.dec (fun h185 => ?_) (fun h185 => ?_)
          · refine WP.skip ?_
            refine thn_n ?_
            refine WP.seq ?_
            refine WP.block ?_
            refine WP.cut (fun e226 w227 => ∃ (x224 : Bool), (True) ∧ Bp x224 (((l[j3]!.Put) = true) ∧ (¬ (ownA (l[j3]!))) ∧ ((l[j3]!.Client) = (l[k2]!.Tag.Client))) ∧ List.map e226 [0, 3, 5, 6, 7, 10, 11, 122] = [.slice a n c, .slice ao2 no2 co2, .slice a170 (ng + 1) c171, .int .i64 (k2 : Int), .pointer (some ⟨g88, 0, none⟩), .int .i64 la, .int .i64 (j3 : Int), .bool x224] ∧ Hp w Non [Res.row g167 [.int .i64 (l[k2]!.Tag.Count), .int .i64 (l[k2]!.Tag.Client)] 70, Res.row g88 [.int .i64 (l[k2]!.Tag.Count), .int .i64 (l[k2]!.Tag.Client)] 70, Res.own 70 2 (.slice a170 (ng + 1) c171) (ng + 1) (List.flatMap GTag.cells (gs ++ [(⟨l[k2]!.Tag.Count, l[k2]!.Tag.Client⟩ : GTag)])), Res.own 115 3 (.slice ao2 no2 co2) no2 (List.flatMap Gsherdref21_Taken.cells xs2)] w227) ?_ ?_
            · have hp189 := hp180.drew
              refine WP.quiet (fun w187 => Hp w Non [Res.row g167 [.int .i64 (l[k2]!.Tag.Count), .int .i64 (l[k2]!.Tag.Client)] 70, Res.row g88 [.int .i64 (l[k2]!.Tag.Count), .int .i64 (l[k2]!.Tag.Client)] 70, Res.own 70 2 (.slice a170 (ng + 1) c171) (ng + 1) (List.flatMap GTag.cells (gs ++ [(⟨l[k2]!.Tag.Count, l[k2]!.Tag.Client⟩ : GTag)])), Res.own 115 3 (.slice ao2 no2 co2) no2 (List.flatMap Gsherdref21_Taken.cells xs2)] w187) (by kernel_rfl) hp189 ?_
              have hnehp189 : ∃ wz_, (fun w187 => Hp w Non [Res.row g167 [.int .i64 (l[k2]!.Tag.Count), .int .i64 (l[k2]!.Tag.Client)] 70, Res.row g88 [.int .i64 (l[k2]!.Tag.Count), .int .i64 (l[k2]!.Tag.Client)] 70, Res.own 70 2 (.slice a170 (ng + 1) c171) (ng + 1) (List.flatMap GTag.cells (gs ++ [(⟨l[k2]!.Tag.Count, l[k2]!.Tag.Client⟩ : GTag)])), Res.own 115 3 (.slice ao2 no2 co2) no2 (List.flatMap Gsherdref21_Taken.cells xs2)] w187) wz_ := ⟨_, hp189⟩
              have hy193 : (l)[j3]? = some l[j3]! := get_bang (by first | (omega) | (simp only [List.length_append, List.length_cons, List.length_nil]; omega) | (simp only [List.length_take, List.length_append, List.length_cons, List.length_nil]; omega))
              refine QOPS.batch 6 {} [.bool (l[j3]!.Put)] [0, 3, 5, 6, 7, 10, 11, 105] [.slice a n c, .slice ao2 no2 co2, .slice a170 (ng + 1) c171, .int .i64 (k2 : Int), .pointer (some ⟨g88, 0, none⟩), .int .i64 la, .int .i64 (j3 : Int), .bool (l[j3]!.Put)] hnehp189 (fun w190 hp191 => QB.mk (.cons (show InB ((j3 : Int)) (n) from ⟨by omega, by omega⟩) (.cons ((hs.at hp191).some (by omega)) (.cons (Ld.el1 (P := Try.prog) (t := 4) (hs.at hp191).rd 11 (fun _ => rfl) hy193 (o := 2) (v := .bool (l[j3]!.Put)) (by kernel_rfl)) .nil))) (by kernel_rfl)) (fun b194 => ?_)
              by_cases h195 : (l[j3]!.Put) = true
              · refine QOPS.batch 0 {} [] [0, 3, 5, 6, 7, 10, 11, 105] [.slice a n c, .slice ao2 no2 co2, .slice a170 (ng + 1) c171, .int .i64 (k2 : Int), .pointer (some ⟨g88, 0, none⟩), .int .i64 la, .int .i64 (j3 : Int), .bool (l[j3]!.Put)] hnehp189 (fun _ _ => QB.mk .nil (by kernel_rfl)) (fun b196 => ?_)
                refine QOPS.re [.slice a n c, .slice ao2 no2 co2, .slice a170 (ng + 1) c171, .int .i64 (k2 : Int), .pointer (some ⟨g88, 0, none⟩), .int .i64 la, .int .i64 (j3 : Int), .bool true] (by rw [show (l[j3]!.Put) = true from Bp.var.tt h195]) ?_
                refine QOPS.batch 4 {} [GCall.val (l[j3]!)] [0, 3, 5, 6, 7, 10, 11, 105, 109] [.slice a n c, .slice ao2 no2 co2, .slice a170 (ng + 1) c171, .int .i64 (k2 : Int), .pointer (some ⟨g88, 0, none⟩), .int .i64 la, .int .i64 (j3 : Int), .bool true, GCall.val (l[j3]!)] hnehp189 (fun w197 hp198 => QB.mk (.cons (show InB ((j3 : Int)) (n) from ⟨by omega, by omega⟩) (.cons ((hs.at hp198).some (by omega)) (.cons (Ld.add0 (Ld.elN (P := Try.prog) (t := 73) (hs.at hp198).rd 11 (fun _ => rfl) hy193 (o := 0) (cs := [.int .i64 (l[j3]!.Client), .int .i64 (l[j3]!.Op), .bool (l[j3]!.Put), .string (l[j3]!.Key), .slice (l[j3]!.Value.a) (l[j3]!.Value.n) (l[j3]!.Value.c), .int .i64 (l[j3]!.Status), .int .i64 (l[j3]!.From), .int .i64 (l[j3]!.To), .bool (l[j3]!.Open), .int .i64 (l[j3]!.Tag.Count), .int .i64 (l[j3]!.Tag.Client)]) (by kernel_rfl))) .nil))) (by kernel_rfl)) (fun b199 => ?_)
                refine QOPS.call (some 110) [GCall.val (l[j3]!)] (by kernel_rfl) (fun w200 hp201 => (r21_own (l[j3]!) _).mono fun _ _ h => by obtain ⟨b, h1, h2, h3⟩ := h; exact ⟨by rw [h1, h2.eq_bo], hp201.step h3⟩) ?_
                refine QOPS.batch 3 { wraps := [112] } [] [0, 3, 5, 6, 7, 10, 11, 113] [.slice a n c, .slice ao2 no2 co2, .slice a170 (ng + 1) c171, .int .i64 (k2 : Int), .pointer (some ⟨g88, 0, none⟩), .int .i64 la, .int .i64 (j3 : Int), .bool (!(bo (ownA (l[j3]!))))] hnehp189 (fun w202 hp203 => QB.mk .nil (by kernel_rfl)) (fun b204 => ?_)
                by_cases h205 : ownA (l[j3]!)
                · refine QOPS.batch 0 {} [] [0, 3, 5, 6, 7, 10, 11, 113] [.slice a n c, .slice ao2 no2 co2, .slice a170 (ng + 1) c171, .int .i64 (k2 : Int), .pointer (some ⟨g88, 0, none⟩), .int .i64 la, .int .i64 (j3 : Int), .bool (!(bo (ownA (l[j3]!))))] hnehp189 (fun _ _ => QB.mk .nil (by kernel_rfl)) (fun b212 => ?_)
                  refine QOPS.re [.slice a n c, .slice ao2 no2 co2, .slice a170 (ng + 1) c171, .int .i64 (k2 : Int), .pointer (some ⟨g88, 0, none⟩), .int .i64 la, .int .i64 (j3 : Int), .bool false] (by rw [show (!(bo (ownA (l[j3]!)))) = false from (Bp.not Bp.bo).ff (fun k => k h205)]) ?_
                  refine QOPS.batch 9 { wraps := [122] } [] [0, 3, 5, 6, 7, 10, 11, 122] [.slice a n c, .slice ao2 no2 co2, .slice a170 (ng + 1) c171, .int .i64 (k2 : Int), .pointer (some ⟨g88, 0, none⟩), .int .i64 la, .int .i64 (j3 : Int), .bool false] hnehp189 (fun w213 hp214 => QB.mk .nil (by kernel_rfl)) (fun b215 => ?_)
                  refine QOPS.nil (fun w216 hp217 => ?_)
                  refine thn_n ?_
                  exact ⟨false, trivial, Bp.of Bp.f (by first | (simp only [h195, h205, iff_false, false_iff, iff_true, true_iff, Classical.not_not, and_true, true_and, and_false, false_and, or_true, true_or, or_false, false_or, not_true_eq_false, not_false_eq_true, and_self, or_self, iff_self]; done) | (simp [h195, h205]; done) | grind | (simp_all; done)), by kernel_rfl, hp217⟩
                · refine QOPS.batch 0 {} [] [0, 3, 5, 6, 7, 10, 11, 113] [.slice a n c, .slice ao2 no2 co2, .slice a170 (ng + 1) c171, .int .i64 (k2 : Int), .pointer (some ⟨g88, 0, none⟩), .int .i64 la, .int .i64 (j3 : Int), .bool (!(bo (ownA (l[j3]!))))] hnehp189 (fun _ _ => QB.mk .nil (by kernel_rfl)) (fun b206 => ?_)
                  refine QOPS.re [.slice a n c, .slice ao2 no2 co2, .slice a170 (ng + 1) c171, .int .i64 (k2 : Int), .pointer (some ⟨g88, 0, none⟩), .int .i64 la, .int .i64 (j3 : Int), .bool true] (by rw [show (!(bo (ownA (l[j3]!)))) = true from (Bp.not Bp.bo).tt h205]) ?_
                  refine QOPS.batch 9 { wraps := [122] } [.int .i64 (l[j3]!.Client), .int .i64 (l[k2]!.Tag.Client)] [0, 3, 5, 6, 7, 10, 11, 122] [.slice a n c, .slice ao2 no2 co2, .slice a170 (ng + 1) c171, .int .i64 (k2 : Int), .pointer (some ⟨g88, 0, none⟩), .int .i64 la, .int .i64 (j3 : Int), .bool (decide ((l[j3]!.Client) = (l[k2]!.Tag.Client)))] hnehp189 (fun w207 hp208 => QB.mk (.cons (show InB ((j3 : Int)) (n) from ⟨by omega, by omega⟩) (.cons ((hs.at hp208).some (by omega)) (.cons (Ld.add0 (Ld.el1 (P := Try.prog) (t := 3) (hs.at hp208).rd 11 (fun _ => rfl) hy193 (o := 0) (v := .int .i64 (l[j3]!.Client)) (by kernel_rfl))) (.cons (Ld.row1 (P := Try.prog) (t := 3) (o := 1) (v := .int .i64 (l[k2]!.Tag.Client)) hp208.get1 (by kernel_rfl)) .nil)))) (by kernel_rfl)) (fun b209 => ?_)
                  refine QOPS.nil (fun w210 hp211 => ?_)
                  refine thn_n ?_
                  exact ⟨decide ((l[j3]!.Client) = (l[k2]!.Tag.Client)), trivial, Bp.of Bp.dec (by first | (simp only [h195, h205, iff_false, false_iff, iff_true, true_iff, Classical.not_not, and_true, true_and, and_false, false_and, or_true, true_or, or_false, false_or, not_true_eq_false, not_false_eq_true, and_self, or_self, iff_self]; done) | (simp [h195, h205]; done) | grind | (simp_all; done)), by kernel_rfl, hp211⟩
              · refine QOPS.batch 0 {} [] [0, 3, 5, 6, 7, 10, 11, 105] [.slice a n c, .slice ao2 no2 co2, .slice a170 (ng + 1) c171, .int .i64 (k2 : Int), .pointer (some ⟨g88, 0, none⟩), .int .i64 la, .int .i64 (j3 : Int), .bool (l[j3]!.Put)] hnehp189 (fun _ _ => QB.mk .nil (by kernel_rfl)) (fun b218 => ?_)
                refine QOPS.re [.slice a n c, .slice ao2 no2 co2, .slice a170 (ng + 1) c171, .int .i64 (k2 : Int), .pointer (some ⟨g88, 0, none⟩), .int .i64 la, .int .i64 (j3 : Int), .bool false] (by rw [show (l[j3]!.Put) = false from Bp.var.ff h195]) ?_
                refine QOPS.batch 17 { wraps := [112, 122] } [] [0, 3, 5, 6, 7, 10, 11, 122] [.slice a n c, .slice ao2 no2 co2, .slice a170 (ng + 1) c171, .int .i64 (k2 : Int), .pointer (some ⟨g88, 0, none⟩), .int .i64 la, .int .i64 (j3 : Int), .bool false] hnehp189 (fun w219 hp220 => QB.mk .nil (by kernel_rfl)) (fun b221 => ?_)
                refine QOPS.nil (fun w222 hp223 => ?_)
                refine thn_n ?_
                exact ⟨false, trivial, Bp.of Bp.f (by first | (simp only [h195, iff_false, false_iff, iff_true, true_iff, Classical.not_not, and_true, true_and, and_false, false_and, or_true, true_or, or_false, false_or, not_true_eq_false, not_false_eq_true, and_self, or_self, iff_self]; done) | (simp [h195]; done) | grind | (simp_all; done)), by kernel_rfl, hp223⟩
            rintro e226 w227 ⟨x224, hd229, hb225, hE230, hp228⟩
            obtain ⟨b231, rfl⟩ := toMk hE230
            clear hE230
            clear hd229
            refine WP.test (p := ((l[j3]!.Put) = true) ∧ (¬ (ownA (l[j3]!))) ∧ ((l[j3]!.Client) = (l[k2]!.Tag.Client))) rfl hb225 (fun h232 => ?_) (fun h232 => ?_)
            · refine WP.pure {} [] [0, 3, 5, 6, 7, 10, 11] [.slice a n c, .slice ao2 no2 co2, .slice a170 (ng + 1) c171, .int .i64 (k2 : Int), .pointer (some ⟨g88, 0, none⟩), .int .i64 (j3 : Int), .int .i64 (j3 : Int)] .nil (by kernel_rfl) (fun b233 => ?_)
              refine blk_n ?_
              refine thn_n ?_
              refine WP.pure {} [] [0, 3, 5, 6, 7, 10, 11] [.slice a n c, .slice ao2 no2 co2, .slice a170 (ng + 1) c171, .int .i64 (k2 : Int), .pointer (some ⟨g88, 0, none⟩), .int .i64 (j3 : Int), .int .i64 ((j3 : Int) + 1)] (.cons (show Rng .i64 ((j3 : Int) + 1) from Rng.i64 (by omega)) .nil) (by kernel_rfl) (fun b234 => ?_)
              refine thn_n ?_
              exact ⟨l.length - (j3 + 1), (by omega), j3 + 1, (j3 : Int), rfl, ⟨by omega, by unfold lastP; rw [if_pos (show _ ∧ _ ∧ _ from (hlop (by omega)).2 (by have h_ := h232; grind))]⟩, by kernel_rfl, hp228⟩
            · refine WP.skip ?_
              refine blk_n ?_
              refine thn_n ?_
              refine WP.pure {} [] [0, 3, 5, 6, 7, 10, 11] [.slice a n c, .slice ao2 no2 co2, .slice a170 (ng + 1) c171, .int .i64 (k2 : Int), .pointer (some ⟨g88, 0, none⟩), .int .i64 la, .int .i64 ((j3 : Int) + 1)] (.cons (show Rng .i64 ((j3 : Int) + 1) from Rng.i64 (by omega)) .nil) (by kernel_rfl) (fun b235 => ?_)
              refine thn_n ?_
              exact ⟨l.length - (j3 + 1), (by omega), j3 + 1, la, rfl, ⟨by omega, by unfold lastP; rw [if_neg (show ¬ (_ ∧ _ ∧ _) from fun q => by have q2_ := (hlop (by omega)).1 q; have h_ := h232; grind)]; exact sb⟩, by kernel_rfl, hp228⟩
          · refine WP.exit ?_
            refine thn_x ?_
            refine thn_x ?_
            refine blk_hit ?_
            refine thn_n ?_
            refine WP.seq ?_
            refine WP.pure {} [] [0, 3, 5, 6, 7, 10, 125] [.slice a n c, .slice ao2 no2 co2, .slice a170 (ng + 1) c171, .int .i64 (k2 : Int), .pointer (some ⟨g88, 0, none⟩), .int .i64 la, .bool (decide (0 ≤ la))] .nil (by kernel_rfl) (fun b236 => ?_)
            refine thn_n ?_
            refine WP.test (p := 0 ≤ la) rfl Bp.dec (fun h237 => ?_) (fun h237 => ?_)
            · refine WP.region _ rfl (by kernel_rfl) ?_
              refine OPS.batch 4 {} [.agg #[.int .i64 (l[k2]!.Tag.Count), .int .i64 (l[k2]!.Tag.Client)]] [0, 5, 6, 126, 129] [.slice a n c, .slice a170 (ng + 1) c171, .int .i64 (k2 : Int), .slice ao2 no2 co2, .agg #[.int .i64 la, .int .i64 (l[k2]!.Tag.Count), .int .i64 (l[k2]!.Tag.Client)]] (.cons (show Ld Try.prog w179 70 ⟨g88, 0, none⟩ (.agg #[.int .i64 (l[k2]!.Tag.Count), .int .i64 (l[k2]!.Tag.Client)]) from Ld.rowN (cs := [.int .i64 (l[k2]!.Tag.Count), .int .i64 (l[k2]!.Tag.Client)]) hp180.get1 (by kernel_rfl)) .nil) (by kernel_rfl) (fun b238 => ?_)
              refine OPS.cons (opStep.buildSlice (E := 115) hp180 [.int .i64 la, .int .i64 (l[k2]!.Tag.Count), .int .i64 (l[k2]!.Tag.Client)] (by kernel_rfl) (fun g241 w239 hp240 => ?_))
              refine OPS.cons (opStep.append4 [.int .i64 la, .int .i64 (l[k2]!.Tag.Count), .int .i64 (l[k2]!.Tag.Client)] hp240 24 (by kernel_rfl) rfl rfl rfl (SlR.row (n := 1) hp240.get0 rfl).rd (List.all_eq_true.1 (by kernel_rfl)) (by decide) (by omega) (by omega) (fun a244 c245 w246 hp247 hn248 => ?_))
              rw [(show List.flatMap Gsherdref21_Taken.cells xs2 ++ [.int .i64 la, .int .i64 (l[k2]!.Tag.Count), .int .i64 (l[k2]!.Tag.Client)] = List.flatMap Gsherdref21_Taken.cells (xs2 ++ [(⟨la, (⟨l[k2]!.Tag.Count, l[k2]!.Tag.Client⟩ : GTag)⟩ : Gsherdref21_Taken)]) from (List.flatMap_append (xs := xs2) (ys := [(⟨la, (⟨l[k2]!.Tag.Count, l[k2]!.Tag.Client⟩ : GTag)⟩ : Gsherdref21_Taken)])).symm)] at hp247
              refine OPS.batch 1 {} [] [0, 3, 5, 6] [.slice a n c, .slice a244 (no2 + 1) c245, .slice a170 (ng + 1) c171, .int .i64 (k2 : Int)] .nil (by kernel_rfl) (fun b249 => ?_)
              refine OPS.nil ?_
              refine blk_n ?_
              refine thn_n ?_
              refine WP.pure {} [] [0, 3, 5, 6] [.slice a n c, .slice a244 (no2 + 1) c245, .slice a170 (ng + 1) c171, .int .i64 ((k2 : Int) + 1)] (.cons (show Rng .i64 ((k2 : Int) + 1) from Rng.i64 (by omega)) .nil) (by kernel_rfl) (fun b250 => ?_)
              refine thn_n ?_
              exact ⟨l.length - (k2 + 1), (by omega), k2 + 1, xs2 ++ [(⟨la, (⟨l[k2]!.Tag.Count, l[k2]!.Tag.Client⟩ : GTag)⟩ : Gsherdref21_Taken)], gs ++ [(⟨l[k2]!.Tag.Count, l[k2]!.Tag.Client⟩ : GTag)], a170, ng + 1, c171, a244, no2 + 1, c245, rfl, ⟨by omega, by have h2_ := tkG_add pb2 (by have h_ := h162; grind) (by have h_ := h162; grind) (by rw [← mem_ex (n := j) (by omega), ← rb]; have h_ := h162; grind) (by rw [show lastP l l[k2]!.Tag.Client l.length = la from by rw [sb, show j3 = l.length from by omega]]; omega); rw [show lastP l l[k2]!.Tag.Client l.length = la from by rw [sb, show j3 = l.length from by omega]] at h2_; exact h2_⟩, by kernel_rfl, (hp247.sub (.cons _ (.cons _ (.cons _ (.cons_cons _ (.cons_cons _ (.slnil)))))))⟩
            · refine WP.skip ?_
              refine blk_n ?_
              refine thn_n ?_
              refine WP.pure {} [] [0, 3, 5, 6] [.slice a n c, .slice ao2 no2 co2, .slice a170 (ng + 1) c171, .int .i64 ((k2 : Int) + 1)] (.cons (show Rng .i64 ((k2 : Int) + 1) from Rng.i64 (by omega)) .nil) (by kernel_rfl) (fun b251 => ?_)
              refine thn_n ?_
              exact ⟨l.length - (k2 + 1), (by omega), k2 + 1, xs2, gs ++ [(⟨l[k2]!.Tag.Count, l[k2]!.Tag.Client⟩ : GTag)], a170, ng + 1, c171, ao2, no2, co2, rfl, ⟨by omega, tkG_none pb2 (by have h_ := h162; grind) (by have h_ := h162; grind) (by rw [show lastP l l[k2]!.Tag.Client l.length = la from by rw [sb, show j3 = l.length from by omega]]; omega)⟩, by kernel_rfl, (hp180.sub (.cons _ (.cons _ (.cons_cons _ (.cons_cons _ (.slnil))))))⟩
    · refine WP.exit ?_
      refine thn_x ?_
      refine thn_x ?_
      refine blk_hit ?_
      refine thn_n ?_
      refine WP.seq ?_
      refine WP.pure {} [] [2] [.slice ao2 no2 co2] .nil (by kernel_rfl) (fun b252 => ?_)
      refine thn_n ?_
      refine WP.ret ?_
      refine bodyQ.of _ rfl [.slice ao2 no2 co2] ⟨rfl, trivial⟩ ?_
      obtain rfl : k2 = l.length := by omega
      exact ⟨_, _, _, _, rfl, tkG_end pb2, (hp75.sub (.cons _ (.cons_cons _ (.slnil))))⟩

end Go.Proofs.Ytdahgdkadfdkeaa.K
