/- The walks of WOrderTime: what each function computes. -/
import Derived.Test.YtdahgdkadfdkeaaProg
import Derived.Test.YtdahgdkadfdkeaaCoreO
import Derived.Test.YtdahgdkadfdkeaaOrdK
import Derived.Test.YtdahgdkadfdkeaaOpen
namespace Go.Proofs.Ytdahgdkadfdkeaa.K
open Go Go.Proofs Go.RowKit
set_option linter.unusedVariables false
set_option linter.unusedSimpArgs false
set_option maxRecDepth 20000
set_option maxHeartbeats 4000000

theorem OrderTime {ok1 : Int → Prop} {okb : Int → Prop} (BN BV BB : Nat) (hBN : BN ≤ 1000000000000000) (hBV : BV ≤ 1000000000000000) (hBB : BB ≤ 1000000000000000) (m : Gsherdlaw21_Made) (who reach opn : List Int) (vals : List SlH) (at_ : Int) (w : World) (s1 : SlD w (fun (y : Int) => [Go.Value.int .i64 y]) ok1 BN m.Who who) (s2 : SlD w (fun (y : SlH) => [SlH.v y]) (fun s => ∃ l, SlD w (α := Int) u8c okb BB s l) BV m.Values vals) (s3 : SlD w (fun (y : Int) => [Go.Value.int .i64 y]) (fun y => -9223372036854775808 ≤ y ∧ y ≤ 9223372036854775807) BN m.Reach reach) (s4 : SlD w (fun (y : Int) => [Go.Value.int .i64 y]) ok1 BN m.Open opn) (hat : -9223372036854775808 ≤ at_ ∧ at_ ≤ 9223372036854775807) :
    Calls Try.prog 7 #[Gsherdlaw21_Made.val m, .int .i64 at_] w (fun x w' => x = .returned (.bool true) ∧ Fram Non w w') := by
  have hw1 := s1.len.symm
  have hr1 := s3.len.symm
  have ho1 := s4.len.symm
  have hv1 := s2.len.symm
  have hw2 := s1.rd
  have hr2 := s3.rd
  have ho2 := s4.rd
  have hv2 := s2.rd
  have hrr := s3.all
  have hvb : ∀ y ∈ vals, vOk w y := fun y hy => by obtain ⟨lv, hlv⟩ := s2.all y hy; exact ⟨VB.of hlv, by have := hlv.cap; have := hlv.bnd; omega⟩
  have hbn : who.length ≤ 1000000000000000 ∧ reach.length ≤ 1000000000000000 ∧ opn.length ≤ 1000000000000000 ∧ vals.length ≤ 1000000000000000 := by have := s1.cap; have := s1.bnd; have := s2.cap; have := s2.bnd; have := s3.cap; have := s3.bnd; have := s4.cap; have := s4.bnd; omega
  refine calls_of Try.func7 rfl 86 rfl (by simp) ?_
  have hp0 := Hp.init w
  have he0 : List.map (env0 [Gsherdlaw21_Made.val m, .int .i64 at_]) [0, 1] = [Gsherdlaw21_Made.val m, .int .i64 at_] := by kernel_rfl
  obtain ⟨b0, he0⟩ := toMk he0
  rw [he0]
  clear he0
  refine WP.seq ?_
  refine WP.region _ rfl (by kernel_rfl) ?_
  refine OPS.cons (opStep.box hp0 [.slice m.Who.a m.Who.n m.Who.c, .slice m.Values.a m.Values.n m.Values.c, .slice m.Reach.a m.Reach.n m.Reach.c, .slice m.Open.a m.Open.n m.Open.c] (by kernel_rfl) (fun g3 w1 hp2 => ?_))
  refine OPS.batch 1 {} [] [1, 2] [.int .i64 at_, .pointer (some ⟨g3, 0, none⟩)] .nil (by kernel_rfl) (fun b4 => ?_)
  refine OPS.nil ?_
  refine thn_n ?_
  refine WP.seq ?_
  refine WP.seq ?_
  refine WP.region _ rfl (by kernel_rfl) ?_
  refine OPS.cons (opStep.call (some 9) [] (by kernel_rfl) (l21_awake _) ?_)
  rintro _ w7 ⟨rfl, hf8⟩
  refine ⟨_, rfl, ?_⟩
  have hp9 := hp2.step hf8
  refine OPS.batch 1 {} [] [1, 2, 10] [.int .i64 at_, .pointer (some ⟨g3, 0, none⟩), .bool false] .nil (by kernel_rfl) (fun b10 => ?_)
  refine OPS.nil ?_
  refine thn_n ?_
  refine WP.condF rfl ?_
  refine WP.skip ?_
  refine thn_n ?_
  refine WP.seq ?_
  refine WP.region _ rfl (by kernel_rfl) ?_
  refine OPS.batch 1 {} [Gsherdlaw21_Made.val m] [1, 12] [.int .i64 at_, Gsherdlaw21_Made.val m] (.cons (show Ld Try.prog w7 66 ⟨g3, 0, none⟩ (Gsherdlaw21_Made.val m) from Ld.rowN (cs := [.slice m.Who.a m.Who.n m.Who.c, .slice m.Values.a m.Values.n m.Values.c, .slice m.Reach.a m.Reach.n m.Reach.c, .slice m.Open.a m.Open.n m.Open.c]) hp9.get0 (by kernel_rfl)) .nil) (by kernel_rfl) (fun b11 => ?_)
  refine OPS.cons (opStep.call (some 13) [Gsherdlaw21_Made.val m] (by kernel_rfl) (l21_history m who reach opn vals _ hw1 (hw2.at hp9) hr1 (hr2.at hp9) ho1 (ho2.at hp9) hv1 (hv2.at hp9) w hvb hrr hbn) ?_)
  rintro _ w14 ⟨a16, c17, a21, c22, l18, rfl, hq19, hp15⟩
  refine ⟨_, rfl, ?_⟩
  have hp20 := hp9.madeQ hp15
  simp only [List.cons_append, List.nil_append] at hp20
  have hq19l := hq19.2.1
  refine OPS.batch 5 {} [] [1, 5, 6] [.int .i64 at_, .slice a16 l18.length c17, .slice a21 l18.length c22] .nil (by kernel_rfl) (fun b23 => ?_)
  refine OPS.nil ?_
  refine thn_n ?_
  refine WP.seq ?_
  refine WP.seq ?_
  refine WP.pure {} [] [1, 5, 6, 18] [.int .i64 at_, .slice a16 l18.length c17, .slice a21 l18.length c22, .bool (decide (((l18.length : Nat) : Int) < 2))] .nil (by kernel_rfl) (fun b24 => ?_)
  refine thn_n ?_
  refine WP.test (p := ((l18.length : Nat) : Int) < 2) rfl Bp.dec (fun h25 => ?_) (fun h25 => ?_)
  · refine WP.seq ?_
    refine WP.region _ rfl (by kernel_rfl) ?_
    refine OPS.batch 2 {} [] [19, 20] [.slice a16 l18.length c17, .slice a21 l18.length c22] .nil (by kernel_rfl) (fun b26 => ?_)
    refine OPS.cons (opStep.call (some 21) [.slice a16 l18.length c17, .slice a21 l18.length c22] (by kernel_rfl) (o_Check l18 _ _ _ w14 rfl (by omega) (SlR.own (hp20.get0)) (idsI l18.length) _ _ _ (by simp only [List.length_set, idsI_len]) (by simp only [List.length_set, idsI_len]; omega) (SlR.own (hp20.get1)) (fun y hy => (hq19.2.2 y hy).1.at' hp20.fr) (fun y hy => (hq19.2.2 y hy).2)) ?_)
    rintro _ w29 ⟨rfl, hf30⟩
    refine ⟨_, rfl, ?_⟩
    have hp31 := hp20.step hf30
    refine OPS.batch 2 {} [] [4] [.bool (decide ((chkO w14 l18 (idsI l18.length)) = 0))] .nil (by kernel_rfl) (fun b32 => ?_)
    refine OPS.nil ?_
    refine thn_n ?_
    refine WP.ret ?_
    refine thn_r ?_
    refine bodyQ.of _ rfl [.bool (decide ((chkO w14 l18 (idsI l18.length)) = 0))] ⟨rfl, trivial⟩ ?_
    exact ⟨congrArg (fun b => Ending.returned (.bool b)) (Bp.tt Bp.dec (by exact his_id hq19.1)), hp31.fr⟩
  · refine WP.skip ?_
    refine thn_n ?_
    refine WP.seq ?_
    refine WP.region _ rfl (by kernel_rfl) ?_
    refine OPS.batch 4 {} [] [5, 6, 23, 26] [.slice a16 l18.length c17, .slice a21 l18.length c22, .int .i64 at_, .int .i64 (((l18.length : Nat) : Int) - 1)] (.cons (show Rng .i64 (((l18.length : Nat) : Int) - 1) from Rng.i64 (by omega)) .nil) (by kernel_rfl) (fun b33 => ?_)
    refine OPS.cons (opStep.call (some 27) [.int .i64 at_, .int .i64 (((l18.length : Nat) : Int) - 1)] (by kernel_rfl) (l21_mod at_ (((l18.length : Nat) : Int) - 1) _ (by omega) (by omega)) ?_)
    rintro _ w36 ⟨rfl, hf37⟩
    refine ⟨_, rfl, ?_⟩
    have hp38 := hp20.step hf37
    obtain ⟨i39, hm40⟩ : ∃ z : Nat, mdI at_ (((l18.length : Nat) : Int) - 1) = (z : Int) := ⟨(mdI at_ (((l18.length : Nat) : Int) - 1)).toNat, by have := mdI_bd at_ (n := (((l18.length : Nat) : Int) - 1)) (by omega); omega⟩
    have hm41 : (i39 : Int) < (((l18.length : Nat) : Int) - 1) := by have := mdI_bd at_ (n := (((l18.length : Nat) : Int) - 1)) (by omega); omega
    rw [hm40]
    refine OPS.batch 1 {} [] [5, 6, 7] [.slice a16 l18.length c17, .slice a21 l18.length c22, .int .i64 ((i39 : Nat) : Int)] .nil (by kernel_rfl) (fun b42 => ?_)
    refine OPS.nil ?_
    refine thn_n ?_
    refine WP.seq ?_
    refine WP.region _ rfl (by kernel_rfl) ?_
    refine OPS.batch 5 { subs := [31] } [.int .i64 ((i39 + 1 : Nat) : Int)] [5, 6, 7, 31, 32] [.slice a16 l18.length c17, .slice a21 l18.length c22, .int .i64 ((i39 : Nat) : Int), .int .i64 ((i39 + 1 : Nat) : Int), .pointer (some ((adr a21).add (i39 * 1)))] (.cons (show Rng .i64 (((i39 : Nat) : Int) + 1) from Rng.i64 (by omega)) (.cons (show (.int .i64 (((i39 : Nat) : Int) + 1) : Go.Value) = .int .i64 ((i39 + 1 : Nat) : Int) from congrArg (Value.int .i64) ((show ((i39 : Nat) : Int) + 1 = ((i39 + 1 : Nat) : Int) by omega))) (.cons (show InB (((i39 : Nat) : Int)) (l18.length) from ⟨by omega, by omega⟩) (.cons ((SlR.own (hp38.get1)).some (by omega)) .nil)))) (by kernel_rfl) (fun b43 => ?_)
    have := own_flat (sz := 1) (fun _ => rfl) (by decide) hp38.get1
    try simp only [List.length_set] at this
    refine OPS.cons (opStep.storeOwn1 (i39 * 1) hp38 rfl [.int .i64 ((i39 + 1 : Nat) : Int)] (by kernel_rfl) (by simp) (show i39 * 1 + 1 ≤ l18.length * 1 by omega) (fun w44 hp45 => ?_))
    have hp46 := hp45
    rw [show ow (List.flatMap (fun (y : Int) => [Go.Value.int .i64 y]) (idsI l18.length)) (i39 * 1) [.int .i64 ((i39 + 1 : Nat) : Int)] = List.flatMap (fun (y : Int) => [Go.Value.int .i64 y]) ((idsI l18.length).set i39 ((i39 + 1 : Nat) : Int)) from ow_flat (sz := 1) (fun _ => rfl) (by first | (omega) | (simp only [List.length_set]; omega)) ((i39 + 1 : Nat) : Int)] at hp46
    refine OPS.nil ?_
    refine thn_n ?_
    refine WP.seq ?_
    refine WP.region _ rfl (by kernel_rfl) ?_
    refine OPS.batch 5 { subs := [35] } [.int .i64 ((i39 + 1 : Nat) : Int)] [5, 6, 7, 36, 37] [.slice a16 l18.length c17, .slice a21 l18.length c22, .int .i64 ((i39 : Nat) : Int), .int .i64 ((i39 : Nat) : Int), .pointer (some ((adr a21).add ((i39 + 1) * 1)))] (.cons (show Rng .i64 (((i39 : Nat) : Int) + 1) from Rng.i64 (by omega)) (.cons (show (.int .i64 (((i39 : Nat) : Int) + 1) : Go.Value) = .int .i64 ((i39 + 1 : Nat) : Int) from congrArg (Value.int .i64) ((show ((i39 : Nat) : Int) + 1 = ((i39 + 1 : Nat) : Int) by omega))) (.cons (show InB (((i39 + 1 : Nat) : Int)) (l18.length) from ⟨by omega, by omega⟩) (.cons ((SlR.own (hp46.get1)).some (by omega)) .nil)))) (by kernel_rfl) (fun b47 => ?_)
    have := own_flat (sz := 1) (fun _ => rfl) (by decide) hp46.get1
    try simp only [List.length_set] at this
    refine OPS.cons (opStep.storeOwn1 ((i39 + 1) * 1) hp46 rfl [.int .i64 ((i39 : Nat) : Int)] (by kernel_rfl) (by simp) (show (i39 + 1) * 1 + 1 ≤ l18.length * 1 by omega) (fun w48 hp49 => ?_))
    have hp50 := hp49
    rw [show ow (List.flatMap (fun (y : Int) => [Go.Value.int .i64 y]) ((idsI l18.length).set i39 ((i39 + 1 : Nat) : Int))) ((i39 + 1) * 1) [.int .i64 ((i39 : Nat) : Int)] = List.flatMap (fun (y : Int) => [Go.Value.int .i64 y]) (((idsI l18.length).set i39 ((i39 + 1 : Nat) : Int)).set (i39 + 1) ((i39 : Nat) : Int)) from ow_flat (sz := 1) (fun _ => rfl) (by first | (omega) | (simp only [List.length_set]; omega)) ((i39 : Nat) : Int)] at hp50
    refine OPS.nil ?_
    refine thn_n ?_
    refine WP.seq ?_
    refine WP.region _ rfl (by kernel_rfl) ?_
    refine OPS.batch 2 {} [] [5, 7, 38, 39] [.slice a16 l18.length c17, .int .i64 ((i39 : Nat) : Int), .slice a16 l18.length c17, .slice a21 l18.length c22] .nil (by kernel_rfl) (fun b51 => ?_)
    refine OPS.cons (opStep.call (some 40) [.slice a16 l18.length c17, .slice a21 l18.length c22] (by kernel_rfl) (o_Check l18 _ _ _ w48 rfl (by omega) (SlR.own (hp50.get0)) (((idsI l18.length).set i39 ((i39 + 1 : Nat) : Int)).set (i39 + 1) ((i39 : Nat) : Int)) _ _ _ (by simp only [List.length_set, idsI_len]) (by simp only [List.length_set, idsI_len]; omega) (SlR.own (hp50.get1)) (fun y hy => (hq19.2.2 y hy).1.at' hp50.fr) (fun y hy => (hq19.2.2 y hy).2)) ?_)
    rintro _ w54 ⟨rfl, hf55⟩
    refine ⟨_, rfl, ?_⟩
    have hp56 := hp50.step hf55
    refine OPS.batch 1 {} [] [5, 7, 8] [.slice a16 l18.length c17, .int .i64 ((i39 : Nat) : Int), .int .i64 (chkO w48 l18 (((idsI l18.length).set i39 ((i39 + 1 : Nat) : Int)).set (i39 + 1) ((i39 : Nat) : Int)))] .nil (by kernel_rfl) (fun b57 => ?_)
    refine OPS.nil ?_
    refine thn_n ?_
    refine WP.seq ?_
    refine WP.cut (fun e84 w85 => ∃ (x82 : Bool), (True) ∧ Bp x82 ((¬ ((l18[i39]!.Open) = true)) ∧ ((l18[i39]!.To) < (l18[(i39 + 1)]!.From))) ∧ List.map e84 [5, 7, 8, 60] = [.slice a16 l18.length c17, .int .i64 ((i39 : Nat) : Int), .int .i64 (chkO w48 l18 (((idsI l18.length).set i39 ((i39 + 1 : Nat) : Int)).set (i39 + 1) ((i39 : Nat) : Int))), .bool x82] ∧ Hp w Non [Res.own 73 11 (.slice a16 l18.length c17) l18.length (List.flatMap GCall.cells l18), Res.own 3 1 (.slice a21 l18.length c22) l18.length (List.flatMap (fun (y : Int) => [Go.Value.int .i64 y]) (((idsI l18.length).set i39 ((i39 + 1 : Nat) : Int)).set (i39 + 1) ((i39 : Nat) : Int))), Res.row g3 [.slice m.Who.a m.Who.n m.Who.c, .slice m.Values.a m.Values.n m.Values.c, .slice m.Reach.a m.Reach.n m.Reach.c, .slice m.Open.a m.Open.n m.Open.c] 66] w85) ?_ ?_
    · have hp61 := hp56.drew
      refine WP.quiet (fun w59 => Hp w Non [Res.own 73 11 (.slice a16 l18.length c17) l18.length (List.flatMap GCall.cells l18), Res.own 3 1 (.slice a21 l18.length c22) l18.length (List.flatMap (fun (y : Int) => [Go.Value.int .i64 y]) (((idsI l18.length).set i39 ((i39 + 1 : Nat) : Int)).set (i39 + 1) ((i39 : Nat) : Int))), Res.row g3 [.slice m.Who.a m.Who.n m.Who.c, .slice m.Values.a m.Values.n m.Values.c, .slice m.Reach.a m.Reach.n m.Reach.c, .slice m.Open.a m.Open.n m.Open.c] 66] w59) (by kernel_rfl) hp61 ?_
      have hnehp61 : ∃ wz_, (fun w59 => Hp w Non [Res.own 73 11 (.slice a16 l18.length c17) l18.length (List.flatMap GCall.cells l18), Res.own 3 1 (.slice a21 l18.length c22) l18.length (List.flatMap (fun (y : Int) => [Go.Value.int .i64 y]) (((idsI l18.length).set i39 ((i39 + 1 : Nat) : Int)).set (i39 + 1) ((i39 : Nat) : Int))), Res.row g3 [.slice m.Who.a m.Who.n m.Who.c, .slice m.Values.a m.Values.n m.Values.c, .slice m.Reach.a m.Reach.n m.Reach.c, .slice m.Open.a m.Open.n m.Open.c] 66] w59) wz_ := ⟨_, hp61⟩
      have := own_flat (sz := 11) (fun _ => rfl) (by decide) hp61.get0
      have hy65 : (l18)[i39]? = some l18[i39]! := get_bang (by first | (omega) | (simp only [List.length_append, List.length_cons, List.length_nil]; omega) | (simp only [List.length_take, List.length_append, List.length_cons, List.length_nil]; omega))
      refine QOPS.batch 7 {} [.bool (l18[i39]!.Open)] [5, 7, 8, 47] [.slice a16 l18.length c17, .int .i64 ((i39 : Nat) : Int), .int .i64 (chkO w48 l18 (((idsI l18.length).set i39 ((i39 + 1 : Nat) : Int)).set (i39 + 1) ((i39 : Nat) : Int))), .bool (!(l18[i39]!.Open))] hnehp61 (fun w62 hp63 => QB.mk (.cons (show InB (((i39 : Nat) : Int)) (l18.length) from ⟨by omega, by omega⟩) (.cons ((SlR.own (hp63.get0)).some (by omega)) (.cons (Ld.el1 (P := Try.prog) (t := 4) (SlR.own (hp63.get0)).rd 11 (fun _ => rfl) hy65 (o := 8) (v := .bool (l18[i39]!.Open)) (by kernel_rfl)) .nil))) (by kernel_rfl)) (fun b66 => ?_)
      by_cases h67 : (l18[i39]!.Open) = true
      · refine QOPS.batch 0 {} [] [5, 7, 8, 47] [.slice a16 l18.length c17, .int .i64 ((i39 : Nat) : Int), .int .i64 (chkO w48 l18 (((idsI l18.length).set i39 ((i39 + 1 : Nat) : Int)).set (i39 + 1) ((i39 : Nat) : Int))), .bool (!(l18[i39]!.Open))] hnehp61 (fun _ _ => QB.mk .nil (by kernel_rfl)) (fun b76 => ?_)
        refine QOPS.re [.slice a16 l18.length c17, .int .i64 ((i39 : Nat) : Int), .int .i64 (chkO w48 l18 (((idsI l18.length).set i39 ((i39 + 1 : Nat) : Int)).set (i39 + 1) ((i39 : Nat) : Int))), .bool false] (by rw [show (!(l18[i39]!.Open)) = false from (Bp.not Bp.var).ff (fun k => k h67)]) ?_
        refine QOPS.batch 13 { wraps := [60] } [] [5, 7, 8, 60] [.slice a16 l18.length c17, .int .i64 ((i39 : Nat) : Int), .int .i64 (chkO w48 l18 (((idsI l18.length).set i39 ((i39 + 1 : Nat) : Int)).set (i39 + 1) ((i39 : Nat) : Int))), .bool false] hnehp61 (fun w77 hp78 => QB.mk .nil (by kernel_rfl)) (fun b79 => ?_)
        refine QOPS.nil (fun w80 hp81 => ?_)
        refine thn_n ?_
        exact ⟨false, trivial, Bp.of Bp.f (by first | (simp only [h67, iff_false, false_iff, iff_true, true_iff, Classical.not_not, and_true, true_and, and_false, false_and, or_true, true_or, or_false, false_or, not_true_eq_false, not_false_eq_true, and_self, or_self, iff_self]; done) | (simp [h67]; done) | grind | (simp_all; done)), by kernel_rfl, hp81⟩
      · refine QOPS.batch 0 {} [] [5, 7, 8, 47] [.slice a16 l18.length c17, .int .i64 ((i39 : Nat) : Int), .int .i64 (chkO w48 l18 (((idsI l18.length).set i39 ((i39 + 1 : Nat) : Int)).set (i39 + 1) ((i39 : Nat) : Int))), .bool (!(l18[i39]!.Open))] hnehp61 (fun _ _ => QB.mk .nil (by kernel_rfl)) (fun b68 => ?_)
        refine QOPS.re [.slice a16 l18.length c17, .int .i64 ((i39 : Nat) : Int), .int .i64 (chkO w48 l18 (((idsI l18.length).set i39 ((i39 + 1 : Nat) : Int)).set (i39 + 1) ((i39 : Nat) : Int))), .bool true] (by rw [show (!(l18[i39]!.Open)) = true from (Bp.not Bp.var).tt h67]) ?_
        have := own_flat (sz := 11) (fun _ => rfl) (by decide) hp61.get0
        have hy72 : (l18)[(i39 + 1)]? = some l18[(i39 + 1)]! := get_bang (by first | (omega) | (simp only [List.length_append, List.length_cons, List.length_nil]; omega) | (simp only [List.length_take, List.length_append, List.length_cons, List.length_nil]; omega))
        refine QOPS.batch 13 { wraps := [60], subs := [55] } [.int .i64 (l18[i39]!.To), .int .i64 ((i39 + 1 : Nat) : Int), .int .i64 (l18[(i39 + 1)]!.From)] [5, 7, 8, 60] [.slice a16 l18.length c17, .int .i64 ((i39 : Nat) : Int), .int .i64 (chkO w48 l18 (((idsI l18.length).set i39 ((i39 + 1 : Nat) : Int)).set (i39 + 1) ((i39 : Nat) : Int))), .bool (decide ((l18[i39]!.To) < (l18[(i39 + 1)]!.From)))] hnehp61 (fun w69 hp70 => QB.mk (.cons (show InB (((i39 : Nat) : Int)) (l18.length) from ⟨by omega, by omega⟩) (.cons ((SlR.own (hp70.get0)).some (by omega)) (.cons (Ld.el1 (P := Try.prog) (t := 3) (SlR.own (hp70.get0)).rd 11 (fun _ => rfl) hy65 (o := 7) (v := .int .i64 (l18[i39]!.To)) (by kernel_rfl)) (.cons (show Rng .i64 (((i39 : Nat) : Int) + 1) from Rng.i64 (by omega)) (.cons (show (.int .i64 (((i39 : Nat) : Int) + 1) : Go.Value) = .int .i64 ((i39 + 1 : Nat) : Int) from congrArg (Value.int .i64) ((show ((i39 : Nat) : Int) + 1 = ((i39 + 1 : Nat) : Int) by omega))) (.cons (show InB (((i39 + 1 : Nat) : Int)) (l18.length) from ⟨by omega, by omega⟩) (.cons ((SlR.own (hp70.get0)).some (by omega)) (.cons (Ld.el1 (P := Try.prog) (t := 3) (SlR.own (hp70.get0)).rd 11 (fun _ => rfl) hy72 (o := 6) (v := .int .i64 (l18[(i39 + 1)]!.From)) (by kernel_rfl)) .nil)))))))) (by kernel_rfl)) (fun b73 => ?_)
        refine QOPS.nil (fun w74 hp75 => ?_)
        refine thn_n ?_
        exact ⟨decide ((l18[i39]!.To) < (l18[(i39 + 1)]!.From)), trivial, Bp.of Bp.dec (by first | (simp only [h67, iff_false, false_iff, iff_true, true_iff, Classical.not_not, and_true, true_and, and_false, false_and, or_true, true_or, or_false, false_or, not_true_eq_false, not_false_eq_true, and_self, or_self, iff_self]; done) | (simp [h67]; done) | grind | (simp_all; done)), by kernel_rfl, hp75⟩
    rintro e84 w85 ⟨x82, hd87, hb83, hE88, hp86⟩
    obtain ⟨b89, rfl⟩ := toMk hE88
    clear hE88
    clear hd87
    refine WP.test (p := (¬ ((l18[i39]!.Open) = true)) ∧ ((l18[i39]!.To) < (l18[(i39 + 1)]!.From))) rfl hb83 (fun h90 => ?_) (fun h90 => ?_)
    · refine WP.seq ?_
      refine WP.pure {} [] [4] [.bool (decide ((chkO w48 l18 (((idsI l18.length).set i39 ((i39 + 1 : Nat) : Int)).set (i39 + 1) ((i39 : Nat) : Int))) = 81))] .nil (by kernel_rfl) (fun b91 => ?_)
      refine thn_n ?_
      refine WP.ret ?_
      refine thn_r ?_
      refine bodyQ.of _ rfl [.bool (decide ((chkO w48 l18 (((idsI l18.length).set i39 ((i39 + 1 : Nat) : Int)).set (i39 + 1) ((i39 : Nat) : Int))) = 81))] ⟨rfl, trivial⟩ ?_
      exact ⟨congrArg (fun b => Ending.returned (.bool b)) (Bp.tt Bp.dec (by exact time_late hq19.1 (by omega) h90)), hp86.fr⟩
    · refine WP.skip ?_
      refine thn_n ?_
      refine WP.seq ?_
      refine WP.cut (fun e107 w108 => ∃ (x105 : Bool), (True) ∧ Bp x105 ((¬ ((l18[i39]!.Put) = true)) ∧ (¬ ((l18[(i39 + 1)]!.Put) = true))) ∧ List.map e107 [8, 77] = [.int .i64 (chkO w48 l18 (((idsI l18.length).set i39 ((i39 + 1 : Nat) : Int)).set (i39 + 1) ((i39 : Nat) : Int))), .bool x105] ∧ Hp w Non [Res.own 73 11 (.slice a16 l18.length c17) l18.length (List.flatMap GCall.cells l18), Res.own 3 1 (.slice a21 l18.length c22) l18.length (List.flatMap (fun (y : Int) => [Go.Value.int .i64 y]) (((idsI l18.length).set i39 ((i39 + 1 : Nat) : Int)).set (i39 + 1) ((i39 : Nat) : Int))), Res.row g3 [.slice m.Who.a m.Who.n m.Who.c, .slice m.Values.a m.Values.n m.Values.c, .slice m.Reach.a m.Reach.n m.Reach.c, .slice m.Open.a m.Open.n m.Open.c] 66] w108) ?_ ?_
      · refine WP.region _ rfl (by kernel_rfl) ?_
        have := own_flat (sz := 11) (fun _ => rfl) (by decide) hp86.get0
        have hy96 : (l18)[i39]? = some l18[i39]! := get_bang (by first | (omega) | (simp only [List.length_append, List.length_cons, List.length_nil]; omega) | (simp only [List.length_take, List.length_append, List.length_cons, List.length_nil]; omega))
        refine OPS.batch 7 {} [.bool (l18[i39]!.Put)] [5, 7, 8, 69] [.slice a16 l18.length c17, .int .i64 ((i39 : Nat) : Int), .int .i64 (chkO w48 l18 (((idsI l18.length).set i39 ((i39 + 1 : Nat) : Int)).set (i39 + 1) ((i39 : Nat) : Int))), .bool (!(l18[i39]!.Put))] (.cons (show InB (((i39 : Nat) : Int)) (l18.length) from ⟨by omega, by omega⟩) (.cons ((SlR.own (hp86.get0)).some (by omega)) (.cons (Ld.el1 (P := Try.prog) (t := 4) (SlR.own (hp86.get0)).rd 11 (fun _ => rfl) hy96 (o := 2) (v := .bool (l18[i39]!.Put)) (by kernel_rfl)) .nil))) (by kernel_rfl) (fun b97 => ?_)
        by_cases h98 : (l18[i39]!.Put) = true
        · refine OPS.batch 0 {} [] [5, 7, 8, 69] [.slice a16 l18.length c17, .int .i64 ((i39 : Nat) : Int), .int .i64 (chkO w48 l18 (((idsI l18.length).set i39 ((i39 + 1 : Nat) : Int)).set (i39 + 1) ((i39 : Nat) : Int))), .bool (!(l18[i39]!.Put))] .nil (by kernel_rfl) (fun b103 => ?_)
          refine OPS.re [.slice a16 l18.length c17, .int .i64 ((i39 : Nat) : Int), .int .i64 (chkO w48 l18 (((idsI l18.length).set i39 ((i39 + 1 : Nat) : Int)).set (i39 + 1) ((i39 : Nat) : Int))), .bool false] (by rw [show (!(l18[i39]!.Put)) = false from (Bp.not Bp.var).ff (fun k => k h98)]) ?_
          refine OPS.batch 8 { wraps := [77] } [] [8, 77] [.int .i64 (chkO w48 l18 (((idsI l18.length).set i39 ((i39 + 1 : Nat) : Int)).set (i39 + 1) ((i39 : Nat) : Int))), .bool false] .nil (by kernel_rfl) (fun b104 => ?_)
          refine OPS.nil ?_
          refine thn_n ?_
          exact ⟨false, trivial, Bp.of Bp.f (by first | (simp only [h98, iff_false, false_iff, iff_true, true_iff, Classical.not_not, and_true, true_and, and_false, false_and, or_true, true_or, or_false, false_or, not_true_eq_false, not_false_eq_true, and_self, or_self, iff_self]; done) | (simp [h98]; done) | grind | (simp_all; done)), by kernel_rfl, hp86⟩
        · refine OPS.batch 0 {} [] [5, 7, 8, 69] [.slice a16 l18.length c17, .int .i64 ((i39 : Nat) : Int), .int .i64 (chkO w48 l18 (((idsI l18.length).set i39 ((i39 + 1 : Nat) : Int)).set (i39 + 1) ((i39 : Nat) : Int))), .bool (!(l18[i39]!.Put))] .nil (by kernel_rfl) (fun b99 => ?_)
          refine OPS.re [.slice a16 l18.length c17, .int .i64 ((i39 : Nat) : Int), .int .i64 (chkO w48 l18 (((idsI l18.length).set i39 ((i39 + 1 : Nat) : Int)).set (i39 + 1) ((i39 : Nat) : Int))), .bool true] (by rw [show (!(l18[i39]!.Put)) = true from (Bp.not Bp.var).tt h98]) ?_
          have := own_flat (sz := 11) (fun _ => rfl) (by decide) hp86.get0
          have hy101 : (l18)[(i39 + 1)]? = some l18[(i39 + 1)]! := get_bang (by first | (omega) | (simp only [List.length_append, List.length_cons, List.length_nil]; omega) | (simp only [List.length_take, List.length_append, List.length_cons, List.length_nil]; omega))
          refine OPS.batch 8 { wraps := [77], subs := [72] } [.int .i64 ((i39 + 1 : Nat) : Int), .bool (l18[(i39 + 1)]!.Put)] [8, 77] [.int .i64 (chkO w48 l18 (((idsI l18.length).set i39 ((i39 + 1 : Nat) : Int)).set (i39 + 1) ((i39 : Nat) : Int))), .bool (!(l18[(i39 + 1)]!.Put))] (.cons (show Rng .i64 (((i39 : Nat) : Int) + 1) from Rng.i64 (by omega)) (.cons (show (.int .i64 (((i39 : Nat) : Int) + 1) : Go.Value) = .int .i64 ((i39 + 1 : Nat) : Int) from congrArg (Value.int .i64) ((show ((i39 : Nat) : Int) + 1 = ((i39 + 1 : Nat) : Int) by omega))) (.cons (show InB (((i39 + 1 : Nat) : Int)) (l18.length) from ⟨by omega, by omega⟩) (.cons ((SlR.own (hp86.get0)).some (by omega)) (.cons (Ld.el1 (P := Try.prog) (t := 4) (SlR.own (hp86.get0)).rd 11 (fun _ => rfl) hy101 (o := 2) (v := .bool (l18[(i39 + 1)]!.Put)) (by kernel_rfl)) .nil))))) (by kernel_rfl) (fun b102 => ?_)
          refine OPS.nil ?_
          refine thn_n ?_
          exact ⟨!(l18[(i39 + 1)]!.Put), trivial, Bp.of (Bp.not Bp.var) (by first | (simp only [h98, iff_false, false_iff, iff_true, true_iff, Classical.not_not, and_true, true_and, and_false, false_and, or_true, true_or, or_false, false_or, not_true_eq_false, not_false_eq_true, and_self, or_self, iff_self]; done) | (simp [h98]; done) | grind | (simp_all; done)), by kernel_rfl, hp86⟩
      rintro e107 w108 ⟨x105, hd110, hb106, hE111, hp109⟩
      obtain ⟨b112, rfl⟩ := toMk hE111
      clear hE111
      clear hd110
      refine WP.test (p := (¬ ((l18[i39]!.Put) = true)) ∧ (¬ ((l18[(i39 + 1)]!.Put) = true))) rfl hb106 (fun h113 => ?_) (fun h113 => ?_)
      · refine WP.seq ?_
        refine WP.pure {} [] [4] [.bool (decide ((chkO w48 l18 (((idsI l18.length).set i39 ((i39 + 1 : Nat) : Int)).set (i39 + 1) ((i39 : Nat) : Int))) = 0))] .nil (by kernel_rfl) (fun b114 => ?_)
        refine thn_n ?_
        refine WP.ret ?_
        refine thn_r ?_
        refine bodyQ.of _ rfl [.bool (decide ((chkO w48 l18 (((idsI l18.length).set i39 ((i39 + 1 : Nat) : Int)).set (i39 + 1) ((i39 : Nat) : Int))) = 0))] ⟨rfl, trivial⟩ ?_
        exact ⟨congrArg (fun b => Ending.returned (.bool b)) (Bp.tt Bp.dec (by exact time_gets hq19.1 (by omega) h90 h113.1 h113.2)), hp109.fr⟩
      · refine WP.skip ?_
        refine thn_n ?_
        refine WP.cut (fun e124 w125 => ∃ (x122 : Bool), (True) ∧ Bp x122 ((((chkO w48 l18 (((idsI l18.length).set i39 ((i39 + 1 : Nat) : Int)).set (i39 + 1) ((i39 : Nat) : Int))) = 0)) ∨ ((¬ ((chkO w48 l18 (((idsI l18.length).set i39 ((i39 + 1 : Nat) : Int)).set (i39 + 1) ((i39 : Nat) : Int))) = 0)) ∧ ((chkO w48 l18 (((idsI l18.length).set i39 ((i39 + 1 : Nat) : Int)).set (i39 + 1) ((i39 : Nat) : Int))) = 81))) ∧ List.map e124 [4] = [.bool x122] ∧ Hp w Non [Res.own 73 11 (.slice a16 l18.length c17) l18.length (List.flatMap GCall.cells l18), Res.own 3 1 (.slice a21 l18.length c22) l18.length (List.flatMap (fun (y : Int) => [Go.Value.int .i64 y]) (((idsI l18.length).set i39 ((i39 + 1 : Nat) : Int)).set (i39 + 1) ((i39 : Nat) : Int))), Res.row g3 [.slice m.Who.a m.Who.n m.Who.c, .slice m.Values.a m.Values.n m.Values.c, .slice m.Reach.a m.Reach.n m.Reach.c, .slice m.Open.a m.Open.n m.Open.c] 66] w125) ?_ ?_
        · refine WP.region _ rfl (by kernel_rfl) ?_
          refine OPS.batch 3 {} [] [8, 82] [.int .i64 (chkO w48 l18 (((idsI l18.length).set i39 ((i39 + 1 : Nat) : Int)).set (i39 + 1) ((i39 : Nat) : Int))), .bool (decide ((chkO w48 l18 (((idsI l18.length).set i39 ((i39 + 1 : Nat) : Int)).set (i39 + 1) ((i39 : Nat) : Int))) = 0))] .nil (by kernel_rfl) (fun b116 => ?_)
          by_cases h117 : (chkO w48 l18 (((idsI l18.length).set i39 ((i39 + 1 : Nat) : Int)).set (i39 + 1) ((i39 : Nat) : Int))) = 0
          · refine OPS.batch 0 {} [] [8, 82] [.int .i64 (chkO w48 l18 (((idsI l18.length).set i39 ((i39 + 1 : Nat) : Int)).set (i39 + 1) ((i39 : Nat) : Int))), .bool (decide ((chkO w48 l18 (((idsI l18.length).set i39 ((i39 + 1 : Nat) : Int)).set (i39 + 1) ((i39 : Nat) : Int))) = 0))] .nil (by kernel_rfl) (fun b118 => ?_)
            refine OPS.re [.int .i64 (chkO w48 l18 (((idsI l18.length).set i39 ((i39 + 1 : Nat) : Int)).set (i39 + 1) ((i39 : Nat) : Int))), .bool true] (by rw [show (decide ((chkO w48 l18 (((idsI l18.length).set i39 ((i39 + 1 : Nat) : Int)).set (i39 + 1) ((i39 : Nat) : Int))) = 0)) = true from Bp.dec.tt h117]) ?_
            refine OPS.batch 4 { wraps := [85] } [] [4] [.bool true] .nil (by kernel_rfl) (fun b119 => ?_)
            refine OPS.nil ?_
            refine thn_n ?_
            exact ⟨true, trivial, Bp.of Bp.t (by first | (simp only [h117, iff_false, false_iff, iff_true, true_iff, Classical.not_not, and_true, true_and, and_false, false_and, or_true, true_or, or_false, false_or, not_true_eq_false, not_false_eq_true, and_self, or_self, iff_self]; done) | (simp [h117]; done) | grind | (simp_all; done)), by kernel_rfl, hp109⟩
          · refine OPS.batch 0 {} [] [8, 82] [.int .i64 (chkO w48 l18 (((idsI l18.length).set i39 ((i39 + 1 : Nat) : Int)).set (i39 + 1) ((i39 : Nat) : Int))), .bool (decide ((chkO w48 l18 (((idsI l18.length).set i39 ((i39 + 1 : Nat) : Int)).set (i39 + 1) ((i39 : Nat) : Int))) = 0))] .nil (by kernel_rfl) (fun b120 => ?_)
            refine OPS.re [.int .i64 (chkO w48 l18 (((idsI l18.length).set i39 ((i39 + 1 : Nat) : Int)).set (i39 + 1) ((i39 : Nat) : Int))), .bool false] (by rw [show (decide ((chkO w48 l18 (((idsI l18.length).set i39 ((i39 + 1 : Nat) : Int)).set (i39 + 1) ((i39 : Nat) : Int))) = 0)) = false from Bp.dec.ff h117]) ?_
            refine OPS.batch 4 { wraps := [85] } [] [4] [.bool (decide ((chkO w48 l18 (((idsI l18.length).set i39 ((i39 + 1 : Nat) : Int)).set (i39 + 1) ((i39 : Nat) : Int))) = 81))] .nil (by kernel_rfl) (fun b121 => ?_)
            refine OPS.nil ?_
            refine thn_n ?_
            exact ⟨decide ((chkO w48 l18 (((idsI l18.length).set i39 ((i39 + 1 : Nat) : Int)).set (i39 + 1) ((i39 : Nat) : Int))) = 81), trivial, Bp.of Bp.dec (by first | (simp only [h117, iff_false, false_iff, iff_true, true_iff, Classical.not_not, and_true, true_and, and_false, false_and, or_true, true_or, or_false, false_or, not_true_eq_false, not_false_eq_true, and_self, or_self, iff_self]; done) | (simp [h117]; done) | grind | (simp_all; done)), by kernel_rfl, hp109⟩
        rintro e124 w125 ⟨x122, hd127, hb123, hE128, hp126⟩
        obtain ⟨b129, rfl⟩ := toMk hE128
        clear hE128
        clear hd127
        refine WP.ret ?_
        refine bodyQ.of _ rfl [.bool x122] ⟨rfl, trivial⟩ ?_
        exact ⟨congrArg (fun b => Ending.returned (.bool b)) (Bp.tt hb123 (by rcases time_any hq19.1 _ with e_ | e_; exact .inl e_; rw [e_]; exact .inr ⟨by decide, rfl⟩)), hp126.fr⟩

end Go.Proofs.Ytdahgdkadfdkeaa.K
