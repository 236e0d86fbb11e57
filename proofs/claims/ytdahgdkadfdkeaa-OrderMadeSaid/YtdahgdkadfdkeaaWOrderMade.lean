/- The walks of WOrderMade: what each function computes. -/
import Derived.Test.YtdahgdkadfdkeaaProg
import Derived.Test.YtdahgdkadfdkeaaCoreO
import Derived.Test.YtdahgdkadfdkeaaOrdK
import Derived.Test.YtdahgdkadfdkeaaOrdQ
import Derived.Test.YtdahgdkadfdkeaaOpen
namespace Go.Proofs.Ytdahgdkadfdkeaa.K
open Go Go.Proofs Go.RowKit
set_option linter.unusedVariables false
set_option linter.unusedSimpArgs false
set_option maxRecDepth 20000
set_option maxHeartbeats 4000000

theorem OrderMade {ok1 : Int → Prop} {okb : Int → Prop} (BN BV BB : Nat) (hBN : BN ≤ 1000000000000000) (hBV : BV ≤ 1000000000000000) (hBB : BB ≤ 140737488351232) (m : Gsherdlaw21_Made) (who reach opn : List Int) (vals : List SlH) (at_ : Int) (w : World) (s1 : SlD w (fun (y : Int) => [Go.Value.int .i64 y]) ok1 BN m.Who who) (s2 : SlD w (fun (y : SlH) => [SlH.v y]) (fun s => ∃ l, SlD w (α := Int) u8c okb BB s l) BV m.Values vals) (s3 : SlD w (fun (y : Int) => [Go.Value.int .i64 y]) (fun y => -9223372036854775808 ≤ y ∧ y ≤ 9223372036854775807) BN m.Reach reach) (s4 : SlD w (fun (y : Int) => [Go.Value.int .i64 y]) ok1 BN m.Open opn) (hat : -9223372036854775808 ≤ at_ ∧ at_ ≤ 9223372036854775807) :
    Calls Try.prog 6 #[Gsherdlaw21_Made.val m, .int .i64 at_] w (fun x w' => x = .returned (.bool true) ∧ Fram Non w w') := by
  have hw1 := s1.len.symm
  have hr1 := s3.len.symm
  have ho1 := s4.len.symm
  have hv1 := s2.len.symm
  have hw2 := s1.rd
  have hr2 := s3.rd
  have ho2 := s4.rd
  have hv2 := s2.rd
  have hrr := s3.all
  have hvb : ∀ y ∈ vals, vOk w y := fun y hy => by obtain ⟨lv, hlv⟩ := s2.all y hy; exact ⟨VB.of hlv, by have := hlv.cap; have := hlv.bnd; omega⟩
  have hbn : who.length ≤ 1000000000000000 ∧ reach.length ≤ 1000000000000000 ∧ opn.length ≤ 1000000000000000 ∧ vals.length ≤ 1000000000000000 := by have := s1.cap; have := s1.bnd; have := s2.cap; have := s2.bnd; have := s3.cap; have := s3.bnd; have := s4.cap; have := s4.bnd; omega
  refine calls_of Try.func6 rfl 149 rfl (by simp) ?_
  have hp0 := Hp.init w
  have he0 : List.map (env0 [Gsherdlaw21_Made.val m, .int .i64 at_]) [0, 1] = [Gsherdlaw21_Made.val m, .int .i64 at_] := by kernel_rfl
  obtain ⟨b0, he0⟩ := toMk he0
  rw [he0]
  clear he0
  refine WP.seq ?_
  refine WP.region _ rfl (by kernel_rfl) ?_
  refine OPS.cons (opStep.box hp0 [.slice m.Who.a m.Who.n m.Who.c, .slice m.Values.a m.Values.n m.Values.c, .slice m.Reach.a m.Reach.n m.Reach.c, .slice m.Open.a m.Open.n m.Open.c] (by kernel_rfl) (fun g3 w1 hp2 => ?_))
  refine OPS.batch 1 {} [] [1, 2] [.int .i64 at_, .pointer (some ⟨g3, 0, none⟩)] .nil (by kernel_rfl) (fun b4 => ?_)
  refine OPS.nil ?_
  refine thn_n ?_
  refine WP.seq ?_
  refine WP.seq ?_
  refine WP.region _ rfl (by kernel_rfl) ?_
  refine OPS.cons (opStep.call (some 16) [] (by kernel_rfl) (l21_awake _) ?_)
  rintro _ w7 ⟨rfl, hf8⟩
  refine ⟨_, rfl, ?_⟩
  have hp9 := hp2.step hf8
  refine OPS.batch 1 {} [] [1, 2, 17] [.int .i64 at_, .pointer (some ⟨g3, 0, none⟩), .bool false] .nil (by kernel_rfl) (fun b10 => ?_)
  refine OPS.nil ?_
  refine thn_n ?_
  refine WP.condF rfl ?_
  refine WP.skip ?_
  refine thn_n ?_
  refine WP.seq ?_
  refine WP.region _ rfl (by kernel_rfl) ?_
  refine OPS.batch 1 {} [Gsherdlaw21_Made.val m] [1, 19] [.int .i64 at_, Gsherdlaw21_Made.val m] (.cons (show Ld Try.prog w7 66 ⟨g3, 0, none⟩ (Gsherdlaw21_Made.val m) from Ld.rowN (cs := [.slice m.Who.a m.Who.n m.Who.c, .slice m.Values.a m.Values.n m.Values.c, .slice m.Reach.a m.Reach.n m.Reach.c, .slice m.Open.a m.Open.n m.Open.c]) hp9.get0 (by kernel_rfl)) .nil) (by kernel_rfl) (fun b11 => ?_)
  refine OPS.cons (opStep.call (some 20) [Gsherdlaw21_Made.val m] (by kernel_rfl) (l21_history m who reach opn vals _ hw1 (hw2.at hp9) hr1 (hr2.at hp9) ho1 (ho2.at hp9) hv1 (hv2.at hp9) w hvb hrr hbn) ?_)
  rintro _ w14 ⟨a16, c17, a21, c22, l18, rfl, hq19, hp15⟩
  refine ⟨_, rfl, ?_⟩
  have hp20 := hp9.madeQ hp15
  simp only [List.cons_append, List.nil_append] at hp20
  have hq19l := hq19.2.1
  have hvl : ∀ y ∈ l18, VB w y.Value := fun y hy => (hq19.2.2 y hy).1
  have hvn : ∀ y ∈ l18, y.Value.n ≤ 140737488351232 := fun y hy => (hq19.2.2 y hy).2
  refine OPS.batch 5 {} [] [1, 5, 6] [.int .i64 at_, .slice a16 l18.length c17, .slice a21 l18.length c22] .nil (by kernel_rfl) (fun b23 => ?_)
  refine OPS.nil ?_
  refine thn_n ?_
  refine WP.seq ?_
  refine WP.region _ rfl (by kernel_rfl) ?_
  refine OPS.batch 1 {} [] [1, 5, 6, 24] [.int .i64 at_, .slice a16 l18.length c17, .slice a21 l18.length c22, .slice a16 l18.length c17] .nil (by kernel_rfl) (fun b24 => ?_)
  refine OPS.cons (opStep.call (some 25) [.slice a16 l18.length c17] (by kernel_rfl) (o_ByTags l18 _ _ _ _ rfl (by omega) (SlR.own (hp20.get0)) (by omega)) ?_)
  rintro _ w27 ⟨a29, c30, q31, e32, rfl, hb33, hp28⟩
  obtain ⟨rfl, hb33y⟩ := his_by hq19.1 hq19.2.1 hb33
  refine ⟨_, rfl, ?_⟩
  have hp34 := hp20.made hp28
  have hb33m := own_max' hp34.get0
  refine OPS.batch 5 {} [] [1, 5, 6, 7, 8] [.int .i64 at_, .slice a16 l18.length c17, .slice a21 l18.length c22, .slice a29 q31.length c30, .int .i64 0] .nil (by kernel_rfl) (fun b35 => ?_)
  refine OPS.nil ?_
  refine thn_n ?_
  refine WP.seq ?_
  refine WP.seq ?_
  refine WP.region _ rfl (by kernel_rfl) ?_
  refine OPS.batch 2 {} [] [1, 5, 6, 7, 8, 28, 29] [.int .i64 at_, .slice a16 l18.length c17, .slice a21 l18.length c22, .slice a29 q31.length c30, .int .i64 0, .slice a16 l18.length c17, .slice a21 l18.length c22] .nil (by kernel_rfl) (fun b36 => ?_)
  refine OPS.cons (opStep.call (some 30) [.slice a16 l18.length c17, .slice a21 l18.length c22] (by kernel_rfl) (o_Check l18 _ _ _ _ rfl (by omega) (SlR.own (hp34.get1)) (idsI l18.length) _ _ _ (own_flat (sz := 1) (fun _ => rfl) (by decide) hp34.get2).symm (by rw [own_flat (sz := 1) (fun _ => rfl) (by decide) hp34.get2]; exact own_max' hp34.get2) (SlR.own (hp34.get2)) (fun y hy => (hvl y hy).at' hp34.fr) (fun y hy => Nat.le_trans (hvn y hy) (by decide))) ?_)
  rintro _ w39 ⟨rfl, hf40⟩
  refine ⟨_, rfl, ?_⟩
  rw [his_id hq19.1]
  have hp41 := hp34.step hf40
  refine OPS.batch 8 { wraps := [35] } [] [1, 5, 6, 7, 36, 37, 38] [.int .i64 at_, .slice a16 l18.length c17, .slice a21 l18.length c22, .slice a29 q31.length c30, .bool false, .slice a16 l18.length c17, .slice a29 q31.length c30] .nil (by kernel_rfl) (fun b42 => ?_)
  refine OPS.want (by kernel_rfl) ?_
  refine OPS.cons (opStep.call (some 39) [.slice a16 l18.length c17, .slice a29 q31.length c30] (by kernel_rfl) (o_Check l18 _ _ _ _ rfl (by omega) (SlR.own (hp41.get1)) q31 _ _ _ (own_flat (sz := 1) (fun _ => rfl) (by decide) hp41.get0).symm (by rw [own_flat (sz := 1) (fun _ => rfl) (by decide) hp41.get0]; exact own_max' hp41.get0) (SlR.own (hp41.get0)) (fun y hy => (hvl y hy).at' hp41.fr) (fun y hy => Nat.le_trans (hvn y hy) (by decide))) ?_)
  rintro _ w45 ⟨rfl, hf46⟩
  refine ⟨_, rfl, ?_⟩
  rw [his_by_ok hq19.1 hq19.2.1 hb33y]
  have hp47 := hp41.step hf46
  refine OPS.batch 2 { wraps := [41] } [] [1, 5, 6, 7, 41] [.int .i64 at_, .slice a16 l18.length c17, .slice a21 l18.length c22, .slice a29 q31.length c30, .bool false] .nil (by kernel_rfl) (fun b48 => ?_)
  refine OPS.nil ?_
  refine thn_n ?_
  refine WP.condF rfl ?_
  refine WP.skip ?_
  refine thn_n ?_
  refine WP.seq ?_
  refine WP.region _ rfl (by kernel_rfl) ?_
  refine OPS.cons (opStep.alloc hp47 [.int .i64 0, .int .i64 0] (by kernel_rfl) (fun g51 w49 hp50 => ?_))
  refine OPS.nil ?_
  refine thn_n ?_
  refine WP.seq ?_
  refine WP.seq ?_
  refine WP.pure {} [] [1, 5, 6, 7, 9, 10] [.int .i64 at_, .slice a16 l18.length c17, .slice a21 l18.length c22, .slice a29 q31.length c30, .pointer (some ⟨g51, 0, none⟩), .int .i64 0] .nil (by kernel_rfl) (fun b52 => ?_)
  refine thn_n ?_
  refine WP.block ?_
  refine WP.loop (fun mz_ e53 w54 => ∃ (k : Nat) (la : GTag), mz_ = q31.length - k ∧ (k ≤ q31.length ∧ riseI (lfL l18 (q31.take k)) la) ∧ List.map e53 [1, 5, 6, 7, 9, 10] = [.int .i64 at_, .slice a16 l18.length c17, .slice a21 l18.length c22, .slice a29 q31.length c30, .pointer (some ⟨g51, 0, none⟩), .int .i64 (k : Int)] ∧ Hp w Non [Res.row g51 [.int .i64 la.Count, .int .i64 la.Client] 70, Res.own 3 1 (.slice a29 q31.length c30) q31.length (List.flatMap (fun (y : Int) => [Go.Value.int .i64 y]) q31), Res.own 73 11 (.slice a16 l18.length c17) l18.length (List.flatMap GCall.cells l18), Res.own 3 1 (.slice a21 l18.length c22) l18.length (List.flatMap (fun (y : Int) => [Go.Value.int .i64 y]) (idsI l18.length)), Res.row g3 [.slice m.Who.a m.Who.n m.Who.c, .slice m.Values.a m.Values.n m.Values.c, .slice m.Reach.a m.Reach.n m.Reach.c, .slice m.Open.a m.Open.n m.Open.c] 66] w54) (q31.length - (0)) ⟨0, tag0, rfl, ⟨by omega, rise_start⟩, by kernel_rfl, hp50⟩ ?_
  rintro _ e53 w54 ⟨k, la, rfl, hI56, hE57, hp55⟩
  obtain ⟨b58, rfl⟩ := toMk hE57
  clear hE57
  obtain ⟨pa, pb⟩ := hI56
  have hik := his_in hq19.1 hb33y k
  refine WP.seq ?_
  refine WP.seq ?_
  refine WP.pure {} [] [1, 5, 6, 7, 9, 10, 45] [.int .i64 at_, .slice a16 l18.length c17, .slice a21 l18.length c22, .slice a29 q31.length c30, .pointer (some ⟨g51, 0, none⟩), .int .i64 (k : Int), .bool (decide ((k : Int) < ((q31.length : Nat) : Int)))] .nil (by kernel_rfl) (fun b59 => ?_)
  refine thn_n ?_
  refine WP.test (p := (k : Int) < ((q31.length : Nat) : Int)) rfl Bp.dec (fun h60 => ?_) (fun h60 => ?_)
  · refine WP.skip ?_
    refine thn_n ?_
    refine WP.seq ?_
    refine WP.block ?_
    refine WP.seq ?_
    refine WP.region _ rfl (by kernel_rfl) ?_
    have := own_flat (sz := 1) (fun _ => rfl) (by decide) hp55.get1
    have hy66 : (q31)[k]? = some q31[k]! := get_bang (by first | (omega) | (simp only [List.length_append, List.length_cons, List.length_nil]; omega) | (simp only [List.length_take, List.length_append, List.length_cons, List.length_nil]; omega))
    have := own_flat (sz := 11) (fun _ => rfl) (by decide) hp55.get2
    have hy68 : (l18)[(q31[k]! : Int).toNat]? = some l18[(q31[k]! : Int).toNat]! := get_bang (by first | (omega) | (simp only [List.length_append, List.length_cons, List.length_nil]; omega) | (simp only [List.length_take, List.length_append, List.length_cons, List.length_nil]; omega))
    refine OPS.batch 7 {} [.int .i64 (q31[k]!), GCall.val (l18[(q31[k]! : Int).toNat]!)] [1, 5, 6, 7, 9, 10, 54] [.int .i64 at_, .slice a16 l18.length c17, .slice a21 l18.length c22, .slice a29 q31.length c30, .pointer (some ⟨g51, 0, none⟩), .int .i64 (k : Int), GCall.val (l18[(q31[k]! : Int).toNat]!)] (.cons (show InB ((k : Int)) (q31.length) from ⟨by omega, by omega⟩) (.cons ((SlR.own (hp55.get1)).some (by omega)) (.cons (Ld.add0 (Ld.el1 (P := Try.prog) (t := 3) (SlR.own (hp55.get1)).rd 1 (fun _ => rfl) hy66 (o := 0) (v := .int .i64 (q31[k]!)) (by kernel_rfl))) (.cons (show InB (q31[k]!) (l18.length) from ⟨by omega, by omega⟩) (.cons ((SlR.own (hp55.get2)).some (by omega)) (.cons (Ld.add0 (Ld.elN (P := Try.prog) (t := 73) (SlR.own (hp55.get2)).rd 11 (fun _ => rfl) hy68 (o := 0) (cs := [.int .i64 (l18[(q31[k]! : Int).toNat]!.Client), .int .i64 (l18[(q31[k]! : Int).toNat]!.Op), .bool (l18[(q31[k]! : Int).toNat]!.Put), .string (l18[(q31[k]! : Int).toNat]!.Key), .slice (l18[(q31[k]! : Int).toNat]!.Value.a) (l18[(q31[k]! : Int).toNat]!.Value.n) (l18[(q31[k]! : Int).toNat]!.Value.c), .int .i64 (l18[(q31[k]! : Int).toNat]!.Status), .int .i64 (l18[(q31[k]! : Int).toNat]!.From), .int .i64 (l18[(q31[k]! : Int).toNat]!.To), .bool (l18[(q31[k]! : Int).toNat]!.Open), .int .i64 (l18[(q31[k]! : Int).toNat]!.Tag.Count), .int .i64 (l18[(q31[k]! : Int).toNat]!.Tag.Client)]) (by kernel_rfl))) .nil)))))) (by kernel_rfl) (fun b69 => ?_)
    refine OPS.cons (opStep.alloc hp55 [.int .i64 0, .int .i64 0, .bool false, .string ByteArray.empty, .slice none 0 0, .int .i64 0, .int .i64 0, .int .i64 0, .bool false, .int .i64 0, .int .i64 0] (by kernel_rfl) (fun g72 w70 hp71 => ?_))
    refine OPS.cons (opStep.store0 hp71 rfl [.int .i64 (l18[(q31[k]! : Int).toNat]!.Client), .int .i64 (l18[(q31[k]! : Int).toNat]!.Op), .bool (l18[(q31[k]! : Int).toNat]!.Put), .string (l18[(q31[k]! : Int).toNat]!.Key), .slice (l18[(q31[k]! : Int).toNat]!.Value.a) (l18[(q31[k]! : Int).toNat]!.Value.n) (l18[(q31[k]! : Int).toNat]!.Value.c), .int .i64 (l18[(q31[k]! : Int).toNat]!.Status), .int .i64 (l18[(q31[k]! : Int).toNat]!.From), .int .i64 (l18[(q31[k]! : Int).toNat]!.To), .bool (l18[(q31[k]! : Int).toNat]!.Open), .int .i64 (l18[(q31[k]! : Int).toNat]!.Tag.Count), .int .i64 (l18[(q31[k]! : Int).toNat]!.Tag.Client)] [.int .i64 (l18[(q31[k]! : Int).toNat]!.Client), .int .i64 (l18[(q31[k]! : Int).toNat]!.Op), .bool (l18[(q31[k]! : Int).toNat]!.Put), .string (l18[(q31[k]! : Int).toNat]!.Key), .slice (l18[(q31[k]! : Int).toNat]!.Value.a) (l18[(q31[k]! : Int).toNat]!.Value.n) (l18[(q31[k]! : Int).toNat]!.Value.c), .int .i64 (l18[(q31[k]! : Int).toNat]!.Status), .int .i64 (l18[(q31[k]! : Int).toNat]!.From), .int .i64 (l18[(q31[k]! : Int).toNat]!.To), .bool (l18[(q31[k]! : Int).toNat]!.Open), .int .i64 (l18[(q31[k]! : Int).toNat]!.Tag.Count), .int .i64 (l18[(q31[k]! : Int).toNat]!.Tag.Client)] (by kernel_rfl) (fun w73 hp74 => ?_))
    refine OPS.nil ?_
    refine thn_n ?_
    refine WP.seq ?_
    refine WP.region _ rfl (by kernel_rfl) ?_
    refine OPS.batch 2 {} [.agg #[.int .i64 (l18[(q31[k]! : Int).toNat]!.Tag.Count), .int .i64 (l18[(q31[k]! : Int).toNat]!.Tag.Client)]] [1, 5, 6, 7, 9, 10, 11, 56] [.int .i64 at_, .slice a16 l18.length c17, .slice a21 l18.length c22, .slice a29 q31.length c30, .pointer (some ⟨g51, 0, none⟩), .int .i64 (k : Int), .pointer (some ⟨g72, 0, none⟩), .agg #[.int .i64 (l18[(q31[k]! : Int).toNat]!.Tag.Count), .int .i64 (l18[(q31[k]! : Int).toNat]!.Tag.Client)]] (.cons (show Ld Try.prog w73 70 ⟨g72, 9, none⟩ (.agg #[.int .i64 (l18[(q31[k]! : Int).toNat]!.Tag.Count), .int .i64 (l18[(q31[k]! : Int).toNat]!.Tag.Client)]) from Ld.rowN (cs := [.int .i64 (l18[(q31[k]! : Int).toNat]!.Tag.Count), .int .i64 (l18[(q31[k]! : Int).toNat]!.Tag.Client)]) hp74.get0 (by kernel_rfl)) .nil) (by kernel_rfl) (fun b75 => ?_)
    refine OPS.cons (opStep.alloc hp74 [.int .i64 0, .int .i64 0] (by kernel_rfl) (fun g78 w76 hp77 => ?_))
    refine OPS.cons (opStep.store0 hp77 rfl [.int .i64 (l18[(q31[k]! : Int).toNat]!.Tag.Count), .int .i64 (l18[(q31[k]! : Int).toNat]!.Tag.Client)] [.int .i64 (l18[(q31[k]! : Int).toNat]!.Tag.Count), .int .i64 (l18[(q31[k]! : Int).toNat]!.Tag.Client)] (by kernel_rfl) (fun w79 hp80 => ?_))
    refine OPS.nil ?_
    refine thn_n ?_
    refine WP.seq ?_
    refine WP.cut (fun e98 w99 => ∃ (x96 : Bool), (True) ∧ Bp x96 (((l18[(q31[k]! : Int).toNat]!.Open) = true) ∧ (tagZero l18[(q31[k]! : Int).toNat]!.Tag)) ∧ List.map e98 [1, 5, 6, 7, 9, 10, 12, 62] = [.int .i64 at_, .slice a16 l18.length c17, .slice a21 l18.length c22, .slice a29 q31.length c30, .pointer (some ⟨g51, 0, none⟩), .int .i64 (k : Int), .pointer (some ⟨g78, 0, none⟩), .bool x96] ∧ Hp w Non [Res.row g78 [.int .i64 (l18[(q31[k]! : Int).toNat]!.Tag.Count), .int .i64 (l18[(q31[k]! : Int).toNat]!.Tag.Client)] 70, Res.row g72 [.int .i64 (l18[(q31[k]! : Int).toNat]!.Client), .int .i64 (l18[(q31[k]! : Int).toNat]!.Op), .bool (l18[(q31[k]! : Int).toNat]!.Put), .string (l18[(q31[k]! : Int).toNat]!.Key), .slice (l18[(q31[k]! : Int).toNat]!.Value.a) (l18[(q31[k]! : Int).toNat]!.Value.n) (l18[(q31[k]! : Int).toNat]!.Value.c), .int .i64 (l18[(q31[k]! : Int).toNat]!.Status), .int .i64 (l18[(q31[k]! : Int).toNat]!.From), .int .i64 (l18[(q31[k]! : Int).toNat]!.To), .bool (l18[(q31[k]! : Int).toNat]!.Open), .int .i64 (l18[(q31[k]! : Int).toNat]!.Tag.Count), .int .i64 (l18[(q31[k]! : Int).toNat]!.Tag.Client)] 73, Res.row g51 [.int .i64 la.Count, .int .i64 la.Client] 70, Res.own 3 1 (.slice a29 q31.length c30) q31.length (List.flatMap (fun (y : Int) => [Go.Value.int .i64 y]) q31), Res.own 73 11 (.slice a16 l18.length c17) l18.length (List.flatMap GCall.cells l18), Res.own 3 1 (.slice a21 l18.length c22) l18.length (List.flatMap (fun (y : Int) => [Go.Value.int .i64 y]) (idsI l18.length)), Res.row g3 [.slice m.Who.a m.Who.n m.Who.c, .slice m.Values.a m.Values.n m.Values.c, .slice m.Reach.a m.Reach.n m.Reach.c, .slice m.Open.a m.Open.n m.Open.c] 66] w99) ?_ ?_
    · refine WP.region _ rfl (by kernel_rfl) ?_
      refine OPS.batch 3 {} [.bool (l18[(q31[k]! : Int).toNat]!.Open)] [1, 5, 6, 7, 9, 10, 12, 59] [.int .i64 at_, .slice a16 l18.length c17, .slice a21 l18.length c22, .slice a29 q31.length c30, .pointer (some ⟨g51, 0, none⟩), .int .i64 (k : Int), .pointer (some ⟨g78, 0, none⟩), .bool (l18[(q31[k]! : Int).toNat]!.Open)] (.cons (Ld.row1 (P := Try.prog) (t := 4) (o := 8) (v := .bool (l18[(q31[k]! : Int).toNat]!.Open)) hp80.get1 (by kernel_rfl)) .nil) (by kernel_rfl) (fun b82 => ?_)
      by_cases h83 : (l18[(q31[k]! : Int).toNat]!.Open) = true
      · refine OPS.batch 0 {} [] [1, 5, 6, 7, 9, 10, 12, 59] [.int .i64 at_, .slice a16 l18.length c17, .slice a21 l18.length c22, .slice a29 q31.length c30, .pointer (some ⟨g51, 0, none⟩), .int .i64 (k : Int), .pointer (some ⟨g78, 0, none⟩), .bool (l18[(q31[k]! : Int).toNat]!.Open)] .nil (by kernel_rfl) (fun b84 => ?_)
        refine OPS.re [.int .i64 at_, .slice a16 l18.length c17, .slice a21 l18.length c22, .slice a29 q31.length c30, .pointer (some ⟨g51, 0, none⟩), .int .i64 (k : Int), .pointer (some ⟨g78, 0, none⟩), .bool true] (by rw [show (l18[(q31[k]! : Int).toNat]!.Open) = true from Bp.var.tt h83]) ?_
        refine OPS.batch 1 {} [.agg #[.int .i64 (l18[(q31[k]! : Int).toNat]!.Tag.Count), .int .i64 (l18[(q31[k]! : Int).toNat]!.Tag.Client)]] [1, 5, 6, 7, 9, 10, 12, 59, 60] [.int .i64 at_, .slice a16 l18.length c17, .slice a21 l18.length c22, .slice a29 q31.length c30, .pointer (some ⟨g51, 0, none⟩), .int .i64 (k : Int), .pointer (some ⟨g78, 0, none⟩), .bool true, .agg #[.int .i64 (l18[(q31[k]! : Int).toNat]!.Tag.Count), .int .i64 (l18[(q31[k]! : Int).toNat]!.Tag.Client)]] (.cons (show Ld Try.prog w79 70 ⟨g78, 0, none⟩ (.agg #[.int .i64 (l18[(q31[k]! : Int).toNat]!.Tag.Count), .int .i64 (l18[(q31[k]! : Int).toNat]!.Tag.Client)]) from Ld.rowN (cs := [.int .i64 (l18[(q31[k]! : Int).toNat]!.Tag.Count), .int .i64 (l18[(q31[k]! : Int).toNat]!.Tag.Client)]) hp80.get0 (by kernel_rfl)) .nil) (by kernel_rfl) (fun b85 => ?_)
        refine OPS.want (by kernel_rfl) ?_
        refine OPS.cons (opStep.call (some 61) [.agg #[.int .i64 (l18[(q31[k]! : Int).toNat]!.Tag.Count), .int .i64 (l18[(q31[k]! : Int).toNat]!.Tag.Client)]] (by kernel_rfl) (tag_Zero l18[(q31[k]! : Int).toNat]!.Tag _) ?_)
        rintro _ w88 ⟨b91, rfl, hb92, hf89⟩
        refine ⟨_, rfl, ?_⟩
        have hp90 := hp80.step hf89
        refine OPS.batch 1 { wraps := [62] } [] [1, 5, 6, 7, 9, 10, 12, 62] [.int .i64 at_, .slice a16 l18.length c17, .slice a21 l18.length c22, .slice a29 q31.length c30, .pointer (some ⟨g51, 0, none⟩), .int .i64 (k : Int), .pointer (some ⟨g78, 0, none⟩), .bool b91] .nil (by kernel_rfl) (fun b93 => ?_)
        refine OPS.nil ?_
        refine thn_n ?_
        exact ⟨b91, trivial, Bp.of hb92 (by first | (simp only [h83, iff_false, false_iff, iff_true, true_iff, Classical.not_not, and_true, true_and, and_false, false_and, or_true, true_or, or_false, false_or, not_true_eq_false, not_false_eq_true, and_self, or_self, iff_self]; done) | (simp [h83]; done) | grind | (simp_all; done)), by kernel_rfl, hp90⟩
      · refine OPS.batch 0 {} [] [1, 5, 6, 7, 9, 10, 12, 59] [.int .i64 at_, .slice a16 l18.length c17, .slice a21 l18.length c22, .slice a29 q31.length c30, .pointer (some ⟨g51, 0, none⟩), .int .i64 (k : Int), .pointer (some ⟨g78, 0, none⟩), .bool (l18[(q31[k]! : Int).toNat]!.Open)] .nil (by kernel_rfl) (fun b94 => ?_)
        refine OPS.re [.int .i64 at_, .slice a16 l18.length c17, .slice a21 l18.length c22, .slice a29 q31.length c30, .pointer (some ⟨g51, 0, none⟩), .int .i64 (k : Int), .pointer (some ⟨g78, 0, none⟩), .bool false] (by rw [show (l18[(q31[k]! : Int).toNat]!.Open) = false from Bp.var.ff h83]) ?_
        refine OPS.batch 3 { wraps := [62] } [] [1, 5, 6, 7, 9, 10, 12, 62] [.int .i64 at_, .slice a16 l18.length c17, .slice a21 l18.length c22, .slice a29 q31.length c30, .pointer (some ⟨g51, 0, none⟩), .int .i64 (k : Int), .pointer (some ⟨g78, 0, none⟩), .bool false] .nil (by kernel_rfl) (fun b95 => ?_)
        refine OPS.nil ?_
        refine thn_n ?_
        exact ⟨false, trivial, Bp.of Bp.f (by first | (simp only [h83, iff_false, false_iff, iff_true, true_iff, Classical.not_not, and_true, true_and, and_false, false_and, or_true, true_or, or_false, false_or, not_true_eq_false, not_false_eq_true, and_self, or_self, iff_self]; done) | (simp [h83]; done) | grind | (simp_all; done)), by kernel_rfl, hp80⟩
    rintro e98 w99 ⟨x96, hd101, hb97, hE102, hp100⟩
    obtain ⟨b103, rfl⟩ := toMk hE102
    clear hE102
    clear hd101
    refine WP.test (p := ((l18[(q31[k]! : Int).toNat]!.Open) = true) ∧ (tagZero l18[(q31[k]! : Int).toNat]!.Tag)) rfl hb97 (fun h104 => ?_) (fun h104 => ?_)
    · refine WP.exit ?_
      refine thn_x ?_
      refine blk_hit ?_
      refine thn_n ?_
      refine WP.pure {} [] [1, 5, 6, 7, 9, 10] [.int .i64 at_, .slice a16 l18.length c17, .slice a21 l18.length c22, .slice a29 q31.length c30, .pointer (some ⟨g51, 0, none⟩), .int .i64 ((k : Int) + 1)] (.cons (show Rng .i64 ((k : Int) + 1) from Rng.i64 (by omega)) .nil) (by kernel_rfl) (fun b105 => ?_)
      refine thn_n ?_
      exact ⟨q31.length - (k + 1), (by omega), k + 1, la, rfl, ⟨by omega, (rise hq19.1 hb33y (by omega) pb).1 h104⟩, by kernel_rfl, (hp100.sub (.cons _ (.cons _ (.cons_cons _ (.cons_cons _ (.cons_cons _ (.cons_cons _ (.cons_cons _ (.slnil)))))))))⟩
    · refine WP.skip ?_
      refine thn_n ?_
      refine WP.seq ?_
      refine WP.seq ?_
      refine WP.region _ rfl (by kernel_rfl) ?_
      refine OPS.batch 2 {} [.agg #[.int .i64 (l18[(q31[k]! : Int).toNat]!.Tag.Count), .int .i64 (l18[(q31[k]! : Int).toNat]!.Tag.Client)], GTag.val la] [1, 5, 6, 7, 9, 10, 12, 63, 64] [.int .i64 at_, .slice a16 l18.length c17, .slice a21 l18.length c22, .slice a29 q31.length c30, .pointer (some ⟨g51, 0, none⟩), .int .i64 (k : Int), .pointer (some ⟨g78, 0, none⟩), .agg #[.int .i64 (l18[(q31[k]! : Int).toNat]!.Tag.Count), .int .i64 (l18[(q31[k]! : Int).toNat]!.Tag.Client)], GTag.val la] (.cons (show Ld Try.prog w99 70 ⟨g78, 0, none⟩ (.agg #[.int .i64 (l18[(q31[k]! : Int).toNat]!.Tag.Count), .int .i64 (l18[(q31[k]! : Int).toNat]!.Tag.Client)]) from Ld.rowN (cs := [.int .i64 (l18[(q31[k]! : Int).toNat]!.Tag.Count), .int .i64 (l18[(q31[k]! : Int).toNat]!.Tag.Client)]) hp100.get0 (by kernel_rfl)) (.cons (show Ld Try.prog w99 70 ⟨g51, 0, none⟩ (GTag.val la) from Ld.rowN (cs := [.int .i64 la.Count, .int .i64 la.Client]) hp100.get2 (by kernel_rfl)) .nil)) (by kernel_rfl) (fun b106 => ?_)
      refine OPS.cons (opStep.call (some 65) [.agg #[.int .i64 (l18[(q31[k]! : Int).toNat]!.Tag.Count), .int .i64 (l18[(q31[k]! : Int).toNat]!.Tag.Client)], GTag.val la] (by kernel_rfl) (tag_Compare l18[(q31[k]! : Int).toNat]!.Tag la _) ?_)
      rintro _ w109 ⟨rfl, hf110⟩
      refine ⟨_, rfl, ?_⟩
      have hp111 := hp100.step hf110
      refine OPS.batch 1 {} [] [1, 5, 6, 7, 9, 10, 12, 66] [.int .i64 at_, .slice a16 l18.length c17, .slice a21 l18.length c22, .slice a29 q31.length c30, .pointer (some ⟨g51, 0, none⟩), .int .i64 (k : Int), .pointer (some ⟨g78, 0, none⟩), .bool (decide ((tagCmp l18[(q31[k]! : Int).toNat]!.Tag la) < 0))] .nil (by kernel_rfl) (fun b112 => ?_)
      refine OPS.nil ?_
      refine thn_n ?_
      refine WP.test (p := (tagCmp l18[(q31[k]! : Int).toNat]!.Tag la) < 0) rfl Bp.dec (fun h113 => ?_) (fun h113 => ?_)
      · refine WP.seq ?_
        refine WP.pure {} [] [4] [.bool false] .nil (by kernel_rfl) (fun b114 => ?_)
        refine thn_n ?_
        refine WP.ret ?_
        refine thn_r ?_
        refine blk_r ?_
        refine thn_r ?_
        refine thn_r ?_
        refine blk_r ?_
        refine thn_r ?_
        refine bodyQ.of _ rfl [.bool false] ⟨rfl, trivial⟩ ?_
        exfalso
        exact ((rise hq19.1 hb33y (by omega) pb).2 h104).1 h113
      · refine WP.skip ?_
        refine thn_n ?_
        refine WP.region _ rfl (by kernel_rfl) ?_
        refine OPS.batch 1 {} [.agg #[.int .i64 (l18[(q31[k]! : Int).toNat]!.Tag.Count), .int .i64 (l18[(q31[k]! : Int).toNat]!.Tag.Client)]] [1, 5, 6, 7, 9, 10, 67] [.int .i64 at_, .slice a16 l18.length c17, .slice a21 l18.length c22, .slice a29 q31.length c30, .pointer (some ⟨g51, 0, none⟩), .int .i64 (k : Int), .agg #[.int .i64 (l18[(q31[k]! : Int).toNat]!.Tag.Count), .int .i64 (l18[(q31[k]! : Int).toNat]!.Tag.Client)]] (.cons (show Ld Try.prog w109 70 ⟨g78, 0, none⟩ (.agg #[.int .i64 (l18[(q31[k]! : Int).toNat]!.Tag.Count), .int .i64 (l18[(q31[k]! : Int).toNat]!.Tag.Client)]) from Ld.rowN (cs := [.int .i64 (l18[(q31[k]! : Int).toNat]!.Tag.Count), .int .i64 (l18[(q31[k]! : Int).toNat]!.Tag.Client)]) hp111.get0 (by kernel_rfl)) .nil) (by kernel_rfl) (fun b115 => ?_)
        refine OPS.cons (opStep.store2 hp111 rfl [.int .i64 (l18[(q31[k]! : Int).toNat]!.Tag.Count), .int .i64 (l18[(q31[k]! : Int).toNat]!.Tag.Client)] [.int .i64 (l18[(q31[k]! : Int).toNat]!.Tag.Count), .int .i64 (l18[(q31[k]! : Int).toNat]!.Tag.Client)] (by kernel_rfl) (fun w116 hp117 => ?_))
        refine OPS.nil ?_
        refine blk_n ?_
        refine thn_n ?_
        refine WP.pure {} [] [1, 5, 6, 7, 9, 10] [.int .i64 at_, .slice a16 l18.length c17, .slice a21 l18.length c22, .slice a29 q31.length c30, .pointer (some ⟨g51, 0, none⟩), .int .i64 ((k : Int) + 1)] (.cons (show Rng .i64 ((k : Int) + 1) from Rng.i64 (by omega)) .nil) (by kernel_rfl) (fun b118 => ?_)
        refine thn_n ?_
        exact ⟨q31.length - (k + 1), (by omega), k + 1, (⟨l18[(q31[k]! : Int).toNat]!.Tag.Count, l18[(q31[k]! : Int).toNat]!.Tag.Client⟩ : GTag), rfl, ⟨by omega, (rise hq19.1 hb33y (by omega) pb).2 h104 |>.2⟩, by kernel_rfl, (hp117.sub (.cons _ (.cons _ (.cons_cons _ (.cons_cons _ (.cons_cons _ (.cons_cons _ (.cons_cons _ (.slnil)))))))))⟩
  · refine WP.exit ?_
    refine thn_x ?_
    refine thn_x ?_
    refine blk_hit ?_
    refine thn_n ?_
    refine WP.seq ?_
    refine WP.seq ?_
    refine WP.pure {} [] [1, 5, 6, 7, 70] [.int .i64 at_, .slice a16 l18.length c17, .slice a21 l18.length c22, .slice a29 q31.length c30, .bool (decide (((l18.length : Nat) : Int) = 0))] .nil (by kernel_rfl) (fun b119 => ?_)
    refine thn_n ?_
    refine WP.test (p := ((l18.length : Nat) : Int) = 0) rfl Bp.dec (fun h120 => ?_) (fun h120 => ?_)
    · refine WP.seq ?_
      refine WP.pure {} [] [4] [.bool (decide (((q31.length : Nat) : Int) = 0))] .nil (by kernel_rfl) (fun b121 => ?_)
      refine thn_n ?_
      refine WP.ret ?_
      refine thn_r ?_
      refine bodyQ.of _ rfl [.bool (decide (((q31.length : Nat) : Int) = 0))] ⟨rfl, trivial⟩ ?_
      exact ⟨congrArg (fun b => Ending.returned (.bool b)) (Bp.tt Bp.dec (by first | (have := his_nil hq19.1 hb33y (by omega); omega) | grind)), hp55.fr⟩
    · refine WP.skip ?_
      refine thn_n ?_
      refine WP.seq ?_
      refine WP.region _ rfl (by kernel_rfl) ?_
      refine OPS.batch 3 {} [] [5, 6, 7, 74, 76] [.slice a16 l18.length c17, .slice a21 l18.length c22, .slice a29 q31.length c30, .int .i64 at_, .int .i64 ((l18.length : Nat) : Int)] .nil (by kernel_rfl) (fun b122 => ?_)
      refine OPS.cons (opStep.call (some 77) [.int .i64 at_, .int .i64 ((l18.length : Nat) : Int)] (by kernel_rfl) (l21_mod at_ ((l18.length : Nat) : Int) _ (by omega) (by omega)) ?_)
      rintro _ w125 ⟨rfl, hf126⟩
      refine ⟨_, rfl, ?_⟩
      have hp127 := hp55.step hf126
      obtain ⟨i128, hm129⟩ : ∃ z : Nat, mdI at_ ((l18.length : Nat) : Int) = (z : Int) := ⟨(mdI at_ ((l18.length : Nat) : Int)).toNat, by have := mdI_bd at_ (n := ((l18.length : Nat) : Int)) (by omega); omega⟩
      have hm130 : (i128 : Int) < ((l18.length : Nat) : Int) := by have := mdI_bd at_ (n := ((l18.length : Nat) : Int)) (by omega); omega
      rw [hm129]
      refine OPS.batch 1 {} [] [5, 6, 7, 13] [.slice a16 l18.length c17, .slice a21 l18.length c22, .slice a29 q31.length c30, .int .i64 ((i128 : Nat) : Int)] .nil (by kernel_rfl) (fun b131 => ?_)
      refine OPS.nil ?_
      refine thn_n ?_
      refine WP.seq ?_
      refine WP.region _ rfl (by kernel_rfl) ?_
      refine OPS.cons (opStep.buildSlice0 (E := 3) hp127 (by kernel_rfl) (fun g134 w132 hp133 => ?_))
      refine OPS.batch 1 {} [] [5, 6, 7, 13, 78, 79] [.slice a16 l18.length c17, .slice a21 l18.length c22, .slice a29 q31.length c30, .int .i64 ((i128 : Nat) : Int), .slice (some ⟨g134, 0, none⟩) 0 0, .slice a21 l18.length c22] .nil (by kernel_rfl) (fun b135 => ?_)
      have hp138 := hp133.pull0
      have hp139 := (show Hp w Non [Res.own 3 1 (.slice (some ⟨g134, 0, none⟩) 0 0) 0 (List.flatMap (fun (y : Int) => [Go.Value.int .i64 y]) []), Res.row g51 [.int .i64 la.Count, .int .i64 la.Client] 70, Res.own 3 1 (.slice a29 q31.length c30) q31.length (List.flatMap (fun (y : Int) => [Go.Value.int .i64 y]) q31), Res.own 73 11 (.slice a16 l18.length c17) l18.length (List.flatMap GCall.cells l18), Res.own 3 1 (.slice a21 l18.length c22) l18.length (List.flatMap (fun (y : Int) => [Go.Value.int .i64 y]) (idsI l18.length)), Res.row g3 [.slice m.Who.a m.Who.n m.Who.c, .slice m.Values.a m.Values.n m.Values.c, .slice m.Reach.a m.Reach.n m.Reach.c, .slice m.Open.a m.Open.n m.Open.c] 66] w132 from hp138.rowOwn 1)
      refine OPS.cons (opStep.appendS (A := []) hp139 8 (by kernel_rfl) rfl rfl (SlR.own (hp139.get4)) (flat_n (fun _ => rfl) (own_flat (sz := 1) (fun _ => rfl) (by decide) hp139.get4)) (one_flat (fun _ => rfl)) (by decide) (by omega) (by omega) (fun a140 c141 w142 hp143 => ?_))
      rw [show List.flatMap (fun (y : Int) => [Go.Value.int .i64 y]) [] ++ List.flatMap (fun (y : Int) => [Go.Value.int .i64 y]) (idsI l18.length) = List.flatMap (fun (y : Int) => [Go.Value.int .i64 y]) ((idsI l18.length)) from rfl] at hp143
      simp only [List.cons_append, List.nil_append] at hp143
      refine OPS.batch 1 {} [] [5, 6, 7, 13, 80, 81] [.slice a16 l18.length c17, .slice a21 l18.length c22, .slice a29 q31.length c30, .int .i64 ((i128 : Nat) : Int), .slice a140 (0 + l18.length) c141, .int .i64 ((i128 : Nat) : Int)] .nil (by kernel_rfl) (fun b144 => ?_)
      refine OPS.cons (opStep.buildSlice (E := 3) hp143 [.int .i64 ((i128 : Nat) : Int)] (by kernel_rfl) (fun g147 w145 hp146 => ?_))
      refine OPS.cons (opStep.append1 [.int .i64 ((i128 : Nat) : Int)] hp146 8 (by kernel_rfl) rfl rfl rfl (SlR.row (n := 1) hp146.get0 rfl).rd (List.all_eq_true.1 (by kernel_rfl)) (by decide) (by omega) (by omega) (fun a150 c151 w152 hp153 hn154 => ?_))
      rw [(show List.flatMap (fun (y : Int) => [Go.Value.int .i64 y]) (idsI l18.length) ++ [.int .i64 ((i128 : Nat) : Int)] = List.flatMap (fun (y : Int) => [Go.Value.int .i64 y]) ((idsI l18.length) ++ [((i128 : Nat) : Int)]) from (List.flatMap_append (xs := (idsI l18.length)) (ys := [((i128 : Nat) : Int)])).symm)] at hp153
      refine OPS.batch 1 {} [] [5, 6, 7, 13, 14] [.slice a16 l18.length c17, .slice a21 l18.length c22, .slice a29 q31.length c30, .int .i64 ((i128 : Nat) : Int), .slice a150 (0 + l18.length + 1) c151] .nil (by kernel_rfl) (fun b155 => ?_)
      refine OPS.nil ?_
      refine thn_n ?_
      refine WP.seq ?_
      refine WP.pure {} [] [5, 6, 7, 13, 14, 15] [.slice a16 l18.length c17, .slice a21 l18.length c22, .slice a29 q31.length c30, .int .i64 ((i128 : Nat) : Int), .slice a150 (0 + l18.length + 1) c151, .slice none 0 0] .nil (by kernel_rfl) (fun b156 => ?_)
      refine thn_n ?_
      refine WP.seq ?_
      refine WP.region _ rfl (by kernel_rfl) ?_
      have := own_cap hp153.get5
      refine OPS.batch 4 {} [] [5, 6, 7, 13, 14, 84, 87] [.slice a16 l18.length c17, .slice a21 l18.length c22, .slice a29 q31.length c30, .int .i64 ((i128 : Nat) : Int), .slice a150 (0 + l18.length + 1) c151, .slice none 0 0, .slice a21 i128 c22] (.cons (show (0 : Int) ≤ ((i128 : Nat) : Int) ∧ ((i128 : Nat) : Int) ≤ ((c22 : Nat) : Int) from ⟨by omega, by omega⟩) .nil) (by kernel_rfl) (fun b157 => ?_)
      have hp161 := (show Hp w Non [Res.own 3 1 (.slice none 0 0) 0 (List.flatMap (fun (y : Int) => [Go.Value.int .i64 y]) ([] : List Int)), Res.row g147 [.int .i64 ((i128 : Nat) : Int)] 3, Res.own 3 1 (.slice a150 (0 + l18.length + 1) c151) (0 + l18.length + 1) (List.flatMap (fun (y : Int) => [Go.Value.int .i64 y]) ((idsI l18.length) ++ [((i128 : Nat) : Int)])), Res.row g51 [.int .i64 la.Count, .int .i64 la.Client] 70, Res.own 3 1 (.slice a29 q31.length c30) q31.length (List.flatMap (fun (y : Int) => [Go.Value.int .i64 y]) q31), Res.own 73 11 (.slice a16 l18.length c17) l18.length (List.flatMap GCall.cells l18), Res.own 3 1 (.slice a21 l18.length c22) l18.length (List.flatMap (fun (y : Int) => [Go.Value.int .i64 y]) (idsI l18.length)), Res.row g3 [.slice m.Who.a m.Who.n m.Who.c, .slice m.Values.a m.Values.n m.Values.c, .slice m.Reach.a m.Reach.n m.Reach.c, .slice m.Open.a m.Open.n m.Open.c] 66] w152 from hp153.nilOwn 3 1)
      refine OPS.cons (opStep.appendS (A := []) hp161 8 (by kernel_rfl) rfl rfl (slr_take2 (sz := 1) (fun _ => rfl) (SlR.own (hp161.get6)) (by omega)) (flat_n (fun _ => rfl) (by have := (own_flat (sz := 1) (fun _ => rfl) (by decide) hp161.get6); simp only [List.length_take, List.length_drop]; omega)) (one_flat (fun _ => rfl)) (by decide) (by omega) (by omega) (fun a162 c163 w164 hp165 => ?_))
      rw [show List.flatMap (fun (y : Int) => [Go.Value.int .i64 y]) ([] : List Int) ++ List.flatMap (fun (y : Int) => [Go.Value.int .i64 y]) (List.take i128 (idsI l18.length)) = List.flatMap (fun (y : Int) => [Go.Value.int .i64 y]) (List.take i128 (idsI l18.length)) from rfl] at hp165
      simp only [List.cons_append, List.nil_append] at hp165
      refine OPS.batch 1 {} [] [5, 6, 7, 13, 14, 15] [.slice a16 l18.length c17, .slice a21 l18.length c22, .slice a29 q31.length c30, .int .i64 ((i128 : Nat) : Int), .slice a150 (0 + l18.length + 1) c151, .slice a162 (0 + i128) c163] .nil (by kernel_rfl) (fun b166 => ?_)
      refine OPS.nil ?_
      refine thn_n ?_
      refine WP.seq ?_
      refine WP.region _ rfl (by kernel_rfl) ?_
      have := own_cap hp165.get6
      refine OPS.batch 5 { subs := [92] } [.int .i64 ((i128 + 1 : Nat) : Int)] [5, 6, 7, 13, 14, 89, 93] [.slice a16 l18.length c17, .slice a21 l18.length c22, .slice a29 q31.length c30, .int .i64 ((i128 : Nat) : Int), .slice a150 (0 + l18.length + 1) c151, .slice a162 (0 + i128) c163, .slice (slOff a21 c22 ((i128 + 1)) 1) (l18.length - (i128 + 1)) (c22 - (i128 + 1))] (.cons (show Rng .i64 (((i128 : Nat) : Int) + 1) from Rng.i64 (by omega)) (.cons (show (.int .i64 (((i128 : Nat) : Int) + 1) : Go.Value) = .int .i64 ((i128 + 1 : Nat) : Int) from congrArg (Value.int .i64) ((show ((i128 : Nat) : Int) + 1 = ((i128 + 1 : Nat) : Int) by omega))) (.cons (show (0 : Int) ≤ ((i128 + 1 : Nat) : Int) ∧ ((i128 + 1 : Nat) : Int) ≤ ((l18.length : Nat) : Int) from ⟨by omega, by omega⟩) .nil))) (by kernel_rfl) (fun b167 => ?_)
      refine OPS.cons (opStep.appendS (A := []) hp165 8 (by kernel_rfl) rfl rfl (slr_drop (sz := 1) (fun _ => rfl) (own_flat (sz := 1) (fun _ => rfl) (by decide) hp165.get6) (SlR.own (hp165.get6)) (by omega) (own_cap hp165.get6)) (flat_n (fun _ => rfl) (by have := (own_flat (sz := 1) (fun _ => rfl) (by decide) hp165.get6); simp only [List.length_take, List.length_drop]; omega)) (one_flat (fun _ => rfl)) (by decide) (by omega) (by omega) (fun a170 c171 w172 hp173 => ?_))
      rw [show List.flatMap (fun (y : Int) => [Go.Value.int .i64 y]) (List.take i128 (idsI l18.length)) ++ List.flatMap (fun (y : Int) => [Go.Value.int .i64 y]) (List.drop (i128 + 1) (idsI l18.length)) = List.flatMap (fun (y : Int) => [Go.Value.int .i64 y]) ((List.take i128 (idsI l18.length)) ++ (List.drop (i128 + 1) (idsI l18.length))) from List.flatMap_append.symm] at hp173
      simp only [List.cons_append, List.nil_append] at hp173
      refine OPS.batch 1 {} [] [5, 6, 7, 13, 14, 15] [.slice a16 l18.length c17, .slice a21 l18.length c22, .slice a29 q31.length c30, .int .i64 ((i128 : Nat) : Int), .slice a150 (0 + l18.length + 1) c151, .slice a170 (0 + i128 + (l18.length - (i128 + 1))) c171] .nil (by kernel_rfl) (fun b174 => ?_)
      refine OPS.nil ?_
      refine thn_n ?_
      refine WP.seq ?_
      refine WP.cut (fun e196 w197 => ∃ (_ : Unit), (((¬ ((l18[i128]!.Open) = true)) ∧ True) ∨ (((l18[i128]!.Open) = true) ∧ True)) ∧ List.map e196 [5, 6, 7, 13, 112] = [.slice a16 l18.length c17, .slice a21 l18.length c22, .slice a29 q31.length c30, .int .i64 ((i128 : Nat) : Int), .bool false] ∧ Hp w Non [Res.own 3 1 (.slice a170 (0 + i128 + (l18.length - (i128 + 1))) c171) (0 + i128 + (l18.length - (i128 + 1))) (List.flatMap (fun (y : Int) => [Go.Value.int .i64 y]) ((List.take i128 (idsI l18.length)) ++ (List.drop (i128 + 1) (idsI l18.length)))), Res.row g147 [.int .i64 ((i128 : Nat) : Int)] 3, Res.own 3 1 (.slice a150 (0 + l18.length + 1) c151) (0 + l18.length + 1) (List.flatMap (fun (y : Int) => [Go.Value.int .i64 y]) ((idsI l18.length) ++ [((i128 : Nat) : Int)])), Res.row g51 [.int .i64 la.Count, .int .i64 la.Client] 70, Res.own 3 1 (.slice a29 q31.length c30) q31.length (List.flatMap (fun (y : Int) => [Go.Value.int .i64 y]) q31), Res.own 73 11 (.slice a16 l18.length c17) l18.length (List.flatMap GCall.cells l18), Res.own 3 1 (.slice a21 l18.length c22) l18.length (List.flatMap (fun (y : Int) => [Go.Value.int .i64 y]) (idsI l18.length)), Res.row g3 [.slice m.Who.a m.Who.n m.Who.c, .slice m.Values.a m.Values.n m.Values.c, .slice m.Reach.a m.Reach.n m.Reach.c, .slice m.Open.a m.Open.n m.Open.c] 66] w197) ?_ ?_
      · refine WP.region _ rfl (by kernel_rfl) ?_
        refine OPS.batch 2 {} [] [5, 6, 7, 13, 15, 95, 96] [.slice a16 l18.length c17, .slice a21 l18.length c22, .slice a29 q31.length c30, .int .i64 ((i128 : Nat) : Int), .slice a170 (0 + i128 + (l18.length - (i128 + 1))) c171, .slice a16 l18.length c17, .slice a150 (0 + l18.length + 1) c151] .nil (by kernel_rfl) (fun b176 => ?_)
        refine OPS.cons (opStep.call (some 97) [.slice a16 l18.length c17, .slice a150 (0 + l18.length + 1) c151] (by kernel_rfl) (o_Check l18 _ _ _ _ rfl (by omega) (SlR.own (hp173.get5)) ((idsI l18.length) ++ [((i128 : Nat) : Int)]) _ _ _ (own_flat (sz := 1) (fun _ => rfl) (by decide) hp173.get2).symm (by rw [own_flat (sz := 1) (fun _ => rfl) (by decide) hp173.get2]; exact own_max' hp173.get2) (SlR.own (hp173.get2)) (fun y hy => (hvl y hy).at' hp173.fr) (fun y hy => Nat.le_trans (hvn y hy) (by decide))) ?_)
        rintro _ w179 ⟨rfl, hf180⟩
        refine ⟨_, rfl, ?_⟩
        rw [twice_no hq19.1 (by omega)]
        have hp181 := hp173.step hf180
        have := own_flat (sz := 11) (fun _ => rfl) (by decide) hp181.get5
        have hy183 : (l18)[i128]? = some l18[i128]! := get_bang (by first | (omega) | (simp only [List.length_append, List.length_cons, List.length_nil]; omega) | (simp only [List.length_take, List.length_append, List.length_cons, List.length_nil]; omega))
        refine OPS.batch 9 {} [.bool (l18[i128]!.Open)] [5, 6, 7, 13, 15, 99, 106] [.slice a16 l18.length c17, .slice a21 l18.length c22, .slice a29 q31.length c30, .int .i64 ((i128 : Nat) : Int), .slice a170 (0 + i128 + (l18.length - (i128 + 1))) c171, .bool false, .bool (!(l18[i128]!.Open))] (.cons (show InB (((i128 : Nat) : Int)) (l18.length) from ⟨by omega, by omega⟩) (.cons ((SlR.own (hp181.get5)).some (by omega)) (.cons (Ld.el1 (P := Try.prog) (t := 4) (SlR.own (hp181.get5)).rd 11 (fun _ => rfl) hy183 (o := 8) (v := .bool (l18[i128]!.Open)) (by kernel_rfl)) .nil))) (by kernel_rfl) (fun b184 => ?_)
        by_cases h185 : (l18[i128]!.Open) = true
        · refine OPS.batch 0 {} [] [5, 6, 7, 13, 15, 99, 106] [.slice a16 l18.length c17, .slice a21 l18.length c22, .slice a29 q31.length c30, .int .i64 ((i128 : Nat) : Int), .slice a170 (0 + i128 + (l18.length - (i128 + 1))) c171, .bool false, .bool (!(l18[i128]!.Open))] .nil (by kernel_rfl) (fun b194 => ?_)
          refine OPS.re [.slice a16 l18.length c17, .slice a21 l18.length c22, .slice a29 q31.length c30, .int .i64 ((i128 : Nat) : Int), .slice a170 (0 + i128 + (l18.length - (i128 + 1))) c171, .bool false, .bool false] (by rw [show (!(l18[i128]!.Open)) = false from (Bp.not Bp.var).ff (fun k => k h185)]) ?_
          refine OPS.batch 6 { wraps := [111, 112] } [] [5, 6, 7, 13, 112] [.slice a16 l18.length c17, .slice a21 l18.length c22, .slice a29 q31.length c30, .int .i64 ((i128 : Nat) : Int), .bool false] .nil (by kernel_rfl) (fun b195 => ?_)
          refine OPS.nil ?_
          refine thn_n ?_
          exact ⟨(), Or.inr (⟨h185, trivial⟩), by kernel_rfl, hp181⟩
        · refine OPS.batch 0 {} [] [5, 6, 7, 13, 15, 99, 106] [.slice a16 l18.length c17, .slice a21 l18.length c22, .slice a29 q31.length c30, .int .i64 ((i128 : Nat) : Int), .slice a170 (0 + i128 + (l18.length - (i128 + 1))) c171, .bool false, .bool (!(l18[i128]!.Open))] .nil (by kernel_rfl) (fun b186 => ?_)
          refine OPS.re [.slice a16 l18.length c17, .slice a21 l18.length c22, .slice a29 q31.length c30, .int .i64 ((i128 : Nat) : Int), .slice a170 (0 + i128 + (l18.length - (i128 + 1))) c171, .bool false, .bool true] (by rw [show (!(l18[i128]!.Open)) = true from (Bp.not Bp.var).tt h185]) ?_
          refine OPS.batch 2 {} [] [5, 6, 7, 13, 99, 106, 107, 108] [.slice a16 l18.length c17, .slice a21 l18.length c22, .slice a29 q31.length c30, .int .i64 ((i128 : Nat) : Int), .bool false, .bool true, .slice a16 l18.length c17, .slice a170 (0 + i128 + (l18.length - (i128 + 1))) c171] .nil (by kernel_rfl) (fun b187 => ?_)
          refine OPS.want (by kernel_rfl) ?_
          refine OPS.cons (opStep.call (some 109) [.slice a16 l18.length c17, .slice a170 (0 + i128 + (l18.length - (i128 + 1))) c171] (by kernel_rfl) (o_Check l18 _ _ _ _ rfl (by omega) (SlR.own (hp181.get5)) ((List.take i128 (idsI l18.length)) ++ (List.drop (i128 + 1) (idsI l18.length))) _ _ _ (own_flat (sz := 1) (fun _ => rfl) (by decide) hp181.get0).symm (by rw [own_flat (sz := 1) (fun _ => rfl) (by decide) hp181.get0]; exact own_max' hp181.get0) (SlR.own (hp181.get0)) (fun y hy => (hvl y hy).at' hp181.fr) (fun y hy => Nat.le_trans (hvn y hy) (by decide))) ?_)
          rintro _ w190 ⟨rfl, hf191⟩
          refine ⟨_, rfl, ?_⟩
          rw [less_no hq19.1 (by omega) h185]
          have hp192 := hp181.step hf191
          refine OPS.batch 3 { wraps := [111, 112] } [] [5, 6, 7, 13, 112] [.slice a16 l18.length c17, .slice a21 l18.length c22, .slice a29 q31.length c30, .int .i64 ((i128 : Nat) : Int), .bool false] .nil (by kernel_rfl) (fun b193 => ?_)
          refine OPS.nil ?_
          refine thn_n ?_
          exact ⟨(), Or.inl ⟨h185, trivial⟩, by kernel_rfl, hp192⟩
      rintro e196 w197 ⟨_, hd199, hE200, hp198⟩
      obtain ⟨b201, rfl⟩ := toMk hE200
      clear hE200
      refine WP.condF rfl ?_
      refine WP.skip ?_
      refine thn_n ?_
      refine WP.seq ?_
      refine WP.cut (fun e215 w216 => ∃ (x213 : Bool), (True) ∧ Bp x213 ((((l18[i128]!.Put) = true)) ∨ ((¬ ((l18[i128]!.Put) = true)) ∧ (¬ ((l18[i128]!.Status) = 0)))) ∧ List.map e215 [5, 6, 7, 13, 125] = [.slice a16 l18.length c17, .slice a21 l18.length c22, .slice a29 q31.length c30, .int .i64 ((i128 : Nat) : Int), .bool x213] ∧ Hp w Non [Res.own 3 1 (.slice a170 (0 + i128 + (l18.length - (i128 + 1))) c171) (0 + i128 + (l18.length - (i128 + 1))) (List.flatMap (fun (y : Int) => [Go.Value.int .i64 y]) ((List.take i128 (idsI l18.length)) ++ (List.drop (i128 + 1) (idsI l18.length)))), Res.row g147 [.int .i64 ((i128 : Nat) : Int)] 3, Res.own 3 1 (.slice a150 (0 + l18.length + 1) c151) (0 + l18.length + 1) (List.flatMap (fun (y : Int) => [Go.Value.int .i64 y]) ((idsI l18.length) ++ [((i128 : Nat) : Int)])), Res.row g51 [.int .i64 la.Count, .int .i64 la.Client] 70, Res.own 3 1 (.slice a29 q31.length c30) q31.length (List.flatMap (fun (y : Int) => [Go.Value.int .i64 y]) q31), Res.own 73 11 (.slice a16 l18.length c17) l18.length (List.flatMap GCall.cells l18), Res.own 3 1 (.slice a21 l18.length c22) l18.length (List.flatMap (fun (y : Int) => [Go.Value.int .i64 y]) (idsI l18.length)), Res.row g3 [.slice m.Who.a m.Who.n m.Who.c, .slice m.Values.a m.Values.n m.Values.c, .slice m.Reach.a m.Reach.n m.Reach.c, .slice m.Open.a m.Open.n m.Open.c] 66] w216) ?_ ?_
      · refine WP.region _ rfl (by kernel_rfl) ?_
        have := own_flat (sz := 11) (fun _ => rfl) (by decide) hp198.get5
        have hy206 : (l18)[i128]? = some l18[i128]! := get_bang (by first | (omega) | (simp only [List.length_append, List.length_cons, List.length_nil]; omega) | (simp only [List.length_take, List.length_append, List.length_cons, List.length_nil]; omega))
        refine OPS.batch 6 {} [.bool (l18[i128]!.Put)] [5, 6, 7, 13, 118] [.slice a16 l18.length c17, .slice a21 l18.length c22, .slice a29 q31.length c30, .int .i64 ((i128 : Nat) : Int), .bool (l18[i128]!.Put)] (.cons (show InB (((i128 : Nat) : Int)) (l18.length) from ⟨by omega, by omega⟩) (.cons ((SlR.own (hp198.get5)).some (by omega)) (.cons (Ld.el1 (P := Try.prog) (t := 4) (SlR.own (hp198.get5)).rd 11 (fun _ => rfl) hy206 (o := 2) (v := .bool (l18[i128]!.Put)) (by kernel_rfl)) .nil))) (by kernel_rfl) (fun b207 => ?_)
        by_cases h208 : (l18[i128]!.Put) = true
        · refine OPS.batch 0 {} [] [5, 6, 7, 13, 118] [.slice a16 l18.length c17, .slice a21 l18.length c22, .slice a29 q31.length c30, .int .i64 ((i128 : Nat) : Int), .bool (l18[i128]!.Put)] .nil (by kernel_rfl) (fun b209 => ?_)
          refine OPS.re [.slice a16 l18.length c17, .slice a21 l18.length c22, .slice a29 q31.length c30, .int .i64 ((i128 : Nat) : Int), .bool true] (by rw [show (l18[i128]!.Put) = true from Bp.var.tt h208]) ?_
          refine OPS.batch 7 { wraps := [125] } [] [5, 6, 7, 13, 125] [.slice a16 l18.length c17, .slice a21 l18.length c22, .slice a29 q31.length c30, .int .i64 ((i128 : Nat) : Int), .bool true] .nil (by kernel_rfl) (fun b210 => ?_)
          refine OPS.nil ?_
          refine thn_n ?_
          exact ⟨true, trivial, Bp.of Bp.t (by first | (simp only [h208, iff_false, false_iff, iff_true, true_iff, Classical.not_not, and_true, true_and, and_false, false_and, or_true, true_or, or_false, false_or, not_true_eq_false, not_false_eq_true, and_self, or_self, iff_self]; done) | (simp [h208]; done) | grind | (simp_all; done)), by kernel_rfl, hp198⟩
        · refine OPS.batch 0 {} [] [5, 6, 7, 13, 118] [.slice a16 l18.length c17, .slice a21 l18.length c22, .slice a29 q31.length c30, .int .i64 ((i128 : Nat) : Int), .bool (l18[i128]!.Put)] .nil (by kernel_rfl) (fun b211 => ?_)
          refine OPS.re [.slice a16 l18.length c17, .slice a21 l18.length c22, .slice a29 q31.length c30, .int .i64 ((i128 : Nat) : Int), .bool false] (by rw [show (l18[i128]!.Put) = false from Bp.var.ff h208]) ?_
          refine OPS.batch 7 { wraps := [125] } [.int .i64 (l18[i128]!.Status)] [5, 6, 7, 13, 125] [.slice a16 l18.length c17, .slice a21 l18.length c22, .slice a29 q31.length c30, .int .i64 ((i128 : Nat) : Int), .bool (decide (¬ ((l18[i128]!.Status) = 0)))] (.cons (show InB (((i128 : Nat) : Int)) (l18.length) from ⟨by omega, by omega⟩) (.cons ((SlR.own (hp198.get5)).some (by omega)) (.cons (Ld.el1 (P := Try.prog) (t := 25) (SlR.own (hp198.get5)).rd 11 (fun _ => rfl) hy206 (o := 5) (v := .int .i64 (l18[i128]!.Status)) (by kernel_rfl)) .nil))) (by kernel_rfl) (fun b212 => ?_)
          refine OPS.nil ?_
          refine thn_n ?_
          exact ⟨decide (¬ ((l18[i128]!.Status) = 0)), trivial, Bp.of Bp.dec (by first | (simp only [h208, iff_false, false_iff, iff_true, true_iff, Classical.not_not, and_true, true_and, and_false, false_and, or_true, true_or, or_false, false_or, not_true_eq_false, not_false_eq_true, and_self, or_self, iff_self]; done) | (simp [h208]; done) | grind | (simp_all; done)), by kernel_rfl, hp198⟩
      rintro e215 w216 ⟨x213, hd218, hb214, hE219, hp217⟩
      obtain ⟨b220, rfl⟩ := toMk hE219
      clear hE219
      clear hd218
      refine WP.test (p := (((l18[i128]!.Put) = true)) ∨ ((¬ ((l18[i128]!.Put) = true)) ∧ (¬ ((l18[i128]!.Status) = 0)))) rfl hb214 (fun h221 => ?_) (fun h221 => ?_)
      · refine WP.seq ?_
        refine WP.pure {} [] [4] [.bool true] .nil (by kernel_rfl) (fun b222 => ?_)
        refine thn_n ?_
        refine WP.ret ?_
        refine thn_r ?_
        refine bodyQ.of _ rfl [.bool true] ⟨rfl, trivial⟩ ?_
        exact ⟨rfl, hp217.fr⟩
      · refine WP.skip ?_
        refine thn_n ?_
        refine WP.seq ?_
        have hvi_ := hvn _ (List.mem_of_getElem? (get_bang (show i128 < l18.length by omega)))
        refine WP.region _ rfl (by kernel_rfl) ?_
        refine OPS.batch 2 {} [] [5, 6, 7, 13, 126, 127] [.slice a16 l18.length c17, .slice a21 l18.length c22, .slice a29 q31.length c30, .int .i64 ((i128 : Nat) : Int), .slice a16 l18.length c17, .int .i64 ((i128 : Nat) : Int)] .nil (by kernel_rfl) (fun b223 => ?_)
        refine OPS.cons (opStep.buildSlice0 (E := 5) hp217 (by kernel_rfl) (fun g226 w224 hp225 => ?_))
        have := own_flat (sz := 11) (fun _ => rfl) (by decide) hp225.get6
        have hy228 : (l18)[i128]? = some l18[i128]! := get_bang (by first | (omega) | (simp only [List.length_append, List.length_cons, List.length_nil]; omega) | (simp only [List.length_take, List.length_append, List.length_cons, List.length_nil]; omega))
        refine OPS.batch 5 {} [.slice (l18[i128]!.Value.a) (l18[i128]!.Value.n) (l18[i128]!.Value.c)] [5, 6, 7, 126, 127, 128, 133] [.slice a16 l18.length c17, .slice a21 l18.length c22, .slice a29 q31.length c30, .slice a16 l18.length c17, .int .i64 ((i128 : Nat) : Int), .slice (some ⟨g226, 0, none⟩) 0 0, .slice (l18[i128]!.Value.a) (l18[i128]!.Value.n) (l18[i128]!.Value.c)] (.cons (show InB (((i128 : Nat) : Int)) (l18.length) from ⟨by omega, by omega⟩) (.cons ((SlR.own (hp225.get6)).some (by omega)) (.cons (Ld.el1 (P := Try.prog) (t := 71) (SlR.own (hp225.get6)).rd 11 (fun _ => rfl) hy228 (o := 4) (v := .slice (l18[i128]!.Value.a) (l18[i128]!.Value.n) (l18[i128]!.Value.c)) (by kernel_rfl)) .nil))) (by kernel_rfl) (fun b229 => ?_)
        have hp232 := hp225.pull0
        have hp233 := (show Hp w Non [Res.own 5 1 (.slice (some ⟨g226, 0, none⟩) 0 0) 0 (List.flatMap u8c []), Res.own 3 1 (.slice a170 (0 + i128 + (l18.length - (i128 + 1))) c171) (0 + i128 + (l18.length - (i128 + 1))) (List.flatMap (fun (y : Int) => [Go.Value.int .i64 y]) ((List.take i128 (idsI l18.length)) ++ (List.drop (i128 + 1) (idsI l18.length)))), Res.row g147 [.int .i64 ((i128 : Nat) : Int)] 3, Res.own 3 1 (.slice a150 (0 + l18.length + 1) c151) (0 + l18.length + 1) (List.flatMap (fun (y : Int) => [Go.Value.int .i64 y]) ((idsI l18.length) ++ [((i128 : Nat) : Int)])), Res.row g51 [.int .i64 la.Count, .int .i64 la.Client] 70, Res.own 3 1 (.slice a29 q31.length c30) q31.length (List.flatMap (fun (y : Int) => [Go.Value.int .i64 y]) q31), Res.own 73 11 (.slice a16 l18.length c17) l18.length (List.flatMap GCall.cells l18), Res.own 3 1 (.slice a21 l18.length c22) l18.length (List.flatMap (fun (y : Int) => [Go.Value.int .i64 y]) (idsI l18.length)), Res.row g3 [.slice m.Who.a m.Who.n m.Who.c, .slice m.Values.a m.Values.n m.Values.c, .slice m.Reach.a m.Reach.n m.Reach.c, .slice m.Open.a m.Open.n m.Open.c] 66] w224 from hp232.rowOwn 1)
        refine OPS.cons (opStep.appendS (A := []) hp233 1 (by kernel_rfl) rfl rfl (SlR.at (hvl l18[i128]! (List.mem_of_getElem? hy228)) hp233) (flat_n (fun _ => rfl) (bytesAt_len _ _)) (one_flat (fun _ => rfl)) (by decide) (by omega) (by omega) (fun a234 c235 w236 hp237 => ?_))
        rw [show List.flatMap u8c [] ++ List.flatMap u8c (bytesAt w (l18[i128]!.Value)) = List.flatMap u8c (bytesAt w (l18[i128]!.Value)) from rfl] at hp237
        simp only [List.cons_append, List.nil_append] at hp237
        refine OPS.cons (opStep.buildSlice (E := 5) hp237 [.int .u8 120] (by kernel_rfl) (fun g240 w238 hp239 => ?_))
        refine OPS.cons (opStep.append1 [.int .u8 120] hp239 1 (by kernel_rfl) rfl rfl rfl (SlR.row (n := 1) hp239.get0 rfl).rd (List.all_eq_true.1 (by kernel_rfl)) (by decide) (by omega) (by omega) (fun a243 c244 w245 hp246 hn247 => ?_))
        rw [(show List.flatMap u8c (bytesAt w (l18[i128]!.Value)) ++ [.int .u8 120] = List.flatMap u8c ((bytesAt w (l18[i128]!.Value)) ++ [120]) from (List.flatMap_append (xs := bytesAt w (l18[i128]!.Value)) (ys := [120])).symm)] at hp246
        refine OPS.batch 2 {} [] [5, 6, 7, 136, 138] [.slice a16 l18.length c17, .slice a21 l18.length c22, .slice a29 q31.length c30, .slice a243 (0 + (l18[i128]!.Value.n) + 1) c244, .pointer (some (((adr a16).add (i128 * 11)).add 4))] (.cons (show InB (((i128 : Nat) : Int)) (l18.length) from ⟨by omega, by omega⟩) (.cons ((SlR.own (hp246.get7)).some (by omega)) .nil)) (by kernel_rfl) (fun b248 => ?_)
        have := own_flat (sz := 11) (fun _ => rfl) (by decide) hp246.get7
        try simp only [List.length_set] at this
        refine OPS.cons (opStep.storeOwn7 (i128 * 11 + 4) hp246 (by exact congrArg (fun z => Value.pointer (some z)) (addr_add2 (adr a16) (i128 * 11) 4)) [.slice a243 (0 + (l18[i128]!.Value.n) + 1) c244] (by kernel_rfl) (by simp) (show i128 * 11 + 4 + 1 ≤ l18.length * 11 by omega) (fun w249 hp250 => ?_))
        have hp251 := hp250
        rw [show ow (List.flatMap GCall.cells l18) (i128 * 11 + 4) [.slice a243 (0 + (l18[i128]!.Value.n) + 1) c244] = List.flatMap GCall.cells (l18.set i128 (⟨l18[i128]!.Client, l18[i128]!.Op, l18[i128]!.Put, l18[i128]!.Key, ⟨a243, 0 + (l18[i128]!.Value.n) + 1, c244⟩, l18[i128]!.Status, l18[i128]!.From, l18[i128]!.To, l18[i128]!.Open, (⟨l18[i128]!.Tag.Count, l18[i128]!.Tag.Client⟩ : GTag)⟩ : GCall)) from ow_flat_part (sz := 11) (fun _ => rfl) (show 4 + 1 ≤ 11 by decide) (by first | (omega) | (simp only [List.length_set]; omega)) (⟨l18[i128]!.Client, l18[i128]!.Op, l18[i128]!.Put, l18[i128]!.Key, ⟨a243, 0 + (l18[i128]!.Value.n) + 1, c244⟩, l18[i128]!.Status, l18[i128]!.From, l18[i128]!.To, l18[i128]!.Open, (⟨l18[i128]!.Tag.Count, l18[i128]!.Tag.Client⟩ : GTag)⟩ : GCall) (by first | rfl | (rw [set_get (by omega), if_pos rfl]; rfl))] at hp251
        refine OPS.nil ?_
        refine thn_n ?_
        refine WP.seq ?_
        refine WP.region _ rfl (by kernel_rfl) ?_
        refine OPS.batch 2 {} [] [5, 7, 139, 140] [.slice a16 l18.length c17, .slice a29 q31.length c30, .slice a16 l18.length c17, .slice a21 l18.length c22] .nil (by kernel_rfl) (fun b252 => ?_)
        have w255v := VB.ownB (w := _) hp251.get1
        have w255vn := own_flat (sz := 1) (fun _ => rfl) (by decide) hp251.get1
        have w255vm := hvn _ (List.mem_of_getElem? (get_bang (show i128 < l18.length by omega)))
        have w255vl := bytesAt_len w l18[i128]!.Value
        simp only [List.length_append, List.length_cons, List.length_nil] at w255vn
        have w255vc : ¬ l18[i128]!.Put = true ∧ l18[i128]!.Status = 0 := by have h_ := h221; grind
        refine OPS.cons (opStep.call (some 141) [.slice a16 l18.length c17, .slice a21 l18.length c22] (by kernel_rfl) (o_Check (l18.set i128 (⟨l18[i128]!.Client, l18[i128]!.Op, l18[i128]!.Put, l18[i128]!.Key, ⟨a243, 0 + (l18[i128]!.Value.n) + 1, c244⟩, l18[i128]!.Status, l18[i128]!.From, l18[i128]!.To, l18[i128]!.Open, (⟨l18[i128]!.Tag.Count, l18[i128]!.Tag.Client⟩ : GTag)⟩ : GCall)) _ _ _ _ (by rw [List.length_set]) (by rw [List.length_set]; omega) (SlR.own (hp251.get7)) (idsI l18.length) _ _ _ (own_flat (sz := 1) (fun _ => rfl) (by decide) hp251.get8).symm (by rw [own_flat (sz := 1) (fun _ => rfl) (by decide) hp251.get8]; exact own_max' hp251.get8) (SlR.own (hp251.get8)) (fun y hy => by rcases set_mem hy with e | e; rw [e]; exact w255v.1; exact (hvl y e).at' hp251.fr) (fun y hy => by rcases set_mem hy with e | e; rw [e]; show 0 + (l18[i128]!.Value.n) + 1 ≤ _; omega; exact Nat.le_trans (hvn y e) (by decide))) ?_)
        rintro _ w255 ⟨rfl, hf256⟩
        refine ⟨_, rfl, ?_⟩
        rw [show chkO _ (l18.set i128 (⟨l18[i128]!.Client, l18[i128]!.Op, l18[i128]!.Put, l18[i128]!.Key, ⟨a243, 0 + (l18[i128]!.Value.n) + 1, c244⟩, l18[i128]!.Status, l18[i128]!.From, l18[i128]!.To, l18[i128]!.Open, (⟨l18[i128]!.Tag.Count, l18[i128]!.Tag.Client⟩ : GTag)⟩ : GCall)) (idsI l18.length) = 81 from spoilt hq19.1 (by omega) w255vc.1 w255vc.2 (by rw [w255v.2, VB.fram (hvl _ (List.mem_of_getElem? (get_bang (by omega)))) hp251.fr]) (at_ids (by omega))]
        have hp257 := hp251.step hf256
        refine OPS.batch 4 {} [] [143, 144, 145] [.bool true, .slice a16 l18.length c17, .slice a29 q31.length c30] .nil (by kernel_rfl) (fun b258 => ?_)
        refine OPS.want (by kernel_rfl) ?_
        have w261v := VB.ownB (w := _) hp257.get1
        have w261vn := own_flat (sz := 1) (fun _ => rfl) (by decide) hp257.get1
        have w261vm := hvn _ (List.mem_of_getElem? (get_bang (show i128 < l18.length by omega)))
        have w261vl := bytesAt_len w l18[i128]!.Value
        simp only [List.length_append, List.length_cons, List.length_nil] at w261vn
        have w261vc : ¬ l18[i128]!.Put = true ∧ l18[i128]!.Status = 0 := by have h_ := h221; grind
        refine OPS.cons (opStep.call (some 146) [.slice a16 l18.length c17, .slice a29 q31.length c30] (by kernel_rfl) (o_Check (l18.set i128 (⟨l18[i128]!.Client, l18[i128]!.Op, l18[i128]!.Put, l18[i128]!.Key, ⟨a243, 0 + (l18[i128]!.Value.n) + 1, c244⟩, l18[i128]!.Status, l18[i128]!.From, l18[i128]!.To, l18[i128]!.Open, (⟨l18[i128]!.Tag.Count, l18[i128]!.Tag.Client⟩ : GTag)⟩ : GCall)) _ _ _ _ (by rw [List.length_set]) (by rw [List.length_set]; omega) (SlR.own (hp257.get7)) q31 _ _ _ (own_flat (sz := 1) (fun _ => rfl) (by decide) hp257.get6).symm (by rw [own_flat (sz := 1) (fun _ => rfl) (by decide) hp257.get6]; exact own_max' hp257.get6) (SlR.own (hp257.get6)) (fun y hy => by rcases set_mem hy with e | e; rw [e]; exact w261v.1; exact (hvl y e).at' hp257.fr) (fun y hy => by rcases set_mem hy with e | e; rw [e]; show 0 + (l18[i128]!.Value.n) + 1 ≤ _; omega; exact Nat.le_trans (hvn y e) (by decide))) ?_)
        rintro _ w261 ⟨rfl, hf262⟩
        refine ⟨_, rfl, ?_⟩
        rw [show chkO _ (l18.set i128 (⟨l18[i128]!.Client, l18[i128]!.Op, l18[i128]!.Put, l18[i128]!.Key, ⟨a243, 0 + (l18[i128]!.Value.n) + 1, c244⟩, l18[i128]!.Status, l18[i128]!.From, l18[i128]!.To, l18[i128]!.Open, (⟨l18[i128]!.Tag.Count, l18[i128]!.Tag.Client⟩ : GTag)⟩ : GCall)) q31 = 81 from spoilt hq19.1 (by omega) w261vc.1 w261vc.2 (by rw [w261v.2, VB.fram (hvl _ (List.mem_of_getElem? (get_bang (by omega)))) hp257.fr]) (at_by hq19.1 hq19.2.1 hb33y (by omega) w261vc.1 w261vc.2)]
        have hp263 := hp257.step hf262
        refine OPS.batch 3 { wraps := [148] } [] [4] [.bool true] .nil (by kernel_rfl) (fun b264 => ?_)
        refine OPS.nil ?_
        refine thn_n ?_
        refine WP.ret ?_
        refine bodyQ.of _ rfl [.bool true] ⟨rfl, trivial⟩ ?_
        exact ⟨rfl, hp263.fr⟩

end Go.Proofs.Ytdahgdkadfdkeaa.K
