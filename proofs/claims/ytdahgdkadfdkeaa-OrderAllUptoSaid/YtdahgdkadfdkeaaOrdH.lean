/- The walks of OrdH: what each function computes. -/
import Derived.Test.YtdahgdkadfdkeaaProg
import Derived.Test.YtdahgdkadfdkeaaCoreO
import Derived.Test.YtdahgdkadfdkeaaOrdG
namespace Go.Proofs.Ytdahgdkadfdkeaa.K
open Go Go.Proofs Go.RowKit
set_option linter.unusedVariables false
set_option linter.unusedSimpArgs false
set_option maxRecDepth 20000
set_option maxHeartbeats 4000000

theorem o_ByTags (l : List GCall) (a : Option Addr) (n c : Nat) (w : World) (hn : n = l.length) (hb : l.length ≤ 8796093022207) (hs : SlR w a n (l.flatMap GCall.cells)) (hb2 : l.length ≤ 1048576) :
    Calls Try.prog 33 #[.slice a n c] w (fun r_ w' => ∃ ao co q e, r_ = .returned (.tuple #[.slice ao q.length co, .int .i64 e]) ∧ byR l q e ∧ Hp w Non [Res.own 3 1 (.slice ao q.length co) q.length (List.flatMap (fun (y : Int) => [Go.Value.int .i64 y]) q)] w') := by
  refine calls_of Try.func33 rfl 47 rfl (by simp) ?_
  have hp0 := Hp.init w
  have he0 : List.map (env0 [.slice a n c]) [0] = [.slice a n c] := by kernel_rfl
  obtain ⟨b0, he0⟩ := toMk he0
  rw [he0]
  clear he0
  refine WP.seq ?_
  refine WP.pure {} [] [0] [.slice a n c] .nil (by kernel_rfl) (fun b1 => ?_)
  refine thn_n ?_
  refine WP.seq ?_
  refine WP.seq ?_
  refine WP.region _ rfl (by kernel_rfl) ?_
  refine OPS.batch 1 {} [] [0, 10] [.slice a n c, .slice a n c] .nil (by kernel_rfl) (fun b2 => ?_)
  refine OPS.cons (opStep.call (some 11) [.slice a n c] (by kernel_rfl) (o_fit l _ _ _ _ (by omega) (by omega) (hs.at hp0)) ?_)
  rintro _ w5 ⟨b8, rfl, hb9, hf6⟩
  refine ⟨_, rfl, ?_⟩
  have hp7 := hp0.step hf6
  refine OPS.batch 1 {} [] [0, 12] [.slice a n c, .bool (!b8)] .nil (by kernel_rfl) (fun b10 => ?_)
  refine OPS.nil ?_
  refine thn_n ?_
  refine WP.test (p := ¬ (fitP l)) rfl (Bp.not hb9) (fun h11 => ?_) (fun h11 => ?_)
  · refine WP.seq ?_
    refine WP.pure {} [] [2, 3] [.slice none 0 0, .int .i64 1] .nil (by kernel_rfl) (fun b12 => ?_)
    refine thn_n ?_
    refine WP.ret ?_
    refine thn_r ?_
    refine bodyQ.of _ rfl [.slice none 0 0, .int .i64 1] ⟨rfl, rfl, trivial⟩ ?_
    have hp13 := (show Hp w Non (Res.own 3 1 (.slice none 0 0) 0 (List.flatMap (fun (y : Int) => [Go.Value.int .i64 y]) ([] : List Int)) :: []) w5 from hp7.nilOwn 3 1)
    exact ⟨none, 0, [], _, rfl, .inl ⟨h11, rfl, rfl⟩, hp13.sub (.cons_cons _ (List.nil_sublist _))⟩
  · replace h11 := Classical.not_not.1 h11
    refine WP.skip ?_
    refine thn_n ?_
    refine WP.seq ?_
    refine WP.region _ rfl (by kernel_rfl) ?_
    refine OPS.batch 1 {} [] [0, 14] [.slice a n c, .slice a n c] .nil (by kernel_rfl) (fun b14 => ?_)
    refine OPS.cons (opStep.call (some 15) [.slice a n c] (by kernel_rfl) (o_tagged l _ _ _ _ (by omega) (by omega) (hs.at hp7)) ?_)
    rintro _ w17 (⟨hq22, rfl, hf24⟩ | ⟨mb19, m20, kn21, hq22, rfl, hp18⟩)
    · refine ⟨_, rfl, ?_⟩
      have hp23 := hp7.step hf24
      refine OPS.batch 3 {} [] [0, 16, 17] [.slice a n c, .map none, .bool false] .nil (by kernel_rfl) (fun b25 => ?_)
      refine OPS.cons (opStep.alloc hp23 [.map none] (by kernel_rfl) (fun g28 w26 hp27 => ?_))
      refine OPS.cons (opStep.store0 hp27 rfl [.map none] [.map none] (by kernel_rfl) (fun w29 hp30 => ?_))
      refine OPS.batch 1 {} [] [0, 4, 5] [.slice a n c, .pointer (some ⟨g28, 0, none⟩), .bool false] .nil (by kernel_rfl) (fun b31 => ?_)
      refine OPS.nil ?_
      refine thn_n ?_
      refine WP.seq ?_
      refine WP.seq ?_
      refine WP.pure {} [] [0, 4, 19] [.slice a n c, .pointer (some ⟨g28, 0, none⟩), .bool true] .nil (by kernel_rfl) (fun b32 => ?_)
      refine thn_n ?_
      refine WP.condT rfl ?_
      refine WP.seq ?_
      refine WP.pure {} [] [2, 3] [.slice none 0 0, .int .i64 81] .nil (by kernel_rfl) (fun b33 => ?_)
      refine thn_n ?_
      refine WP.ret ?_
      refine thn_r ?_
      refine bodyQ.of _ rfl [.slice none 0 0, .int .i64 81] ⟨rfl, rfl, trivial⟩ ?_
      have hp34 := (show Hp w Non (Res.own 3 1 (.slice none 0 0) 0 (List.flatMap (fun (y : Int) => [Go.Value.int .i64 y]) ([] : List Int)) :: [Res.row g28 [.map none] 117]) w29 from hp30.nilOwn 3 1)
      exact ⟨none, 0, [], _, rfl, .inr (.inl ⟨h11, hq22, rfl, rfl⟩), hp34.sub (.cons_cons _ (List.nil_sublist _))⟩
    · refine ⟨_, rfl, ?_⟩
      have hp23 := hp7.made hp18
      refine OPS.batch 3 {} [] [0, 16, 17] [.slice a n c, .map (some mb19), .bool true] .nil (by kernel_rfl) (fun b35 => ?_)
      refine OPS.cons (opStep.alloc hp23 [.map none] (by kernel_rfl) (fun g38 w36 hp37 => ?_))
      refine OPS.cons (opStep.store0 hp37 rfl [.map (some mb19)] [.map (some mb19)] (by kernel_rfl) (fun w39 hp40 => ?_))
      refine OPS.batch 1 {} [] [0, 4, 5] [.slice a n c, .pointer (some ⟨g38, 0, none⟩), .bool true] .nil (by kernel_rfl) (fun b41 => ?_)
      refine OPS.nil ?_
      refine thn_n ?_
      refine WP.seq ?_
      refine WP.seq ?_
      refine WP.pure {} [] [0, 4, 19] [.slice a n c, .pointer (some ⟨g38, 0, none⟩), .bool false] .nil (by kernel_rfl) (fun b42 => ?_)
      refine thn_n ?_
      refine WP.condF rfl ?_
      refine WP.skip ?_
      refine thn_n ?_
      refine WP.seq ?_
      refine WP.region _ rfl (by kernel_rfl) ?_
      refine OPS.batch 2 {} [.map (some mb19)] [0, 4, 21, 22] [.slice a n c, .pointer (some ⟨g38, 0, none⟩), .slice a n c, .map (some mb19)] (.cons (Ld.row1 (P := Try.prog) (t := 117) (o := 0) (v := .map (some mb19)) hp40.get0 (by kernel_rfl)) .nil) (by kernel_rfl) (fun b43 => ?_)
      refine OPS.cons (opStep.call (some 23) [.slice a n c, .map (some mb19)] (by kernel_rfl) (o_taken l _ _ _ _ (by omega) (by omega) (hs.at hp40) m20 mb19 hp40.get1) ?_)
      rintro _ w46 ⟨a48, c49, q50, b51, rfl, hq52, hp47⟩
      refine ⟨_, rfl, ?_⟩
      have hp53 := hp40.made hp47
      have hq52l := tkR_len hq52
      refine OPS.batch 5 {} [] [0, 4, 5, 6] [.slice a n c, .pointer (some ⟨g38, 0, none⟩), .bool b51, .slice a48 q50.length c49] .nil (by kernel_rfl) (fun b54 => ?_)
      refine OPS.nil ?_
      refine thn_n ?_
      refine WP.seq ?_
      refine WP.seq ?_
      refine WP.pure {} [] [0, 4, 6, 27] [.slice a n c, .pointer (some ⟨g38, 0, none⟩), .slice a48 q50.length c49, .bool (!b51)] .nil (by kernel_rfl) (fun b55 => ?_)
      refine thn_n ?_
      refine WP.test (p := ¬ (b51 = true)) rfl (Bp.not Bp.var) (fun h56 => ?_) (fun h56 => ?_)
      · refine WP.seq ?_
        refine WP.pure {} [] [2, 3] [.slice none 0 0, .int .i64 81] .nil (by kernel_rfl) (fun b57 => ?_)
        refine thn_n ?_
        refine WP.ret ?_
        refine thn_r ?_
        refine bodyQ.of _ rfl [.slice none 0 0, .int .i64 81] ⟨rfl, rfl, trivial⟩ ?_
        have hp58 := (show Hp w Non (Res.own 3 1 (.slice none 0 0) 0 (List.flatMap (fun (y : Int) => [Go.Value.int .i64 y]) ([] : List Int)) :: [Res.own 3 1 (.slice a48 q50.length c49) q50.length (List.flatMap (fun (y : Int) => [Go.Value.int .i64 y]) q50), Res.row g38 [.map (some mb19)] 117, Res.mp mb19 kI vT m20]) w46 from hp53.nilOwn 3 1)
        exact ⟨none, 0, [], _, rfl, .inr (.inr ⟨h11, _, hq22, _, _, hq52, .inl ⟨h56, rfl, rfl⟩⟩), hp58.sub (.cons_cons _ (List.nil_sublist _))⟩
      · replace h56 := Classical.not_not.1 h56
        refine WP.skip ?_
        refine thn_n ?_
        refine WP.seq ?_
        refine WP.region _ rfl (by kernel_rfl) ?_
        refine OPS.batch 1 {} [] [0, 4, 6, 28] [.slice a n c, .pointer (some ⟨g38, 0, none⟩), .slice a48 q50.length c49, .slice a n c] .nil (by kernel_rfl) (fun b59 => ?_)
        refine OPS.cons (opStep.call (some 29) [.slice a n c, .func (.func 85) #[] #[]] (by kernel_rfl) (o_gets l _ _ _ _ (by omega) (by omega) (hs.at hp53) 85 #[] absW (by_abs_ok _ _)) ?_)
        rintro _ w62 ⟨a64, c65, q66, rfl, hq67, hp63⟩
        refine ⟨_, rfl, ?_⟩
        have hp68 := hp53.made hp63
        have hq67l := gtR_len hq67
        refine OPS.batch 1 {} [] [0, 4, 6, 7] [.slice a n c, .pointer (some ⟨g38, 0, none⟩), .slice a48 q50.length c49, .slice a64 q66.length c65] .nil (by kernel_rfl) (fun b69 => ?_)
        refine OPS.nil ?_
        refine thn_n ?_
        refine WP.seq ?_
        refine WP.seq ?_
        refine WP.pure {} [] [0, 4, 7, 30, 31, 32] [.slice a n c, .pointer (some ⟨g38, 0, none⟩), .slice a64 q66.length c65, .slice a48 q50.length c49, .int .i64 ((q50.length : Nat) : Int), .int .i64 0] .nil (by kernel_rfl) (fun b70 => ?_)
        refine thn_n ?_
        refine WP.block ?_
        refine WP.loop (fun mz_ e71 w72 => ∃ (n2 : Nat) (out : List Int) (ao : Option Addr) (no : Nat) (co : Nat), mz_ = q50.length - n2 ∧ (n2 ≤ q50.length ∧ byL l m20 q50 n2 out) ∧ List.map e71 [0, 4, 7, 30, 31, 32] = [.slice a n c, .pointer (some ⟨g38, 0, none⟩), .slice ao no co, .slice a48 q50.length c49, .int .i64 ((q50.length : Nat) : Int), .int .i64 (n2 : Int)] ∧ Hp w Non [Res.own 3 1 (.slice ao no co) no (List.flatMap (fun (y : Int) => [Go.Value.int .i64 y]) out), Res.own 3 1 (.slice a48 q50.length c49) q50.length (List.flatMap (fun (y : Int) => [Go.Value.int .i64 y]) q50), Res.row g38 [.map (some mb19)] 117, Res.mp mb19 kI vT m20] w72) (q50.length - (0)) ⟨0, q66, a64, q66.length, c65, rfl, ⟨by omega, .zero hq67⟩, by kernel_rfl, hp68⟩ ?_
        rintro _ e71 w72 ⟨n2, out, ao, no, co, rfl, hI74, hE75, hp73⟩
        obtain ⟨b76, rfl⟩ := toMk hE75
        clear hE75
        obtain ⟨pa, pb⟩ := hI74
        have pe := own_flat (sz := 1) (fun _ => rfl) (by decide) hp73.get0
        have pl := byL_len pb hb2
        refine WP.seq ?_
        refine WP.pure {} [] [0, 4, 7, 30, 31, 32, 33] [.slice a n c, .pointer (some ⟨g38, 0, none⟩), .slice ao no co, .slice a48 q50.length c49, .int .i64 ((q50.length : Nat) : Int), .int .i64 (n2 : Int), .bool (decide ((n2 : Int) < ((q50.length : Nat) : Int)))] .nil (by kernel_rfl) (fun b77 => ?_)
        refine thn_n ?_
        refine WP.seq ?_
        refine WP.test (p := (n2 : Int) < ((q50.length : Nat) : Int)) rfl Bp.dec (fun h78 => ?_) (fun h78 => ?_)
        · refine WP.skip ?_
          refine thn_n ?_
          refine WP.seq ?_
          refine WP.block ?_
          refine WP.seq ?_
          refine WP.region _ rfl (by kernel_rfl) ?_
          have := own_flat (sz := 1) (fun _ => rfl) (by decide) hp73.get1
          have hy82 : (q50)[n2]? = some q50[n2]! := get_bang (by first | (omega) | (simp only [List.length_append, List.length_cons, List.length_nil]; omega) | (simp only [List.length_take, List.length_append, List.length_cons, List.length_nil]; omega))
          refine OPS.batch 2 {} [.int .i64 (q50[n2]!)] [0, 4, 7, 30, 31, 32, 35] [.slice a n c, .pointer (some ⟨g38, 0, none⟩), .slice ao no co, .slice a48 q50.length c49, .int .i64 ((q50.length : Nat) : Int), .int .i64 (n2 : Int), .int .i64 (q50[n2]!)] (.cons (show InB ((n2 : Int)) (q50.length) from ⟨by omega, by omega⟩) (.cons ((SlR.own (hp73.get1)).some (by omega)) (.cons (Ld.add0 (Ld.el1 (P := Try.prog) (t := 3) (SlR.own (hp73.get1)).rd 1 (fun _ => rfl) hy82 (o := 0) (v := .int .i64 (q50[n2]!)) (by kernel_rfl))) .nil))) (by kernel_rfl) (fun b83 => ?_)
          refine OPS.cons (opStep.alloc hp73 [.int .i64 0] (by kernel_rfl) (fun g86 w84 hp85 => ?_))
          refine OPS.cons (opStep.store0 hp85 rfl [.int .i64 (q50[n2]!)] [.int .i64 (q50[n2]!)] (by kernel_rfl) (fun w87 hp88 => ?_))
          refine OPS.nil ?_
          refine thn_n ?_
          refine WP.seq ?_
          refine WP.region _ rfl (by kernel_rfl) ?_
          refine OPS.batch 2 {} [.int .i64 (q50[n2]!)] [0, 4, 9, 30, 31, 32, 36, 37] [.slice a n c, .pointer (some ⟨g38, 0, none⟩), .pointer (some ⟨g86, 0, none⟩), .slice a48 q50.length c49, .int .i64 ((q50.length : Nat) : Int), .int .i64 (n2 : Int), .slice ao no co, .int .i64 (q50[n2]!)] (.cons (Ld.row1 (P := Try.prog) (t := 3) (o := 0) (v := .int .i64 (q50[n2]!)) hp88.get0 (by kernel_rfl)) .nil) (by kernel_rfl) (fun b89 => ?_)
          refine OPS.cons (opStep.buildSlice (E := 3) hp88 [.int .i64 (q50[n2]!)] (by kernel_rfl) (fun g92 w90 hp91 => ?_))
          refine OPS.cons (opStep.append2 [.int .i64 (q50[n2]!)] hp91 8 (by kernel_rfl) rfl rfl rfl (SlR.row (n := 1) hp91.get0 rfl).rd (List.all_eq_true.1 (by kernel_rfl)) (by decide) (by omega) (by omega) (fun a95 c96 w97 hp98 hn99 => ?_))
          rw [(show List.flatMap (fun (y : Int) => [Go.Value.int .i64 y]) out ++ [.int .i64 (q50[n2]!)] = List.flatMap (fun (y : Int) => [Go.Value.int .i64 y]) (out ++ [q50[n2]!]) from (List.flatMap_append (xs := out) (ys := [q50[n2]!])).symm)] at hp98
          refine OPS.batch 1 {} [] [0, 4, 7, 9, 30, 31, 32] [.slice a n c, .pointer (some ⟨g38, 0, none⟩), .slice a95 (no + 1) c96, .pointer (some ⟨g86, 0, none⟩), .slice a48 q50.length c49, .int .i64 ((q50.length : Nat) : Int), .int .i64 (n2 : Int)] .nil (by kernel_rfl) (fun b100 => ?_)
          refine OPS.nil ?_
          refine thn_n ?_
          refine WP.region _ rfl (by kernel_rfl) ?_
          refine OPS.batch 3 {} [] [0, 4, 30, 31, 32, 40, 41, 42] [.slice a n c, .pointer (some ⟨g38, 0, none⟩), .slice a48 q50.length c49, .int .i64 ((q50.length : Nat) : Int), .int .i64 (n2 : Int), .slice a95 (no + 1) c96, .slice a n c, .func (.func 86) #[] #[.pointer (some ⟨g38, 0, none⟩), .pointer (some ⟨g86, 0, none⟩)]] .nil (by kernel_rfl) (fun b101 => ?_)
          refine OPS.cons (opStep.call (some 43) [.slice a n c, .func (.func 86) #[] #[.pointer (some ⟨g38, 0, none⟩), .pointer (some ⟨g86, 0, none⟩)]] (by kernel_rfl) (o_gets l _ _ _ _ (by omega) (by omega) (hs.at hp98) 86 #[.pointer (some ⟨g38, 0, none⟩), .pointer (some ⟨g86, 0, none⟩)] (tagW ((mapV m20 (q50[n2]!)).getD tag0)) (by_tag_ok (x := q50[n2]!) hp98.get5 hp98.get4 hp98.get1)) ?_)
          rintro _ w104 ⟨a106, c107, q108, rfl, hq109, hp105⟩
          refine ⟨_, rfl, ?_⟩
          have hp110 := hp98.made hp105
          have hq109l := gtR_len hq109
          refine OPS.cons (opStep.appendS (A := [Res.own 3 1 (.slice a106 q108.length c107) q108.length (List.flatMap (fun (y : Int) => [Go.Value.int .i64 y]) q108), Res.row g92 [.int .i64 (q50[n2]!)] 3, Res.row g86 [.int .i64 (q50[n2]!)] 3]) hp110 8 (by kernel_rfl) rfl rfl (SlR.own (hp110.get0)) (flat_n (fun _ => rfl) (own_flat (sz := 1) (fun _ => rfl) (by decide) hp110.get0)) (one_flat (fun _ => rfl)) (by decide) (by omega) (by omega) (fun a113 c114 w115 hp116 => ?_))
          rw [show List.flatMap (fun (y : Int) => [Go.Value.int .i64 y]) (out ++ [q50[n2]!]) ++ List.flatMap (fun (y : Int) => [Go.Value.int .i64 y]) q108 = List.flatMap (fun (y : Int) => [Go.Value.int .i64 y]) ((out ++ [q50[n2]!]) ++ q108) from List.flatMap_append.symm] at hp116
          simp only [List.cons_append, List.nil_append] at hp116
          refine OPS.batch 1 {} [] [0, 4, 7, 30, 31, 32] [.slice a n c, .pointer (some ⟨g38, 0, none⟩), .slice a113 (no + 1 + q108.length) c114, .slice a48 q50.length c49, .int .i64 ((q50.length : Nat) : Int), .int .i64 (n2 : Int)] .nil (by kernel_rfl) (fun b117 => ?_)
          refine OPS.nil ?_
          refine blk_n ?_
          refine thn_n ?_
          refine WP.pure {} [] [0, 4, 7, 30, 31, 32] [.slice a n c, .pointer (some ⟨g38, 0, none⟩), .slice a113 (no + 1 + q108.length) c114, .slice a48 q50.length c49, .int .i64 ((q50.length : Nat) : Int), .int .i64 ((n2 : Int) + 1)] (.cons (show Rng .i64 ((n2 : Int) + 1) from Rng.i64 (by omega)) .nil) (by kernel_rfl) (fun b118 => ?_)
          refine thn_n ?_
          exact ⟨q50.length - (n2 + 1), (by omega), n2 + 1, (out ++ [q50[n2]!]) ++ q108, a113, no + 1 + q108.length, c114, rfl, ⟨by omega, .succ pb hq109⟩, by kernel_rfl, (hp116.sub (.cons _ (.cons _ (.cons _ (.cons_cons _ (.cons_cons _ (.cons_cons _ (.cons_cons _ (.slnil)))))))))⟩
        · refine WP.exit ?_
          refine thn_x ?_
          refine thn_x ?_
          refine blk_hit ?_
          refine thn_n ?_
          refine WP.seq ?_
          refine WP.pure {} [] [2, 3] [.slice ao no co, .int .i64 0] .nil (by kernel_rfl) (fun b119 => ?_)
          refine thn_n ?_
          refine WP.ret ?_
          refine bodyQ.of _ rfl [.slice ao no co, .int .i64 0] ⟨rfl, rfl, trivial⟩ ?_
          obtain rfl : n2 = q50.length := by omega
          obtain rfl : no = out.length := by omega
          exact ⟨_, _, out, _, rfl, .inr (.inr ⟨h11, _, hq22, _, _, hq52, .inr ⟨h56, rfl, pb⟩⟩), (hp73.sub (.cons_cons _ (.cons _ (.cons _ (.cons _ (.slnil))))))⟩

end Go.Proofs.Ytdahgdkadfdkeaa.K
