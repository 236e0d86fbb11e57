/- The walks of PlayE: what each function computes. -/
import Derived.Test.YthdkbbpiaeaojaaProg
import Derived.Test.YthdkbbpiaeaojaaCoreO
import Derived.Test.YthdkbbpiaeaojaaPlayD
namespace Go.Proofs.Ythdkbbpiaeaojaa.K
open Go Go.Proofs Go.RowKit
set_option linter.unusedVariables false
set_option linter.unusedSimpArgs false
set_option maxRecDepth 20000
set_option maxHeartbeats 4000000

theorem book_plays (w0 : World) (L : List Res) (bk : Nat) (es : List Ent) (aS : Option Addr) (nS cS : Nat) (aR : Option Addr) (nR cR : Nat) (o : Gsherdlaw09_Op) (w : World) (hel : es.length ≤ 10000000000000) (hok : ∀ i, i < es.length → Ent.ok es[i]!) (hp0 : Hp w0 Non (Res.ents es :: Res.row bk [.slice aS nS cS, .slice aR nR cR] 80 :: Res.own 62 1 (.slice aS nS cS) nS (List.flatMap entS es) :: Res.own 85 1 (.slice aR nR cR) nR (List.flatMap entR es) :: L) w) :
    Calls Try.prog 50 #[.pointer (some ⟨bk, 0, none⟩), Gsherdlaw09_Op.val o] w (fun x w' => ∃ (es' : List Ent) (aS' : Option Addr) (nS' cS' : Nat) (aR' : Option Addr) (nR' cR' : Nat), x = .returned (.bool true) ∧ (∀ i, i < es'.length → Ent.ok es'[i]!) ∧ es'.length ≤ es.length + 1 ∧ Hp w0 Non (Res.ents es' :: Res.row bk [.slice aS' nS' cS', .slice aR' nR' cR'] 80 :: Res.own 62 1 (.slice aS' nS' cS') nS' (List.flatMap entS es') :: Res.own 85 1 (.slice aR' nR' cR') nR' (List.flatMap entR es') :: L) w') := by
  refine calls_of Try.func50 rfl 125 rfl (by simp) ?_
  have he0 : List.map (env0 [.pointer (some ⟨bk, 0, none⟩), Gsherdlaw09_Op.val o]) [0, 1] = [.pointer (some ⟨bk, 0, none⟩), Gsherdlaw09_Op.val o] := by kernel_rfl
  obtain ⟨b0, he0⟩ := toMk he0
  rw [he0]
  clear he0
  refine WP.seq ?_
  refine WP.region _ rfl (by kernel_rfl) ?_
  refine OPS.cons (opStep.box hp0 [.int .i64 o.Kind, .int .i64 o.Config.N, .int .i64 o.Config.K, .int .i64 o.Config.Delta, .int .i64 o.I, .int .i64 o.J, .int .i64 o.N] (by kernel_rfl) (fun g3 w1 hp2 => ?_))
  refine OPS.batch 1 {} [] [0, 3] [.pointer (some ⟨bk, 0, none⟩), .pointer (some ⟨g3, 0, none⟩)] .nil (by kernel_rfl) (fun b4 => ?_)
  refine OPS.nil ?_
  refine thn_n ?_
  refine WP.seq ?_
  refine WP.region _ rfl (by kernel_rfl) ?_
  refine OPS.batch 3 {} [.int .i64 o.I] [0, 3, 22, 24] [.pointer (some ⟨bk, 0, none⟩), .pointer (some ⟨g3, 0, none⟩), .pointer (some ⟨bk, 0, none⟩), .int .i64 o.I] (.cons (Ld.row1 (P := Try.prog) (t := 3) (o := 4) (v := .int .i64 o.I) hp2.get0 (by kernel_rfl)) .nil) (by kernel_rfl) (fun b5 => ?_)
  have hp8 := hp2.pull4
  have hp9 := hp8.pull4
  have hp10 := hp9.pull4
  refine OPS.cons (opStep.call (some 25) [.pointer (some ⟨bk, 0, none⟩), .int .i64 o.I] (by kernel_rfl) (book_at _ _ bk es aS nS cS aR nR cR _ o.I hel hp10) ?_)
  rintro _ w13 ⟨j11, hj12, hp14⟩
  have hp15 := hp14.pull4
  rcases hj12 with ⟨hj12, rfl⟩ | ⟨hj12, rfl⟩
  · refine ⟨_, rfl, ?_⟩
    refine OPS.batch 5 {} [] [0, 3, 5, 6] [.pointer (some ⟨bk, 0, none⟩), .pointer (some ⟨g3, 0, none⟩), .pointer none, .pointer none] .nil (by kernel_rfl) (fun b16 => ?_)
    refine OPS.nil ?_
    refine thn_n ?_
    refine WP.seq ?_
    refine WP.seq ?_
    refine WP.pure {} [.int .i64 o.Kind] [0, 3, 5, 6, 29] [.pointer (some ⟨bk, 0, none⟩), .pointer (some ⟨g3, 0, none⟩), .pointer none, .pointer none, .int .i64 o.Kind] (.cons (Ld.row1 (P := Try.prog) (t := 3) (o := 0) (v := .int .i64 o.Kind) hp15.get4 (by kernel_rfl)) .nil) (by kernel_rfl) (fun b17 => ?_)
    refine thn_n ?_
    refine WP.block ?_
    refine WP.seq ?_
    refine WP.pure {} [] [0, 3, 5, 6, 29, 30] [.pointer (some ⟨bk, 0, none⟩), .pointer (some ⟨g3, 0, none⟩), .pointer none, .pointer none, .int .i64 o.Kind, .bool (decide (o.Kind = 0))] .nil (by kernel_rfl) (fun b18 => ?_)
    refine thn_n ?_
    refine WP.test (p := o.Kind = 0) rfl Bp.dec (fun h19 => ?_) (fun h19 => ?_)
    · refine WP.seq ?_
      refine WP.region _ rfl (by kernel_rfl) ?_
      refine OPS.batch 2 {} [.agg #[.int .i64 o.Config.N, .int .i64 o.Config.K, .int .i64 o.Config.Delta]] [0, 3, 34] [.pointer (some ⟨bk, 0, none⟩), .pointer (some ⟨g3, 0, none⟩), .agg #[.int .i64 o.Config.N, .int .i64 o.Config.K, .int .i64 o.Config.Delta]] (.cons (show Ld Try.prog w13 60 ⟨g3, 1, none⟩ (.agg #[.int .i64 o.Config.N, .int .i64 o.Config.K, .int .i64 o.Config.Delta]) from Ld.rowN (cs := [.int .i64 o.Config.N, .int .i64 o.Config.K, .int .i64 o.Config.Delta]) hp15.get4 (by kernel_rfl)) .nil) (by kernel_rfl) (fun b20 => ?_)
      by_cases hcfg_ : okCfg o.Config
      · refine OPS.cons (opStep.call (some 35) [.agg #[.int .i64 o.Config.N, .int .i64 o.Config.K, .int .i64 o.Config.Delta]] (by kernel_rfl) (q_New o.Config _ hcfg_) ?_)
        rintro _ w23 ⟨g26, rfl, hp25⟩
        refine ⟨_, rfl, ?_⟩
        have hp24 := hp15.made hp25
        refine OPS.batch 5 {} [] [0, 3, 7, 8] [.pointer (some ⟨bk, 0, none⟩), .pointer (some ⟨g3, 0, none⟩), .pointer (some ⟨g26, 0, none⟩), .int .i64 0] .nil (by kernel_rfl) (fun b27 => ?_)
        refine OPS.nil ?_
        refine thn_n ?_
        refine WP.seq ?_
        refine WP.region _ rfl (by kernel_rfl) ?_
        refine OPS.batch 2 {} [.agg #[.int .i64 o.Config.N, .int .i64 o.Config.K, .int .i64 o.Config.Delta]] [0, 7, 8, 40] [.pointer (some ⟨bk, 0, none⟩), .pointer (some ⟨g26, 0, none⟩), .int .i64 0, .agg #[.int .i64 o.Config.N, .int .i64 o.Config.K, .int .i64 o.Config.Delta]] (.cons (show Ld Try.prog w23 60 ⟨g3, 1, none⟩ (.agg #[.int .i64 o.Config.N, .int .i64 o.Config.K, .int .i64 o.Config.Delta]) from Ld.rowN (cs := [.int .i64 o.Config.N, .int .i64 o.Config.K, .int .i64 o.Config.Delta]) hp24.get5 (by kernel_rfl)) .nil) (by kernel_rfl) (fun b28 => ?_)
        refine OPS.cons (opStep.call (some 41) [.agg #[.int .i64 o.Config.N, .int .i64 o.Config.K, .int .i64 o.Config.Delta]] (by kernel_rfl) (r_New o.Config _ hcfg_) ?_)
        rintro _ w31 ⟨g34, rfl, hp33⟩
        refine ⟨_, rfl, ?_⟩
        have hp32 := hp24.madeQ hp33
        simp only [List.cons_append, List.nil_append] at hp32
        refine OPS.batch 5 {} [] [0, 7, 8, 9, 10] [.pointer (some ⟨bk, 0, none⟩), .pointer (some ⟨g26, 0, none⟩), .int .i64 0, .pointer (some ⟨g34, 0, none⟩), .int .i64 0] .nil (by kernel_rfl) (fun b35 => ?_)
        refine OPS.nil ?_
        refine thn_n ?_
        refine WP.seq ?_
        refine WP.region _ rfl (by kernel_rfl) ?_
        refine OPS.batch 5 {} [] [44, 45, 46, 47, 48] [.pointer (some ⟨bk, 0, none⟩), .pointer (some ⟨g26, 0, none⟩), .int .i64 0, .pointer (some ⟨g34, 0, none⟩), .int .i64 0] .nil (by kernel_rfl) (fun b36 => ?_)
        have hp39 := hp32.pull3
        have hp40 := hp39.pull2
        have hp41 := hp40.pull2
        have hp42 := hp41.pull3
        have hp43 := hp42.pull6
        have hp44 := hp43.pull6
        have hp45 := hp44.pull6
        have hek_ : Ent.ok (⟨g26, g34, o.Config, 0, [], none, 0, 0⟩ : Ent) := ⟨hcfg_, rel_zero _⟩
        refine OPS.cons (opStep.call (some 49) [.pointer (some ⟨bk, 0, none⟩), .pointer (some ⟨g26, 0, none⟩), .int .i64 0, .pointer (some ⟨g34, 0, none⟩), .int .i64 0] (by kernel_rfl) (keep_ok _ _ bk es aS nS cS aR nR cR (⟨g26, g34, o.Config, 0, [], none, 0, 0⟩ : Ent) _ 0 hel hek_ hp45) ?_)
        rintro _ w52 ⟨aS46, nS47, cS48, aR49, nR50, cR51, rfl, hp53⟩
        refine ⟨_, rfl, ?_⟩
        have hp54 := (Hp.entCons (e := (⟨g26, g34, o.Config, 0, [], none, 0, 0⟩ : Ent)) (hp53.pull6.pull6.pull6.pull6)).entsPerm (List.perm_append_singleton (⟨g26, g34, o.Config, 0, [], none, 0, 0⟩ : Ent) es).symm
        refine OPS.batch 1 {} [] [4] [.bool true] .nil (by kernel_rfl) (fun b55 => ?_)
        refine OPS.nil ?_
        refine thn_n ?_
        refine WP.ret ?_
        refine blk_r ?_
        refine thn_r ?_
        refine bodyQ.of _ rfl [.bool true] ⟨rfl, trivial⟩ ?_
        exact ⟨(es ++ [(⟨g26, g34, o.Config, 0, [], none, 0, 0⟩ : Ent)]), _, _, _, _, _, _, rfl, ok_app hok hek_, by simp, (hp54.sub (.cons_cons _ (.cons_cons _ (.cons_cons _ (.cons_cons _ (.cons _ (.refl _)))))))⟩
      · refine OPS.cons (opStep.call (some 35) [.agg #[.int .i64 o.Config.N, .int .i64 o.Config.K, .int .i64 o.Config.Delta]] (by kernel_rfl) (q_New_no o.Config _ hcfg_) ?_)
        rintro _ w56 ⟨rfl, hf57⟩
        refine ⟨_, rfl, ?_⟩
        have hp58 := hp15.step hf57
        refine OPS.batch 5 {} [] [0, 3, 7, 8] [.pointer (some ⟨bk, 0, none⟩), .pointer (some ⟨g3, 0, none⟩), .pointer none, .int .i64 40] .nil (by kernel_rfl) (fun b59 => ?_)
        refine OPS.nil ?_
        refine thn_n ?_
        refine WP.seq ?_
        refine WP.region _ rfl (by kernel_rfl) ?_
        refine OPS.batch 2 {} [.agg #[.int .i64 o.Config.N, .int .i64 o.Config.K, .int .i64 o.Config.Delta]] [0, 7, 8, 40] [.pointer (some ⟨bk, 0, none⟩), .pointer none, .int .i64 40, .agg #[.int .i64 o.Config.N, .int .i64 o.Config.K, .int .i64 o.Config.Delta]] (.cons (show Ld Try.prog w56 60 ⟨g3, 1, none⟩ (.agg #[.int .i64 o.Config.N, .int .i64 o.Config.K, .int .i64 o.Config.Delta]) from Ld.rowN (cs := [.int .i64 o.Config.N, .int .i64 o.Config.K, .int .i64 o.Config.Delta]) hp58.get4 (by kernel_rfl)) .nil) (by kernel_rfl) (fun b60 => ?_)
        refine OPS.cons (opStep.call (some 41) [.agg #[.int .i64 o.Config.N, .int .i64 o.Config.K, .int .i64 o.Config.Delta]] (by kernel_rfl) (r_New_no o.Config _ hcfg_) ?_)
        rintro _ w63 ⟨rfl, hf64⟩
        refine ⟨_, rfl, ?_⟩
        have hp65 := hp58.step hf64
        refine OPS.batch 5 {} [] [0, 7, 8, 9, 10] [.pointer (some ⟨bk, 0, none⟩), .pointer none, .int .i64 40, .pointer none, .int .i64 40] .nil (by kernel_rfl) (fun b66 => ?_)
        refine OPS.nil ?_
        refine thn_n ?_
        refine WP.seq ?_
        refine WP.region _ rfl (by kernel_rfl) ?_
        refine OPS.batch 5 {} [] [44, 45, 46, 47, 48] [.pointer (some ⟨bk, 0, none⟩), .pointer none, .int .i64 40, .pointer none, .int .i64 40] .nil (by kernel_rfl) (fun b67 => ?_)
        refine OPS.cons (opStep.call (some 49) [.pointer (some ⟨bk, 0, none⟩), .pointer none, .int .i64 40, .pointer none, .int .i64 40] (by kernel_rfl) (keep_nil _ (some ⟨bk, 0, none⟩) 40) ?_)
        rintro _ w70 ⟨rfl, hf71⟩
        refine ⟨_, rfl, ?_⟩
        have hp72 := hp65.step hf71
        refine OPS.batch 1 {} [] [4] [.bool true] .nil (by kernel_rfl) (fun b73 => ?_)
        refine OPS.nil ?_
        refine thn_n ?_
        refine WP.ret ?_
        refine blk_r ?_
        refine thn_r ?_
        refine bodyQ.of _ rfl [.bool true] ⟨rfl, trivial⟩ ?_
        exact ⟨es, _, _, _, _, _, _, rfl, hok, by omega, (hp72.sub (.cons_cons _ (.cons_cons _ (.cons_cons _ (.cons_cons _ (.cons _ (.refl _)))))))⟩
    · refine WP.seq ?_
      refine WP.pure {} [] [0, 3, 5, 6, 29, 50] [.pointer (some ⟨bk, 0, none⟩), .pointer (some ⟨g3, 0, none⟩), .pointer none, .pointer none, .int .i64 o.Kind, .bool (decide (o.Kind = 1))] .nil (by kernel_rfl) (fun b74 => ?_)
      refine thn_n ?_
      refine WP.test (p := o.Kind = 1) rfl Bp.dec (fun h75 => ?_) (fun h75 => ?_)
      · refine WP.seq ?_
        refine WP.region _ rfl (by kernel_rfl) ?_
        refine OPS.batch 3 {} [.int .i64 o.N] [3, 6, 53, 55] [.pointer (some ⟨g3, 0, none⟩), .pointer none, .pointer none, .int .i64 o.N] (.cons (Ld.row1 (P := Try.prog) (t := 3) (o := 6) (v := .int .i64 o.N) hp15.get4 (by kernel_rfl)) .nil) (by kernel_rfl) (fun b76 => ?_)
        refine OPS.cons (opStep.call (some 56) [.pointer none, .int .i64 o.N] (by kernel_rfl) (q_Add_nil _ o.N) ?_)
        rintro _ w79 ⟨rfl, hf80⟩
        refine ⟨_, rfl, ?_⟩
        have hp81 := hp15.step hf80
        refine OPS.batch 5 {} [] [3, 6, 11, 12] [.pointer (some ⟨g3, 0, none⟩), .pointer none, .bool false, .int .i64 0] .nil (by kernel_rfl) (fun b82 => ?_)
        refine OPS.nil ?_
        refine thn_n ?_
        refine WP.seq ?_
        refine WP.region _ rfl (by kernel_rfl) ?_
        refine OPS.batch 3 {} [.int .i64 o.N] [11, 12, 60, 62] [.bool false, .int .i64 0, .pointer none, .int .i64 o.N] (.cons (Ld.row1 (P := Try.prog) (t := 3) (o := 6) (v := .int .i64 o.N) hp81.get4 (by kernel_rfl)) .nil) (by kernel_rfl) (fun b83 => ?_)
        refine OPS.cons (opStep.call (some 63) [.pointer none, .int .i64 o.N] (by kernel_rfl) (r_Add_nil _ o.N) ?_)
        rintro _ w86 ⟨rfl, hf87⟩
        refine ⟨_, rfl, ?_⟩
        have hp88 := hp81.step hf87
        refine OPS.batch 5 {} [] [11, 12, 13, 14] [.bool false, .int .i64 0, .bool false, .int .i64 0] .nil (by kernel_rfl) (fun b89 => ?_)
        refine OPS.nil ?_
        refine thn_n ?_
        refine WP.cut (fun e99 w100 => ∃ (x97 : Bool), (True) ∧ Bp x97 (((False) ↔ (False))) ∧ List.map e99 [4] = [.bool x97] ∧ Hp w0 Non (Res.ents es :: Res.row bk [.slice aS nS cS, .slice aR nR cR] 80 :: Res.own 62 1 (.slice aS nS cS) nS (List.flatMap entS es) :: Res.own 85 1 (.slice aR nR cR) nR (List.flatMap entR es) :: Res.row g3 [.int .i64 o.Kind, .int .i64 o.Config.N, .int .i64 o.Config.K, .int .i64 o.Config.Delta, .int .i64 o.I, .int .i64 o.J, .int .i64 o.N] 82 :: L) w100) ?_ ?_
        · refine WP.region _ rfl (by kernel_rfl) ?_
          refine OPS.batch 4 {} [] [12, 14, 69] [.int .i64 0, .int .i64 0, .bool (false == false)] .nil (by kernel_rfl) (fun b91 => ?_)
          by_cases h92 : ((False) ↔ (False))
          · refine OPS.batch 0 {} [] [12, 14, 69] [.int .i64 0, .int .i64 0, .bool (false == false)] .nil (by kernel_rfl) (fun b93 => ?_)
            refine OPS.re [.int .i64 0, .int .i64 0, .bool true] (by rw [show (false == false) = true from (Bp.beq Bp.f Bp.f).tt h92]) ?_
            refine OPS.batch 5 { wraps := [73] } [] [4] [.bool true] .nil (by kernel_rfl) (fun b94 => ?_)
            refine OPS.nil ?_
            refine thn_n ?_
            exact ⟨true, trivial, Bp.of Bp.t (by first | (simp only [h92, iff_false, false_iff, iff_true, true_iff, Classical.not_not, and_true, true_and, and_false, false_and, or_true, true_or, or_false, false_or, not_true_eq_false, not_false_eq_true, and_self, or_self, iff_self]; done) | (simp [h92]; done) | simp_all), by kernel_rfl, hp88⟩
          · refine OPS.batch 0 {} [] [12, 14, 69] [.int .i64 0, .int .i64 0, .bool (false == false)] .nil (by kernel_rfl) (fun b95 => ?_)
            refine OPS.re [.int .i64 0, .int .i64 0, .bool false] (by rw [show (false == false) = false from (Bp.beq Bp.f Bp.f).ff h92]) ?_
            refine OPS.batch 5 { wraps := [73] } [] [4] [.bool false] .nil (by kernel_rfl) (fun b96 => ?_)
            refine OPS.nil ?_
            refine thn_n ?_
            exact ⟨false, trivial, Bp.of Bp.f (by first | (simp only [h92, iff_false, false_iff, iff_true, true_iff, Classical.not_not, and_true, true_and, and_false, false_and, or_true, true_or, or_false, false_or, not_true_eq_false, not_false_eq_true, and_self, or_self, iff_self]; done) | (simp [h92]; done) | simp_all), by kernel_rfl, hp88⟩
        rintro e99 w100 ⟨x97, hd102, hb98, hE103, hp101⟩
        obtain ⟨b104, rfl⟩ := toMk hE103
        clear hE103
        clear hd102
        refine WP.ret ?_
        refine blk_r ?_
        refine thn_r ?_
        refine bodyQ.of _ rfl [.bool x97] ⟨rfl, trivial⟩ ?_
        exact ⟨es, _, _, _, _, _, _, congrArg (fun b => Ending.returned (.bool b)) (Bp.tt hb98 (by first | exact ⟨Iff.rfl, rfl⟩ | exact ⟨rfl, rfl⟩ | exact Iff.rfl | rfl | simp)), hok, by omega, (hp101.sub (.cons_cons _ (.cons_cons _ (.cons_cons _ (.cons_cons _ (.cons _ (.refl _)))))))⟩
      · refine WP.seq ?_
        refine WP.pure {} [] [0, 3, 5, 6, 29, 74] [.pointer (some ⟨bk, 0, none⟩), .pointer (some ⟨g3, 0, none⟩), .pointer none, .pointer none, .int .i64 o.Kind, .bool (decide (o.Kind = 2))] .nil (by kernel_rfl) (fun b105 => ?_)
        refine thn_n ?_
        refine WP.test (p := o.Kind = 2) rfl Bp.dec (fun h106 => ?_) (fun h106 => ?_)
        · refine WP.seq ?_
          have hp109 := hp15.drew
          refine WP.quiet (fun w107 => Hp w0 Non (Res.ents es :: Res.row bk [.slice aS nS cS, .slice aR nR cR] 80 :: Res.own 62 1 (.slice aS nS cS) nS (List.flatMap entS es) :: Res.own 85 1 (.slice aR nR cR) nR (List.flatMap entR es) :: Res.row g3 [.int .i64 o.Kind, .int .i64 o.Config.N, .int .i64 o.Config.K, .int .i64 o.Config.Delta, .int .i64 o.I, .int .i64 o.J, .int .i64 o.N] 82 :: L) w107) (by kernel_rfl) hp109 ?_
          have hnehp109 : ∃ wz_, (fun w107 => Hp w0 Non (Res.ents es :: Res.row bk [.slice aS nS cS, .slice aR nR cR] 80 :: Res.own 62 1 (.slice aS nS cS) nS (List.flatMap entS es) :: Res.own 85 1 (.slice aR nR cR) nR (List.flatMap entR es) :: Res.row g3 [.int .i64 o.Kind, .int .i64 o.Config.N, .int .i64 o.Config.K, .int .i64 o.Config.Delta, .int .i64 o.I, .int .i64 o.J, .int .i64 o.N] 82 :: L) w107) wz_ := ⟨_, hp109⟩
          refine QOPS.batch 2 {} [] [3, 5, 6, 76, 77] [.pointer (some ⟨g3, 0, none⟩), .pointer none, .pointer none, .pointer none, .pointer none] hnehp109 (fun w110 hp111 => QB.mk .nil (by kernel_rfl)) (fun b112 => ?_)
          refine QOPS.call (some 78) [.pointer none, .pointer none] (by kernel_rfl) (fun w113 hp114 => (same_nil _).mono fun _ _ h => ⟨h.1, hp114.step h.2⟩) ?_
          refine QOPS.batch 4 {} [.int .i64 o.N] [3, 6, 79, 80, 82] [.pointer (some ⟨g3, 0, none⟩), .pointer none, .bool true, .pointer none, .int .i64 o.N] hnehp109 (fun w115 hp116 => QB.mk (.cons (Ld.row1 (P := Try.prog) (t := 3) (o := 6) (v := .int .i64 o.N) hp116.get4 (by kernel_rfl)) .nil) (by kernel_rfl)) (fun b117 => ?_)
          refine QOPS.call (some 83) [.pointer none, .int .i64 o.N] (by kernel_rfl) (fun w118 hp119 => (q_Has_nil _ o.N).mono fun _ _ h => ⟨h.1, hp119.step h.2⟩) ?_
          refine QOPS.batch 3 {} [.int .i64 o.N] [79, 83, 84, 86] [.bool true, .bool false, .pointer none, .int .i64 o.N] hnehp109 (fun w120 hp121 => QB.mk (.cons (Ld.row1 (P := Try.prog) (t := 3) (o := 6) (v := .int .i64 o.N) hp121.get4 (by kernel_rfl)) .nil) (by kernel_rfl)) (fun b122 => ?_)
          refine QOPS.call (some 87) [.pointer none, .int .i64 o.N] (by kernel_rfl) (fun w123 hp124 => (r_Has_nil _ o.N).mono fun _ _ h => ⟨h.1, hp124.step h.2⟩) ?_
          refine QOPS.batch 3 { wraps := [89] } [] [4] [.bool (false == false)] hnehp109 (fun w125 hp126 => QB.mk .nil (by kernel_rfl)) (fun b127 => ?_)
          refine QOPS.nil (fun w128 hp129 => ?_)
          refine thn_n ?_
          refine WP.ret ?_
          refine blk_r ?_
          refine thn_r ?_
          refine bodyQ.of _ rfl [.bool (false == false)] ⟨rfl, trivial⟩ ?_
          exact ⟨es, _, _, _, _, _, _, congrArg (fun b => Ending.returned (.bool b)) (Bp.tt (Bp.beq Bp.f Bp.f) (by first | exact ⟨Iff.rfl, rfl⟩ | exact ⟨rfl, rfl⟩ | exact Iff.rfl | rfl | simp)), hok, by omega, (hp129.sub (.cons_cons _ (.cons_cons _ (.cons_cons _ (.cons_cons _ (.cons _ (.refl _)))))))⟩
        · refine WP.seq ?_
          refine WP.pure {} [] [0, 3, 5, 6, 29, 90] [.pointer (some ⟨bk, 0, none⟩), .pointer (some ⟨g3, 0, none⟩), .pointer none, .pointer none, .int .i64 o.Kind, .bool (decide (o.Kind = 3))] .nil (by kernel_rfl) (fun b130 => ?_)
          refine thn_n ?_
          refine WP.test (p := o.Kind = 3) rfl Bp.dec (fun h131 => ?_) (fun h131 => ?_)
          · refine WP.seq ?_
            refine WP.region _ rfl (by kernel_rfl) ?_
            refine OPS.batch 3 {} [.int .i64 o.J] [0, 5, 6, 93, 95] [.pointer (some ⟨bk, 0, none⟩), .pointer none, .pointer none, .pointer (some ⟨bk, 0, none⟩), .int .i64 o.J] (.cons (Ld.row1 (P := Try.prog) (t := 3) (o := 5) (v := .int .i64 o.J) hp15.get4 (by kernel_rfl)) .nil) (by kernel_rfl) (fun b132 => ?_)
            have hp135 := hp15.pull3
            have hp136 := hp135.pull3
            have hp137 := hp136.pull3
            refine OPS.cons (opStep.call (some 96) [.pointer (some ⟨bk, 0, none⟩), .int .i64 o.J] (by kernel_rfl) (book_at _ _ bk es aS nS cS aR nR cR _ o.J hel hp137) ?_)
            rintro _ w140 ⟨j138, hj139, hp141⟩
            have hp142 := hp141.pull3
            rcases hj139 with ⟨hj139, rfl⟩ | ⟨hj139, rfl⟩
            · refine ⟨_, rfl, ?_⟩
              refine OPS.batch 5 {} [] [0, 5, 6, 15, 16] [.pointer (some ⟨bk, 0, none⟩), .pointer none, .pointer none, .pointer none, .pointer none] .nil (by kernel_rfl) (fun b143 => ?_)
              refine OPS.nil ?_
              refine thn_n ?_
              refine WP.seq ?_
              refine WP.region _ rfl (by kernel_rfl) ?_
              refine OPS.batch 2 {} [] [0, 6, 16, 100, 101] [.pointer (some ⟨bk, 0, none⟩), .pointer none, .pointer none, .pointer none, .pointer none] .nil (by kernel_rfl) (fun b144 => ?_)
              refine OPS.cons (opStep.call (some 102) [.pointer none, .pointer none] (by kernel_rfl) (q_And_snil _ none) ?_)
              rintro _ w147 ⟨rfl, hf148⟩
              refine ⟨_, rfl, ?_⟩
              have hp149 := hp142.step hf148
              refine OPS.batch 5 {} [] [0, 6, 16, 17, 18] [.pointer (some ⟨bk, 0, none⟩), .pointer none, .pointer none, .pointer none, .int .i64 0] .nil (by kernel_rfl) (fun b150 => ?_)
              refine OPS.nil ?_
              refine thn_n ?_
              refine WP.seq ?_
              refine WP.region _ rfl (by kernel_rfl) ?_
              refine OPS.batch 2 {} [] [0, 17, 18, 106, 107] [.pointer (some ⟨bk, 0, none⟩), .pointer none, .int .i64 0, .pointer none, .pointer none] .nil (by kernel_rfl) (fun b151 => ?_)
              refine OPS.cons (opStep.call (some 108) [.pointer none, .pointer none] (by kernel_rfl) (r_And_snil _ none) ?_)
              rintro _ w154 ⟨rfl, hf155⟩
              refine ⟨_, rfl, ?_⟩
              have hp156 := hp149.step hf155
              refine OPS.batch 5 {} [] [0, 17, 18, 19, 20] [.pointer (some ⟨bk, 0, none⟩), .pointer none, .int .i64 0, .pointer none, .int .i64 0] .nil (by kernel_rfl) (fun b157 => ?_)
              refine OPS.nil ?_
              refine thn_n ?_
              refine WP.seq ?_
              refine WP.region _ rfl (by kernel_rfl) ?_
              refine OPS.batch 5 {} [] [111, 112, 113, 114, 115] [.pointer (some ⟨bk, 0, none⟩), .pointer none, .int .i64 0, .pointer none, .int .i64 0] .nil (by kernel_rfl) (fun b158 => ?_)
              refine OPS.cons (opStep.call (some 116) [.pointer (some ⟨bk, 0, none⟩), .pointer none, .int .i64 0, .pointer none, .int .i64 0] (by kernel_rfl) (keep_nil _ (some ⟨bk, 0, none⟩) 0) ?_)
              rintro _ w161 ⟨rfl, hf162⟩
              refine ⟨_, rfl, ?_⟩
              have hp163 := hp156.step hf162
              refine OPS.batch 1 {} [] [4] [.bool true] .nil (by kernel_rfl) (fun b164 => ?_)
              refine OPS.nil ?_
              refine thn_n ?_
              refine WP.ret ?_
              refine blk_r ?_
              refine thn_r ?_
              refine bodyQ.of _ rfl [.bool true] ⟨rfl, trivial⟩ ?_
              exact ⟨es, _, _, _, _, _, _, rfl, hok, by omega, (hp163.sub (.cons_cons _ (.cons_cons _ (.cons_cons _ (.cons_cons _ (.cons _ (.refl _)))))))⟩
            · refine ⟨_, rfl, ?_⟩
              refine OPS.batch 5 {} [] [0, 5, 6, 15, 16] [.pointer (some ⟨bk, 0, none⟩), .pointer none, .pointer none, .pointer (some ⟨(es[j138]!).p, 0, none⟩), .pointer (some ⟨(es[j138]!).q, 0, none⟩)] .nil (by kernel_rfl) (fun b165 => ?_)
              refine OPS.nil ?_
              refine thn_n ?_
              refine WP.seq ?_
              refine WP.region _ rfl (by kernel_rfl) ?_
              refine OPS.batch 2 {} [] [0, 6, 16, 100, 101] [.pointer (some ⟨bk, 0, none⟩), .pointer none, .pointer (some ⟨(es[j138]!).q, 0, none⟩), .pointer none, .pointer (some ⟨(es[j138]!).p, 0, none⟩)] .nil (by kernel_rfl) (fun b166 => ?_)
              refine OPS.cons (opStep.call (some 102) [.pointer none, .pointer (some ⟨(es[j138]!).p, 0, none⟩)] (by kernel_rfl) (q_And_snil _ (some ⟨(es[j138]!).p, 0, none⟩)) ?_)
              rintro _ w169 ⟨rfl, hf170⟩
              refine ⟨_, rfl, ?_⟩
              have hp171 := hp142.step hf170
              refine OPS.batch 5 {} [] [0, 6, 16, 17, 18] [.pointer (some ⟨bk, 0, none⟩), .pointer none, .pointer (some ⟨(es[j138]!).q, 0, none⟩), .pointer none, .int .i64 0] .nil (by kernel_rfl) (fun b172 => ?_)
              refine OPS.nil ?_
              refine thn_n ?_
              refine WP.seq ?_
              refine WP.region _ rfl (by kernel_rfl) ?_
              refine OPS.batch 2 {} [] [0, 17, 18, 106, 107] [.pointer (some ⟨bk, 0, none⟩), .pointer none, .int .i64 0, .pointer none, .pointer (some ⟨(es[j138]!).q, 0, none⟩)] .nil (by kernel_rfl) (fun b173 => ?_)
              refine OPS.cons (opStep.call (some 108) [.pointer none, .pointer (some ⟨(es[j138]!).q, 0, none⟩)] (by kernel_rfl) (r_And_snil _ (some ⟨(es[j138]!).q, 0, none⟩)) ?_)
              rintro _ w176 ⟨rfl, hf177⟩
              refine ⟨_, rfl, ?_⟩
              have hp178 := hp171.step hf177
              refine OPS.batch 5 {} [] [0, 17, 18, 19, 20] [.pointer (some ⟨bk, 0, none⟩), .pointer none, .int .i64 0, .pointer none, .int .i64 0] .nil (by kernel_rfl) (fun b179 => ?_)
              refine OPS.nil ?_
              refine thn_n ?_
              refine WP.seq ?_
              refine WP.region _ rfl (by kernel_rfl) ?_
              refine OPS.batch 5 {} [] [111, 112, 113, 114, 115] [.pointer (some ⟨bk, 0, none⟩), .pointer none, .int .i64 0, .pointer none, .int .i64 0] .nil (by kernel_rfl) (fun b180 => ?_)
              refine OPS.cons (opStep.call (some 116) [.pointer (some ⟨bk, 0, none⟩), .pointer none, .int .i64 0, .pointer none, .int .i64 0] (by kernel_rfl) (keep_nil _ (some ⟨bk, 0, none⟩) 0) ?_)
              rintro _ w183 ⟨rfl, hf184⟩
              refine ⟨_, rfl, ?_⟩
              have hp185 := hp178.step hf184
              refine OPS.batch 1 {} [] [4] [.bool true] .nil (by kernel_rfl) (fun b186 => ?_)
              refine OPS.nil ?_
              refine thn_n ?_
              refine WP.ret ?_
              refine blk_r ?_
              refine thn_r ?_
              refine bodyQ.of _ rfl [.bool true] ⟨rfl, trivial⟩ ?_
              exact ⟨es, _, _, _, _, _, _, rfl, hok, by omega, (hp185.sub (.cons_cons _ (.cons_cons _ (.cons_cons _ (.cons_cons _ (.cons _ (.refl _)))))))⟩
          · refine WP.seq ?_
            refine WP.pure {} [] [0, 5, 6, 117] [.pointer (some ⟨bk, 0, none⟩), .pointer none, .pointer none, .bool (decide (o.Kind = 4))] .nil (by kernel_rfl) (fun b187 => ?_)
            refine thn_n ?_
            refine WP.test (p := o.Kind = 4) rfl Bp.dec (fun h188 => ?_) (fun h188 => ?_)
            · refine WP.seq ?_
              refine WP.region _ rfl (by kernel_rfl) ?_
              refine OPS.batch 2 {} [] [6, 119, 120] [.pointer none, .pointer (some ⟨bk, 0, none⟩), .pointer none] .nil (by kernel_rfl) (fun b189 => ?_)
              refine OPS.cons (opStep.call (some 121) [.pointer none] (by kernel_rfl) (q_Copy_nil _) ?_)
              rintro _ w192 ⟨rfl, hf193⟩
              refine ⟨_, rfl, ?_⟩
              have hp194 := hp15.step hf193
              refine OPS.batch 1 {} [] [119, 121, 122] [.pointer (some ⟨bk, 0, none⟩), .pointer none, .pointer none] .nil (by kernel_rfl) (fun b195 => ?_)
              refine OPS.cons (opStep.call (some 123) [.pointer none] (by kernel_rfl) (r_Copy_nil _) ?_)
              rintro _ w198 ⟨rfl, hf199⟩
              refine ⟨_, rfl, ?_⟩
              have hp200 := hp194.step hf199
              refine OPS.cons (opStep.call (some 124) [.pointer (some ⟨bk, 0, none⟩), .pointer none, .int .i64 0, .pointer none, .int .i64 0] (by kernel_rfl) (keep_nil _ (some ⟨bk, 0, none⟩) 0) ?_)
              rintro _ w203 ⟨rfl, hf204⟩
              refine ⟨_, rfl, ?_⟩
              have hp205 := hp200.step hf204
              refine OPS.batch 1 {} [] [4] [.bool true] .nil (by kernel_rfl) (fun b206 => ?_)
              refine OPS.nil ?_
              refine thn_n ?_
              refine WP.ret ?_
              refine blk_r ?_
              refine thn_r ?_
              refine bodyQ.of _ rfl [.bool true] ⟨rfl, trivial⟩ ?_
              exact ⟨es, _, _, _, _, _, _, rfl, hok, by omega, (hp205.sub (.cons_cons _ (.cons_cons _ (.cons_cons _ (.cons_cons _ (.cons _ (.refl _)))))))⟩
            · refine WP.skip ?_
              refine blk_n ?_
              refine thn_n ?_
              refine WP.seq ?_
              refine WP.pure {} [] [4] [.bool true] .nil (by kernel_rfl) (fun b207 => ?_)
              refine thn_n ?_
              refine WP.ret ?_
              refine bodyQ.of _ rfl [.bool true] ⟨rfl, trivial⟩ ?_
              exact ⟨es, _, _, _, _, _, _, rfl, hok, by omega, (hp15.sub (.cons_cons _ (.cons_cons _ (.cons_cons _ (.cons_cons _ (.cons _ (.refl _)))))))⟩
  · refine ⟨_, rfl, ?_⟩
    refine OPS.batch 5 {} [] [0, 3, 5, 6] [.pointer (some ⟨bk, 0, none⟩), .pointer (some ⟨g3, 0, none⟩), .pointer (some ⟨(es[j11]!).p, 0, none⟩), .pointer (some ⟨(es[j11]!).q, 0, none⟩)] .nil (by kernel_rfl) (fun b208 => ?_)
    refine OPS.nil ?_
    refine thn_n ?_
    refine WP.seq ?_
    refine WP.seq ?_
    refine WP.pure {} [.int .i64 o.Kind] [0, 3, 5, 6, 29] [.pointer (some ⟨bk, 0, none⟩), .pointer (some ⟨g3, 0, none⟩), .pointer (some ⟨(es[j11]!).p, 0, none⟩), .pointer (some ⟨(es[j11]!).q, 0, none⟩), .int .i64 o.Kind] (.cons (Ld.row1 (P := Try.prog) (t := 3) (o := 0) (v := .int .i64 o.Kind) hp15.get4 (by kernel_rfl)) .nil) (by kernel_rfl) (fun b209 => ?_)
    refine thn_n ?_
    refine WP.block ?_
    refine WP.seq ?_
    refine WP.pure {} [] [0, 3, 5, 6, 29, 30] [.pointer (some ⟨bk, 0, none⟩), .pointer (some ⟨g3, 0, none⟩), .pointer (some ⟨(es[j11]!).p, 0, none⟩), .pointer (some ⟨(es[j11]!).q, 0, none⟩), .int .i64 o.Kind, .bool (decide (o.Kind = 0))] .nil (by kernel_rfl) (fun b210 => ?_)
    refine thn_n ?_
    refine WP.test (p := o.Kind = 0) rfl Bp.dec (fun h211 => ?_) (fun h211 => ?_)
    · refine WP.seq ?_
      refine WP.region _ rfl (by kernel_rfl) ?_
      refine OPS.batch 2 {} [.agg #[.int .i64 o.Config.N, .int .i64 o.Config.K, .int .i64 o.Config.Delta]] [0, 3, 34] [.pointer (some ⟨bk, 0, none⟩), .pointer (some ⟨g3, 0, none⟩), .agg #[.int .i64 o.Config.N, .int .i64 o.Config.K, .int .i64 o.Config.Delta]] (.cons (show Ld Try.prog w13 60 ⟨g3, 1, none⟩ (.agg #[.int .i64 o.Config.N, .int .i64 o.Config.K, .int .i64 o.Config.Delta]) from Ld.rowN (cs := [.int .i64 o.Config.N, .int .i64 o.Config.K, .int .i64 o.Config.Delta]) hp15.get4 (by kernel_rfl)) .nil) (by kernel_rfl) (fun b212 => ?_)
      by_cases hcfg_ : okCfg o.Config
      · refine OPS.cons (opStep.call (some 35) [.agg #[.int .i64 o.Config.N, .int .i64 o.Config.K, .int .i64 o.Config.Delta]] (by kernel_rfl) (q_New o.Config _ hcfg_) ?_)
        rintro _ w215 ⟨g218, rfl, hp217⟩
        refine ⟨_, rfl, ?_⟩
        have hp216 := hp15.made hp217
        refine OPS.batch 5 {} [] [0, 3, 7, 8] [.pointer (some ⟨bk, 0, none⟩), .pointer (some ⟨g3, 0, none⟩), .pointer (some ⟨g218, 0, none⟩), .int .i64 0] .nil (by kernel_rfl) (fun b219 => ?_)
        refine OPS.nil ?_
        refine thn_n ?_
        refine WP.seq ?_
        refine WP.region _ rfl (by kernel_rfl) ?_
        refine OPS.batch 2 {} [.agg #[.int .i64 o.Config.N, .int .i64 o.Config.K, .int .i64 o.Config.Delta]] [0, 7, 8, 40] [.pointer (some ⟨bk, 0, none⟩), .pointer (some ⟨g218, 0, none⟩), .int .i64 0, .agg #[.int .i64 o.Config.N, .int .i64 o.Config.K, .int .i64 o.Config.Delta]] (.cons (show Ld Try.prog w215 60 ⟨g3, 1, none⟩ (.agg #[.int .i64 o.Config.N, .int .i64 o.Config.K, .int .i64 o.Config.Delta]) from Ld.rowN (cs := [.int .i64 o.Config.N, .int .i64 o.Config.K, .int .i64 o.Config.Delta]) hp216.get5 (by kernel_rfl)) .nil) (by kernel_rfl) (fun b220 => ?_)
        refine OPS.cons (opStep.call (some 41) [.agg #[.int .i64 o.Config.N, .int .i64 o.Config.K, .int .i64 o.Config.Delta]] (by kernel_rfl) (r_New o.Config _ hcfg_) ?_)
        rintro _ w223 ⟨g226, rfl, hp225⟩
        refine ⟨_, rfl, ?_⟩
        have hp224 := hp216.madeQ hp225
        simp only [List.cons_append, List.nil_append] at hp224
        refine OPS.batch 5 {} [] [0, 7, 8, 9, 10] [.pointer (some ⟨bk, 0, none⟩), .pointer (some ⟨g218, 0, none⟩), .int .i64 0, .pointer (some ⟨g226, 0, none⟩), .int .i64 0] .nil (by kernel_rfl) (fun b227 => ?_)
        refine OPS.nil ?_
        refine thn_n ?_
        refine WP.seq ?_
        refine WP.region _ rfl (by kernel_rfl) ?_
        refine OPS.batch 5 {} [] [44, 45, 46, 47, 48] [.pointer (some ⟨bk, 0, none⟩), .pointer (some ⟨g218, 0, none⟩), .int .i64 0, .pointer (some ⟨g226, 0, none⟩), .int .i64 0] .nil (by kernel_rfl) (fun b228 => ?_)
        have hp231 := hp224.pull3
        have hp232 := hp231.pull2
        have hp233 := hp232.pull2
        have hp234 := hp233.pull3
        have hp235 := hp234.pull6
        have hp236 := hp235.pull6
        have hp237 := hp236.pull6
        have hek_ : Ent.ok (⟨g218, g226, o.Config, 0, [], none, 0, 0⟩ : Ent) := ⟨hcfg_, rel_zero _⟩
        refine OPS.cons (opStep.call (some 49) [.pointer (some ⟨bk, 0, none⟩), .pointer (some ⟨g218, 0, none⟩), .int .i64 0, .pointer (some ⟨g226, 0, none⟩), .int .i64 0] (by kernel_rfl) (keep_ok _ _ bk es aS nS cS aR nR cR (⟨g218, g226, o.Config, 0, [], none, 0, 0⟩ : Ent) _ 0 hel hek_ hp237) ?_)
        rintro _ w244 ⟨aS238, nS239, cS240, aR241, nR242, cR243, rfl, hp245⟩
        refine ⟨_, rfl, ?_⟩
        have hp246 := (Hp.entCons (e := (⟨g218, g226, o.Config, 0, [], none, 0, 0⟩ : Ent)) (hp245.pull6.pull6.pull6.pull6)).entsPerm (List.perm_append_singleton (⟨g218, g226, o.Config, 0, [], none, 0, 0⟩ : Ent) es).symm
        refine OPS.batch 1 {} [] [4] [.bool true] .nil (by kernel_rfl) (fun b247 => ?_)
        refine OPS.nil ?_
        refine thn_n ?_
        refine WP.ret ?_
        refine blk_r ?_
        refine thn_r ?_
        refine bodyQ.of _ rfl [.bool true] ⟨rfl, trivial⟩ ?_
        exact ⟨(es ++ [(⟨g218, g226, o.Config, 0, [], none, 0, 0⟩ : Ent)]), _, _, _, _, _, _, rfl, ok_app hok hek_, by simp, (hp246.sub (.cons_cons _ (.cons_cons _ (.cons_cons _ (.cons_cons _ (.cons _ (.refl _)))))))⟩
      · refine OPS.cons (opStep.call (some 35) [.agg #[.int .i64 o.Config.N, .int .i64 o.Config.K, .int .i64 o.Config.Delta]] (by kernel_rfl) (q_New_no o.Config _ hcfg_) ?_)
        rintro _ w248 ⟨rfl, hf249⟩
        refine ⟨_, rfl, ?_⟩
        have hp250 := hp15.step hf249
        refine OPS.batch 5 {} [] [0, 3, 7, 8] [.pointer (some ⟨bk, 0, none⟩), .pointer (some ⟨g3, 0, none⟩), .pointer none, .int .i64 40] .nil (by kernel_rfl) (fun b251 => ?_)
        refine OPS.nil ?_
        refine thn_n ?_
        refine WP.seq ?_
        refine WP.region _ rfl (by kernel_rfl) ?_
        refine OPS.batch 2 {} [.agg #[.int .i64 o.Config.N, .int .i64 o.Config.K, .int .i64 o.Config.Delta]] [0, 7, 8, 40] [.pointer (some ⟨bk, 0, none⟩), .pointer none, .int .i64 40, .agg #[.int .i64 o.Config.N, .int .i64 o.Config.K, .int .i64 o.Config.Delta]] (.cons (show Ld Try.prog w248 60 ⟨g3, 1, none⟩ (.agg #[.int .i64 o.Config.N, .int .i64 o.Config.K, .int .i64 o.Config.Delta]) from Ld.rowN (cs := [.int .i64 o.Config.N, .int .i64 o.Config.K, .int .i64 o.Config.Delta]) hp250.get4 (by kernel_rfl)) .nil) (by kernel_rfl) (fun b252 => ?_)
        refine OPS.cons (opStep.call (some 41) [.agg #[.int .i64 o.Config.N, .int .i64 o.Config.K, .int .i64 o.Config.Delta]] (by kernel_rfl) (r_New_no o.Config _ hcfg_) ?_)
        rintro _ w255 ⟨rfl, hf256⟩
        refine ⟨_, rfl, ?_⟩
        have hp257 := hp250.step hf256
        refine OPS.batch 5 {} [] [0, 7, 8, 9, 10] [.pointer (some ⟨bk, 0, none⟩), .pointer none, .int .i64 40, .pointer none, .int .i64 40] .nil (by kernel_rfl) (fun b258 => ?_)
        refine OPS.nil ?_
        refine thn_n ?_
        refine WP.seq ?_
        refine WP.region _ rfl (by kernel_rfl) ?_
        refine OPS.batch 5 {} [] [44, 45, 46, 47, 48] [.pointer (some ⟨bk, 0, none⟩), .pointer none, .int .i64 40, .pointer none, .int .i64 40] .nil (by kernel_rfl) (fun b259 => ?_)
        refine OPS.cons (opStep.call (some 49) [.pointer (some ⟨bk, 0, none⟩), .pointer none, .int .i64 40, .pointer none, .int .i64 40] (by kernel_rfl) (keep_nil _ (some ⟨bk, 0, none⟩) 40) ?_)
        rintro _ w262 ⟨rfl, hf263⟩
        refine ⟨_, rfl, ?_⟩
        have hp264 := hp257.step hf263
        refine OPS.batch 1 {} [] [4] [.bool true] .nil (by kernel_rfl) (fun b265 => ?_)
        refine OPS.nil ?_
        refine thn_n ?_
        refine WP.ret ?_
        refine blk_r ?_
        refine thn_r ?_
        refine bodyQ.of _ rfl [.bool true] ⟨rfl, trivial⟩ ?_
        exact ⟨es, _, _, _, _, _, _, rfl, hok, by omega, (hp264.sub (.cons_cons _ (.cons_cons _ (.cons_cons _ (.cons_cons _ (.cons _ (.refl _)))))))⟩
    · refine WP.seq ?_
      refine WP.pure {} [] [0, 3, 5, 6, 29, 50] [.pointer (some ⟨bk, 0, none⟩), .pointer (some ⟨g3, 0, none⟩), .pointer (some ⟨(es[j11]!).p, 0, none⟩), .pointer (some ⟨(es[j11]!).q, 0, none⟩), .int .i64 o.Kind, .bool (decide (o.Kind = 1))] .nil (by kernel_rfl) (fun b266 => ?_)
      refine thn_n ?_
      refine WP.test (p := o.Kind = 1) rfl Bp.dec (fun h267 => ?_) (fun h267 => ?_)
      · refine WP.seq ?_
        refine WP.region _ rfl (by kernel_rfl) ?_
        refine OPS.batch 3 {} [.int .i64 o.N] [3, 6, 53, 55] [.pointer (some ⟨g3, 0, none⟩), .pointer (some ⟨(es[j11]!).q, 0, none⟩), .pointer (some ⟨(es[j11]!).p, 0, none⟩), .int .i64 o.N] (.cons (Ld.row1 (P := Try.prog) (t := 3) (o := 6) (v := .int .i64 o.N) hp15.get4 (by kernel_rfl)) .nil) (by kernel_rfl) (fun b268 => ?_)
        have hp271 := hp15.pull0
        refine OPS.cons (opStep.call (some 56) [.pointer (some ⟨(es[j11]!).p, 0, none⟩), .int .i64 o.N] (by kernel_rfl) (qAdd_at hok hj12 hp271 o.N) ?_)
        rintro _ w272 ⟨b274, rfl, hb275, hp273⟩
        refine ⟨_, rfl, ?_⟩
        have he1_ : ((es.set j11 { (es[j11]!) with m := qAdd (es[j11]!).c (es[j11]!).m o.N }))[j11]! = ({ (es[j11]!) with m := qAdd (es[j11]!).c (es[j11]!).m o.N } : Ent) := by rw [set_getQ hj12, if_pos rfl]
        have hj1_ : j11 < ((es.set j11 { (es[j11]!) with m := qAdd (es[j11]!).c (es[j11]!).m o.N })).length := by rw [List.length_set]; exact hj12
        refine OPS.batch 5 {} [] [3, 6, 11, 12] [.pointer (some ⟨g3, 0, none⟩), .pointer (some ⟨(es[j11]!).q, 0, none⟩), .bool b274, .int .i64 (qErr (es[j11]!).c o.N)] .nil (by kernel_rfl) (fun b276 => ?_)
        refine OPS.nil ?_
        refine thn_n ?_
        refine WP.seq ?_
        refine WP.region _ rfl (by kernel_rfl) ?_
        refine OPS.batch 3 {} [.int .i64 o.N] [11, 12, 60, 62] [.bool b274, .int .i64 (qErr (es[j11]!).c o.N), .pointer (some ⟨(es[j11]!).q, 0, none⟩), .int .i64 o.N] (.cons (Ld.row1 (P := Try.prog) (t := 3) (o := 6) (v := .int .i64 o.N) hp273.get4 (by kernel_rfl)) .nil) (by kernel_rfl) (fun b277 => ?_)
        have hp280 := hp273.pull0
        refine OPS.cons (opStep.call (some 63) [.pointer (some ⟨(es[j11]!).q, 0, none⟩), .int .i64 o.N] (by kernel_rfl) (rAdd_at (es := (es.set j11 { (es[j11]!) with m := qAdd (es[j11]!).c (es[j11]!).m o.N })) (m0 := (es[j11]!).m) hj1_ (hok j11 hj12).1 (by rw [he1_]) (by rw [he1_]) (by rw [he1_]; exact (hok j11 hj12).2) hp280 o.N) ?_)
        rintro _ w281 ⟨b283, e285, rfl, hb284, hr286, hp282⟩
        refine ⟨_, rfl, ?_⟩
        rw [he1_] at hr286
        rw [set_setQ] at hp282
        refine OPS.batch 5 {} [] [11, 12, 13, 14] [.bool b274, .int .i64 (qErr (es[j11]!).c o.N), .bool b283, .int .i64 (qErr (es[j11]!).c o.N)] .nil (by kernel_rfl) (fun b287 => ?_)
        refine OPS.nil ?_
        refine thn_n ?_
        refine WP.cut (fun e297 w298 => ∃ (x295 : Bool), (True) ∧ Bp x295 (((inN (es[j11]!).c o.N ∧ (es[j11]!).m.testBit (o.N).toNat = false) ↔ (inN (es[j11]!).c o.N ∧ (es[j11]!).m.testBit (o.N).toNat = false)) ∧ ((qErr (es[j11]!).c o.N) = (qErr (es[j11]!).c o.N))) ∧ List.map e297 [4] = [.bool x295] ∧ Hp w0 Non (Res.ents (es.set j11 e285) :: Res.row bk [.slice aS nS cS, .slice aR nR cR] 80 :: Res.own 62 1 (.slice aS nS cS) nS (List.flatMap entS es) :: Res.own 85 1 (.slice aR nR cR) nR (List.flatMap entR es) :: Res.row g3 [.int .i64 o.Kind, .int .i64 o.Config.N, .int .i64 o.Config.K, .int .i64 o.Config.Delta, .int .i64 o.I, .int .i64 o.J, .int .i64 o.N] 82 :: L) w298) ?_ ?_
        · refine WP.region _ rfl (by kernel_rfl) ?_
          refine OPS.batch 4 {} [] [12, 14, 69] [.int .i64 (qErr (es[j11]!).c o.N), .int .i64 (qErr (es[j11]!).c o.N), .bool (b274 == b283)] .nil (by kernel_rfl) (fun b289 => ?_)
          by_cases h290 : ((inN (es[j11]!).c o.N ∧ (es[j11]!).m.testBit (o.N).toNat = false) ↔ (inN (es[j11]!).c o.N ∧ (es[j11]!).m.testBit (o.N).toNat = false))
          · refine OPS.batch 0 {} [] [12, 14, 69] [.int .i64 (qErr (es[j11]!).c o.N), .int .i64 (qErr (es[j11]!).c o.N), .bool (b274 == b283)] .nil (by kernel_rfl) (fun b291 => ?_)
            refine OPS.re [.int .i64 (qErr (es[j11]!).c o.N), .int .i64 (qErr (es[j11]!).c o.N), .bool true] (by rw [show (b274 == b283) = true from (Bp.beq hb275 hb284).tt h290]) ?_
            refine OPS.batch 5 { wraps := [73] } [] [4] [.bool (decide ((qErr (es[j11]!).c o.N) = (qErr (es[j11]!).c o.N)))] .nil (by kernel_rfl) (fun b292 => ?_)
            refine OPS.nil ?_
            refine thn_n ?_
            exact ⟨decide ((qErr (es[j11]!).c o.N) = (qErr (es[j11]!).c o.N)), trivial, Bp.of Bp.dec (by first | (simp only [h290, iff_false, false_iff, iff_true, true_iff, Classical.not_not, and_true, true_and, and_false, false_and, or_true, true_or, or_false, false_or, not_true_eq_false, not_false_eq_true, and_self, or_self, iff_self]; done) | (simp [h290]; done) | simp_all), by kernel_rfl, hp282⟩
          · refine OPS.batch 0 {} [] [12, 14, 69] [.int .i64 (qErr (es[j11]!).c o.N), .int .i64 (qErr (es[j11]!).c o.N), .bool (b274 == b283)] .nil (by kernel_rfl) (fun b293 => ?_)
            refine OPS.re [.int .i64 (qErr (es[j11]!).c o.N), .int .i64 (qErr (es[j11]!).c o.N), .bool false] (by rw [show (b274 == b283) = false from (Bp.beq hb275 hb284).ff h290]) ?_
            refine OPS.batch 5 { wraps := [73] } [] [4] [.bool false] .nil (by kernel_rfl) (fun b294 => ?_)
            refine OPS.nil ?_
            refine thn_n ?_
            exact ⟨false, trivial, Bp.of Bp.f (by first | (simp only [h290, iff_false, false_iff, iff_true, true_iff, Classical.not_not, and_true, true_and, and_false, false_and, or_true, true_or, or_false, false_or, not_true_eq_false, not_false_eq_true, and_self, or_self, iff_self]; done) | (simp [h290]; done) | simp_all), by kernel_rfl, hp282⟩
        rintro e297 w298 ⟨x295, hd300, hb296, hE301, hp299⟩
        obtain ⟨b302, rfl⟩ := toMk hE301
        clear hE301
        clear hd300
        refine WP.ret ?_
        refine blk_r ?_
        refine thn_r ?_
        refine bodyQ.of _ rfl [.bool x295] ⟨rfl, trivial⟩ ?_
        have hp303 := (hp299.sub (.cons_cons _ (.cons_cons _ (.cons_cons _ (.cons_cons _ (.cons _ (.refl _)))))))
        rw [← ent_set (f := entS) (e := e285) hj12 (by unfold entS; rw [hr286.2.2.2.1]), ← ent_set (f := entR) (e := e285) hj12 (by unfold entR; rw [hr286.2.2.2.2])] at hp303
        exact ⟨(es.set j11 e285), _, _, _, _, _, _, congrArg (fun b => Ending.returned (.bool b)) (Bp.tt hb296 (by first | exact ⟨Iff.rfl, rfl⟩ | exact ⟨rfl, rfl⟩ | exact Iff.rfl | rfl | simp)), ok_setQ (fun i hi _ => hok i hi) hj12 ⟨by rw [hr286.2.1]; exact (hok _ hj12).1, by rw [hr286.2.1, hr286.2.2.1]; exact hr286.1⟩, by rw [List.length_set]; omega, hp303⟩
      · refine WP.seq ?_
        refine WP.pure {} [] [0, 3, 5, 6, 29, 74] [.pointer (some ⟨bk, 0, none⟩), .pointer (some ⟨g3, 0, none⟩), .pointer (some ⟨(es[j11]!).p, 0, none⟩), .pointer (some ⟨(es[j11]!).q, 0, none⟩), .int .i64 o.Kind, .bool (decide (o.Kind = 2))] .nil (by kernel_rfl) (fun b304 => ?_)
        refine thn_n ?_
        refine WP.test (p := o.Kind = 2) rfl Bp.dec (fun h305 => ?_) (fun h305 => ?_)
        · refine WP.seq ?_
          have hp308 := hp15.drew
          refine WP.quiet (fun w306 => Hp w0 Non (Res.ents es :: Res.row bk [.slice aS nS cS, .slice aR nR cR] 80 :: Res.own 62 1 (.slice aS nS cS) nS (List.flatMap entS es) :: Res.own 85 1 (.slice aR nR cR) nR (List.flatMap entR es) :: Res.row g3 [.int .i64 o.Kind, .int .i64 o.Config.N, .int .i64 o.Config.K, .int .i64 o.Config.Delta, .int .i64 o.I, .int .i64 o.J, .int .i64 o.N] 82 :: L) w306) (by kernel_rfl) hp308 ?_
          have hnehp308 : ∃ wz_, (fun w306 => Hp w0 Non (Res.ents es :: Res.row bk [.slice aS nS cS, .slice aR nR cR] 80 :: Res.own 62 1 (.slice aS nS cS) nS (List.flatMap entS es) :: Res.own 85 1 (.slice aR nR cR) nR (List.flatMap entR es) :: Res.row g3 [.int .i64 o.Kind, .int .i64 o.Config.N, .int .i64 o.Config.K, .int .i64 o.Config.Delta, .int .i64 o.I, .int .i64 o.J, .int .i64 o.N] 82 :: L) w306) wz_ := ⟨_, hp308⟩
          refine QOPS.batch 2 {} [] [3, 5, 6, 76, 77] [.pointer (some ⟨g3, 0, none⟩), .pointer (some ⟨(es[j11]!).p, 0, none⟩), .pointer (some ⟨(es[j11]!).q, 0, none⟩), .pointer (some ⟨(es[j11]!).p, 0, none⟩), .pointer (some ⟨(es[j11]!).q, 0, none⟩)] hnehp308 (fun w309 hp310 => QB.mk .nil (by kernel_rfl)) (fun b311 => ?_)
          refine QOPS.call (some 78) [.pointer (some ⟨(es[j11]!).p, 0, none⟩), .pointer (some ⟨(es[j11]!).q, 0, none⟩)] (by kernel_rfl) (fun w312 hp313 => same_at hok hj12 hp313) ?_
          refine QOPS.batch 4 {} [.int .i64 o.N] [3, 6, 79, 80, 82] [.pointer (some ⟨g3, 0, none⟩), .pointer (some ⟨(es[j11]!).q, 0, none⟩), .bool true, .pointer (some ⟨(es[j11]!).p, 0, none⟩), .int .i64 o.N] hnehp308 (fun w314 hp315 => QB.mk (.cons (Ld.row1 (P := Try.prog) (t := 3) (o := 6) (v := .int .i64 o.N) hp315.get4 (by kernel_rfl)) .nil) (by kernel_rfl)) (fun b316 => ?_)
          refine QOPS.call (some 83) [.pointer (some ⟨(es[j11]!).p, 0, none⟩), .int .i64 o.N] (by kernel_rfl) (fun w317 hp318 => (qHas_at hok hj12 hp318 o.N).mono fun _ _ h => by obtain ⟨b, h1, h2, h3⟩ := h; exact ⟨by rw [h1, h2.eq_bo], h3⟩) ?_
          refine QOPS.batch 3 {} [.int .i64 o.N] [79, 83, 84, 86] [.bool true, .bool (bo (inN (es[j11]!).c o.N ∧ (es[j11]!).m.testBit (o.N).toNat = true)), .pointer (some ⟨(es[j11]!).q, 0, none⟩), .int .i64 o.N] hnehp308 (fun w319 hp320 => QB.mk (.cons (Ld.row1 (P := Try.prog) (t := 3) (o := 6) (v := .int .i64 o.N) hp320.get4 (by kernel_rfl)) .nil) (by kernel_rfl)) (fun b321 => ?_)
          refine QOPS.call (some 87) [.pointer (some ⟨(es[j11]!).q, 0, none⟩), .int .i64 o.N] (by kernel_rfl) (fun w322 hp323 => (rHas_at hok hj12 hp323 o.N).mono fun _ _ h => by obtain ⟨b, h1, h2, h3⟩ := h; exact ⟨by rw [h1, h2.eq_bo], h3⟩) ?_
          refine QOPS.batch 3 { wraps := [89] } [] [4] [.bool ((bo (inN (es[j11]!).c o.N ∧ (es[j11]!).m.testBit (o.N).toNat = true)) == (bo (inN (es[j11]!).c o.N ∧ (es[j11]!).m.testBit (o.N).toNat = true)))] hnehp308 (fun w324 hp325 => QB.mk .nil (by kernel_rfl)) (fun b326 => ?_)
          refine QOPS.nil (fun w327 hp328 => ?_)
          refine thn_n ?_
          refine WP.ret ?_
          refine blk_r ?_
          refine thn_r ?_
          refine bodyQ.of _ rfl [.bool ((bo (inN (es[j11]!).c o.N ∧ (es[j11]!).m.testBit (o.N).toNat = true)) == (bo (inN (es[j11]!).c o.N ∧ (es[j11]!).m.testBit (o.N).toNat = true)))] ⟨rfl, trivial⟩ ?_
          exact ⟨es, _, _, _, _, _, _, congrArg (fun b => Ending.returned (.bool b)) (Bp.tt (Bp.beq Bp.bo Bp.bo) (by first | exact ⟨Iff.rfl, rfl⟩ | exact ⟨rfl, rfl⟩ | exact Iff.rfl | rfl | simp)), hok, by omega, (hp328.sub (.cons_cons _ (.cons_cons _ (.cons_cons _ (.cons_cons _ (.cons _ (.refl _)))))))⟩
        · refine WP.seq ?_
          refine WP.pure {} [] [0, 3, 5, 6, 29, 90] [.pointer (some ⟨bk, 0, none⟩), .pointer (some ⟨g3, 0, none⟩), .pointer (some ⟨(es[j11]!).p, 0, none⟩), .pointer (some ⟨(es[j11]!).q, 0, none⟩), .int .i64 o.Kind, .bool (decide (o.Kind = 3))] .nil (by kernel_rfl) (fun b329 => ?_)
          refine thn_n ?_
          refine WP.test (p := o.Kind = 3) rfl Bp.dec (fun h330 => ?_) (fun h330 => ?_)
          · refine WP.seq ?_
            refine WP.region _ rfl (by kernel_rfl) ?_
            refine OPS.batch 3 {} [.int .i64 o.J] [0, 5, 6, 93, 95] [.pointer (some ⟨bk, 0, none⟩), .pointer (some ⟨(es[j11]!).p, 0, none⟩), .pointer (some ⟨(es[j11]!).q, 0, none⟩), .pointer (some ⟨bk, 0, none⟩), .int .i64 o.J] (.cons (Ld.row1 (P := Try.prog) (t := 3) (o := 5) (v := .int .i64 o.J) hp15.get4 (by kernel_rfl)) .nil) (by kernel_rfl) (fun b331 => ?_)
            have hp334 := hp15.pull3
            have hp335 := hp334.pull3
            have hp336 := hp335.pull3
            refine OPS.cons (opStep.call (some 96) [.pointer (some ⟨bk, 0, none⟩), .int .i64 o.J] (by kernel_rfl) (book_at _ _ bk es aS nS cS aR nR cR _ o.J hel hp336) ?_)
            rintro _ w339 ⟨j337, hj338, hp340⟩
            have hp341 := hp340.pull3
            rcases hj338 with ⟨hj338, rfl⟩ | ⟨hj338, rfl⟩
            · refine ⟨_, rfl, ?_⟩
              refine OPS.batch 5 {} [] [0, 5, 6, 15, 16] [.pointer (some ⟨bk, 0, none⟩), .pointer (some ⟨(es[j11]!).p, 0, none⟩), .pointer (some ⟨(es[j11]!).q, 0, none⟩), .pointer none, .pointer none] .nil (by kernel_rfl) (fun b342 => ?_)
              refine OPS.nil ?_
              refine thn_n ?_
              refine WP.seq ?_
              refine WP.region _ rfl (by kernel_rfl) ?_
              refine OPS.batch 2 {} [] [0, 6, 16, 100, 101] [.pointer (some ⟨bk, 0, none⟩), .pointer (some ⟨(es[j11]!).q, 0, none⟩), .pointer none, .pointer (some ⟨(es[j11]!).p, 0, none⟩), .pointer none] .nil (by kernel_rfl) (fun b343 => ?_)
              have hp346 := hp341.pull0
              refine OPS.cons (opStep.call (some 102) [.pointer (some ⟨(es[j11]!).p, 0, none⟩), .pointer none] (by kernel_rfl) (qAndN_at hok hj12 hp346) ?_)
              rintro _ w347 ⟨rfl, hp348⟩
              refine ⟨_, rfl, ?_⟩
              refine OPS.batch 5 {} [] [0, 6, 16, 17, 18] [.pointer (some ⟨bk, 0, none⟩), .pointer (some ⟨(es[j11]!).q, 0, none⟩), .pointer none, .pointer none, .int .i64 1] .nil (by kernel_rfl) (fun b349 => ?_)
              refine OPS.nil ?_
              refine thn_n ?_
              refine WP.seq ?_
              refine WP.region _ rfl (by kernel_rfl) ?_
              refine OPS.batch 2 {} [] [0, 17, 18, 106, 107] [.pointer (some ⟨bk, 0, none⟩), .pointer none, .int .i64 1, .pointer (some ⟨(es[j11]!).q, 0, none⟩), .pointer none] .nil (by kernel_rfl) (fun b350 => ?_)
              have hp353 := hp348.pull0
              refine OPS.cons (opStep.call (some 108) [.pointer (some ⟨(es[j11]!).q, 0, none⟩), .pointer none] (by kernel_rfl) (rAndN_at hok hj12 hp353) ?_)
              rintro _ w354 ⟨rfl, hp355⟩
              refine ⟨_, rfl, ?_⟩
              refine OPS.batch 5 {} [] [0, 17, 18, 19, 20] [.pointer (some ⟨bk, 0, none⟩), .pointer none, .int .i64 1, .pointer none, .int .i64 1] .nil (by kernel_rfl) (fun b356 => ?_)
              refine OPS.nil ?_
              refine thn_n ?_
              refine WP.seq ?_
              refine WP.region _ rfl (by kernel_rfl) ?_
              refine OPS.batch 5 {} [] [111, 112, 113, 114, 115] [.pointer (some ⟨bk, 0, none⟩), .pointer none, .int .i64 1, .pointer none, .int .i64 1] .nil (by kernel_rfl) (fun b357 => ?_)
              refine OPS.cons (opStep.call (some 116) [.pointer (some ⟨bk, 0, none⟩), .pointer none, .int .i64 1, .pointer none, .int .i64 1] (by kernel_rfl) (keep_nil _ (some ⟨bk, 0, none⟩) 1) ?_)
              rintro _ w360 ⟨rfl, hf361⟩
              refine ⟨_, rfl, ?_⟩
              have hp362 := hp355.step hf361
              refine OPS.batch 1 {} [] [4] [.bool true] .nil (by kernel_rfl) (fun b363 => ?_)
              refine OPS.nil ?_
              refine thn_n ?_
              refine WP.ret ?_
              refine blk_r ?_
              refine thn_r ?_
              refine bodyQ.of _ rfl [.bool true] ⟨rfl, trivial⟩ ?_
              exact ⟨es, _, _, _, _, _, _, rfl, hok, by omega, (hp362.sub (.cons_cons _ (.cons_cons _ (.cons_cons _ (.cons_cons _ (.cons _ (.refl _)))))))⟩
            · refine ⟨_, rfl, ?_⟩
              refine OPS.batch 5 {} [] [0, 5, 6, 15, 16] [.pointer (some ⟨bk, 0, none⟩), .pointer (some ⟨(es[j11]!).p, 0, none⟩), .pointer (some ⟨(es[j11]!).q, 0, none⟩), .pointer (some ⟨(es[j337]!).p, 0, none⟩), .pointer (some ⟨(es[j337]!).q, 0, none⟩)] .nil (by kernel_rfl) (fun b364 => ?_)
              refine OPS.nil ?_
              refine thn_n ?_
              refine WP.seq ?_
              refine WP.region _ rfl (by kernel_rfl) ?_
              refine OPS.batch 2 {} [] [0, 6, 16, 100, 101] [.pointer (some ⟨bk, 0, none⟩), .pointer (some ⟨(es[j11]!).q, 0, none⟩), .pointer (some ⟨(es[j337]!).q, 0, none⟩), .pointer (some ⟨(es[j11]!).p, 0, none⟩), .pointer (some ⟨(es[j337]!).p, 0, none⟩)] .nil (by kernel_rfl) (fun b365 => ?_)
              have hp368 := hp341.pull0
              refine OPS.cons (opStep.call (some 102) [.pointer (some ⟨(es[j11]!).p, 0, none⟩), .pointer (some ⟨(es[j337]!).p, 0, none⟩)] (by kernel_rfl) (qAnd_at hok hj12 hj338 hp368) ?_)
              rintro _ w369 (⟨hce_, g371, rfl, hp370⟩ | ⟨hce_, rfl, hp370⟩)
              · refine ⟨_, rfl, ?_⟩
                refine OPS.batch 5 {} [] [0, 6, 16, 17, 18] [.pointer (some ⟨bk, 0, none⟩), .pointer (some ⟨(es[j11]!).q, 0, none⟩), .pointer (some ⟨(es[j337]!).q, 0, none⟩), .pointer (some ⟨g371, 0, none⟩), .int .i64 0] .nil (by kernel_rfl) (fun b372 => ?_)
                refine OPS.nil ?_
                refine thn_n ?_
                refine WP.seq ?_
                refine WP.region _ rfl (by kernel_rfl) ?_
                refine OPS.batch 2 {} [] [0, 17, 18, 106, 107] [.pointer (some ⟨bk, 0, none⟩), .pointer (some ⟨g371, 0, none⟩), .int .i64 0, .pointer (some ⟨(es[j11]!).q, 0, none⟩), .pointer (some ⟨(es[j337]!).q, 0, none⟩)] .nil (by kernel_rfl) (fun b373 => ?_)
                have hp376 := hp370.pull1
                refine OPS.cons (opStep.call (some 108) [.pointer (some ⟨(es[j11]!).q, 0, none⟩), .pointer (some ⟨(es[j337]!).q, 0, none⟩)] (by kernel_rfl) (rAnd_at hok hj12 hj338 hp376) ?_)
                rintro _ w377 (⟨hcf_, g379, ya380, yn381, yc382, rfl, hp378⟩ | ⟨hcf_, rfl, hp378⟩)
                · refine ⟨_, rfl, ?_⟩
                  refine OPS.batch 5 {} [] [0, 17, 18, 19, 20] [.pointer (some ⟨bk, 0, none⟩), .pointer (some ⟨g371, 0, none⟩), .int .i64 0, .pointer (some ⟨g379, 0, none⟩), .int .i64 0] .nil (by kernel_rfl) (fun b383 => ?_)
                  refine OPS.nil ?_
                  refine thn_n ?_
                  refine WP.seq ?_
                  refine WP.region _ rfl (by kernel_rfl) ?_
                  refine OPS.batch 5 {} [] [111, 112, 113, 114, 115] [.pointer (some ⟨bk, 0, none⟩), .pointer (some ⟨g371, 0, none⟩), .int .i64 0, .pointer (some ⟨g379, 0, none⟩), .int .i64 0] .nil (by kernel_rfl) (fun b384 => ?_)
                  have hp387 := hp378.pull2
                  have hp388 := hp387.pull2
                  have hp389 := hp388.pull2
                  have hp390 := hp389.pull3
                  have hp391 := hp390.pull6
                  have hp392 := hp391.pull6
                  have hp393 := hp392.pull6
                  have hek_ : Ent.ok (⟨g371, g379, (es[j11]!).c, ((es[j11]!).m &&& (es[j337]!).m), ((es[j11]!).ys.filter fun y => (es[j337]!).m.testBit y.toNat), ya380, yn381, yc382⟩ : Ent) := ⟨(hok j11 hj12).1, rel_and (hok j11 hj12).2⟩
                  refine OPS.cons (opStep.call (some 116) [.pointer (some ⟨bk, 0, none⟩), .pointer (some ⟨g371, 0, none⟩), .int .i64 0, .pointer (some ⟨g379, 0, none⟩), .int .i64 0] (by kernel_rfl) (keep_ok _ _ bk es aS nS cS aR nR cR (⟨g371, g379, (es[j11]!).c, ((es[j11]!).m &&& (es[j337]!).m), ((es[j11]!).ys.filter fun y => (es[j337]!).m.testBit y.toNat), ya380, yn381, yc382⟩ : Ent) _ 0 hel hek_ hp393) ?_)
                  rintro _ w400 ⟨aS394, nS395, cS396, aR397, nR398, cR399, rfl, hp401⟩
                  refine ⟨_, rfl, ?_⟩
                  have hp402 := (Hp.entCons (e := (⟨g371, g379, (es[j11]!).c, ((es[j11]!).m &&& (es[j337]!).m), ((es[j11]!).ys.filter fun y => (es[j337]!).m.testBit y.toNat), ya380, yn381, yc382⟩ : Ent)) (hp401.pull6.pull6.pull6.pull6)).entsPerm (List.perm_append_singleton (⟨g371, g379, (es[j11]!).c, ((es[j11]!).m &&& (es[j337]!).m), ((es[j11]!).ys.filter fun y => (es[j337]!).m.testBit y.toNat), ya380, yn381, yc382⟩ : Ent) es).symm
                  refine OPS.batch 1 {} [] [4] [.bool true] .nil (by kernel_rfl) (fun b403 => ?_)
                  refine OPS.nil ?_
                  refine thn_n ?_
                  refine WP.ret ?_
                  refine blk_r ?_
                  refine thn_r ?_
                  refine bodyQ.of _ rfl [.bool true] ⟨rfl, trivial⟩ ?_
                  exact ⟨(es ++ [(⟨g371, g379, (es[j11]!).c, ((es[j11]!).m &&& (es[j337]!).m), ((es[j11]!).ys.filter fun y => (es[j337]!).m.testBit y.toNat), ya380, yn381, yc382⟩ : Ent)]), _, _, _, _, _, _, rfl, ok_app hok hek_, by simp, (hp402.sub (.cons_cons _ (.cons_cons _ (.cons_cons _ (.cons_cons _ (.cons _ (.refl _)))))))⟩
                · exact absurd hce_ hcf_
              · refine ⟨_, rfl, ?_⟩
                refine OPS.batch 5 {} [] [0, 6, 16, 17, 18] [.pointer (some ⟨bk, 0, none⟩), .pointer (some ⟨(es[j11]!).q, 0, none⟩), .pointer (some ⟨(es[j337]!).q, 0, none⟩), .pointer none, .int .i64 1] .nil (by kernel_rfl) (fun b404 => ?_)
                refine OPS.nil ?_
                refine thn_n ?_
                refine WP.seq ?_
                refine WP.region _ rfl (by kernel_rfl) ?_
                refine OPS.batch 2 {} [] [0, 17, 18, 106, 107] [.pointer (some ⟨bk, 0, none⟩), .pointer none, .int .i64 1, .pointer (some ⟨(es[j11]!).q, 0, none⟩), .pointer (some ⟨(es[j337]!).q, 0, none⟩)] .nil (by kernel_rfl) (fun b405 => ?_)
                have hp408 := hp370.pull0
                refine OPS.cons (opStep.call (some 108) [.pointer (some ⟨(es[j11]!).q, 0, none⟩), .pointer (some ⟨(es[j337]!).q, 0, none⟩)] (by kernel_rfl) (rAnd_at hok hj12 hj338 hp408) ?_)
                rintro _ w409 (⟨hcf_, g411, ya412, yn413, yc414, rfl, hp410⟩ | ⟨hcf_, rfl, hp410⟩)
                · exact absurd hcf_ hce_
                · refine ⟨_, rfl, ?_⟩
                  refine OPS.batch 5 {} [] [0, 17, 18, 19, 20] [.pointer (some ⟨bk, 0, none⟩), .pointer none, .int .i64 1, .pointer none, .int .i64 1] .nil (by kernel_rfl) (fun b415 => ?_)
                  refine OPS.nil ?_
                  refine thn_n ?_
                  refine WP.seq ?_
                  refine WP.region _ rfl (by kernel_rfl) ?_
                  refine OPS.batch 5 {} [] [111, 112, 113, 114, 115] [.pointer (some ⟨bk, 0, none⟩), .pointer none, .int .i64 1, .pointer none, .int .i64 1] .nil (by kernel_rfl) (fun b416 => ?_)
                  refine OPS.cons (opStep.call (some 116) [.pointer (some ⟨bk, 0, none⟩), .pointer none, .int .i64 1, .pointer none, .int .i64 1] (by kernel_rfl) (keep_nil _ (some ⟨bk, 0, none⟩) 1) ?_)
                  rintro _ w419 ⟨rfl, hf420⟩
                  refine ⟨_, rfl, ?_⟩
                  have hp421 := hp410.step hf420
                  refine OPS.batch 1 {} [] [4] [.bool true] .nil (by kernel_rfl) (fun b422 => ?_)
                  refine OPS.nil ?_
                  refine thn_n ?_
                  refine WP.ret ?_
                  refine blk_r ?_
                  refine thn_r ?_
                  refine bodyQ.of _ rfl [.bool true] ⟨rfl, trivial⟩ ?_
                  exact ⟨es, _, _, _, _, _, _, rfl, hok, by omega, (hp421.sub (.cons_cons _ (.cons_cons _ (.cons_cons _ (.cons_cons _ (.cons _ (.refl _)))))))⟩
          · refine WP.seq ?_
            refine WP.pure {} [] [0, 5, 6, 117] [.pointer (some ⟨bk, 0, none⟩), .pointer (some ⟨(es[j11]!).p, 0, none⟩), .pointer (some ⟨(es[j11]!).q, 0, none⟩), .bool (decide (o.Kind = 4))] .nil (by kernel_rfl) (fun b423 => ?_)
            refine thn_n ?_
            refine WP.test (p := o.Kind = 4) rfl Bp.dec (fun h424 => ?_) (fun h424 => ?_)
            · refine WP.seq ?_
              refine WP.region _ rfl (by kernel_rfl) ?_
              refine OPS.batch 2 {} [] [6, 119, 120] [.pointer (some ⟨(es[j11]!).q, 0, none⟩), .pointer (some ⟨bk, 0, none⟩), .pointer (some ⟨(es[j11]!).p, 0, none⟩)] .nil (by kernel_rfl) (fun b425 => ?_)
              have hp428 := hp15.pull0
              refine OPS.cons (opStep.call (some 121) [.pointer (some ⟨(es[j11]!).p, 0, none⟩)] (by kernel_rfl) (qCopy_at hok hj12 hp428) ?_)
              rintro _ w429 ⟨g431, rfl, hp430⟩
              refine ⟨_, rfl, ?_⟩
              refine OPS.batch 1 {} [] [119, 121, 122] [.pointer (some ⟨bk, 0, none⟩), .pointer (some ⟨g431, 0, none⟩), .pointer (some ⟨(es[j11]!).q, 0, none⟩)] .nil (by kernel_rfl) (fun b432 => ?_)
              have hp435 := hp430.pull1
              refine OPS.cons (opStep.call (some 123) [.pointer (some ⟨(es[j11]!).q, 0, none⟩)] (by kernel_rfl) (rCopy_at hok hj12 hp435) ?_)
              rintro _ w436 ⟨g438, ya439, yn440, yc441, rfl, hp437⟩
              refine ⟨_, rfl, ?_⟩
              have hp444 := hp437.pull2
              have hp445 := hp444.pull2
              have hp446 := hp445.pull2
              have hp447 := hp446.pull3
              have hp448 := hp447.pull6
              have hp449 := hp448.pull6
              have hp450 := hp449.pull6
              have hek_ : Ent.ok (⟨g431, g438, (es[j11]!).c, (es[j11]!).m, (es[j11]!).ys, ya439, yn440, yc441⟩ : Ent) := ⟨(hok j11 hj12).1, (hok j11 hj12).2⟩
              refine OPS.cons (opStep.call (some 124) [.pointer (some ⟨bk, 0, none⟩), .pointer (some ⟨g431, 0, none⟩), .int .i64 0, .pointer (some ⟨g438, 0, none⟩), .int .i64 0] (by kernel_rfl) (keep_ok _ _ bk es aS nS cS aR nR cR (⟨g431, g438, (es[j11]!).c, (es[j11]!).m, (es[j11]!).ys, ya439, yn440, yc441⟩ : Ent) _ 0 hel hek_ hp450) ?_)
              rintro _ w457 ⟨aS451, nS452, cS453, aR454, nR455, cR456, rfl, hp458⟩
              refine ⟨_, rfl, ?_⟩
              have hp459 := (Hp.entCons (e := (⟨g431, g438, (es[j11]!).c, (es[j11]!).m, (es[j11]!).ys, ya439, yn440, yc441⟩ : Ent)) (hp458.pull6.pull6.pull6.pull6)).entsPerm (List.perm_append_singleton (⟨g431, g438, (es[j11]!).c, (es[j11]!).m, (es[j11]!).ys, ya439, yn440, yc441⟩ : Ent) es).symm
              refine OPS.batch 1 {} [] [4] [.bool true] .nil (by kernel_rfl) (fun b460 => ?_)
              refine OPS.nil ?_
              refine thn_n ?_
              refine WP.ret ?_
              refine blk_r ?_
              refine thn_r ?_
              refine bodyQ.of _ rfl [.bool true] ⟨rfl, trivial⟩ ?_
              exact ⟨(es ++ [(⟨g431, g438, (es[j11]!).c, (es[j11]!).m, (es[j11]!).ys, ya439, yn440, yc441⟩ : Ent)]), _, _, _, _, _, _, rfl, ok_app hok hek_, by simp, (hp459.sub (.cons_cons _ (.cons_cons _ (.cons_cons _ (.cons_cons _ (.cons _ (.refl _)))))))⟩
            · refine WP.skip ?_
              refine blk_n ?_
              refine thn_n ?_
              refine WP.seq ?_
              refine WP.pure {} [] [4] [.bool true] .nil (by kernel_rfl) (fun b461 => ?_)
              refine thn_n ?_
              refine WP.ret ?_
              refine bodyQ.of _ rfl [.bool true] ⟨rfl, trivial⟩ ?_
              exact ⟨es, _, _, _, _, _, _, rfl, hok, by omega, (hp15.sub (.cons_cons _ (.cons_cons _ (.cons_cons _ (.cons_cons _ (.cons _ (.refl _)))))))⟩

end Go.Proofs.Ythdkbbpiaeaojaa.K
