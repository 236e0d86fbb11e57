/- Texts of this claim, merged: what the program's functions compute, and the rules that the walks use. -/
import Derived.Test.YtdkgdidnknojlaaProg
import Derived.Test.YtdkgdidnknojlaaZ1
import Derived.Test.YtdkgdidnknojlaaZ5
namespace Go.Proofs.Ytdkgdidnknojlaa.K
open Go Go.Proofs Go.RowKit
set_option linter.unusedVariables false
set_option linter.unusedSimpArgs false
set_option maxRecDepth 20000
set_option maxHeartbeats 4000000

theorem fin_old (w0 w : World) (L : List Res) (tb m dl : Nat) (T : Tb) (F : Nat → Prop) (D : List (SlH × ByteArray)) (key : ByteArray) (g : GTag) (hdl : dl ≤ 4611686018427387903) (hp0' : Hp w0 Non (Res.row tb [.int .i64 (dl : Int), .map (some m)] 54 :: Res.mp m kS vO T :: Res.all (T.map shRes) :: Res.dat F D :: L) w) (s : Sf) (hk : mapV T key = some (some s)) (hl : s.l.length ≤ 1048599) (hnd : (s.l.map Prod.fst).Nodup) :
    Calls Try.prog 24 #[.pointer (some ⟨tb, 0, none⟩), .string key, GTag.val g] w (fun r_ w' => ∃ f T2, r_ = .returned (.bool f) ∧ FinR T key g dl f T2 ∧ Hp w0 Non (Res.row tb [.int .i64 (dl : Int), .map (some m)] 54 :: Res.mp m kS vO T2 :: Res.all (T2.map shRes) :: Res.dat F D :: L) w') := by
  have hp0 := (show Hp w0 Non (Res.mp s.b kT vE s.l :: Res.all ((mapDel T key).map shRes) :: Res.row tb [.int .i64 ((dl : Nat) : Int), .map (some m)] 54 :: Res.mp m kS vO T :: Res.dat F D :: L) w from ((hp0'.pull2).shPop hk))
  have hlp := put_len (l := s.l) (k := g) (v := (⟨⟨g, true, ((mapV s.l g).getD en0).e.Has, ((mapV s.l g).getD en0).e.Data⟩, ((mapV s.l g).getD en0).d⟩ : En))
  refine calls_of Try.func24 rfl 66 rfl (by simp) ?_
  have he0 : List.map (env0 [.pointer (some ⟨tb, 0, none⟩), .string key, GTag.val g]) [0, 1, 2] = [.pointer (some ⟨tb, 0, none⟩), .string key, GTag.val g] := by kernel_rfl
  obtain ⟨b0, he0⟩ := toMk he0
  rw [he0]
  clear he0
  refine WP.seq ?_
  refine WP.region _ rfl (by kernel_rfl) ?_
  refine OPS.cons (opStep.box hp0 [.int .i64 g.Count, .int .i64 g.Client] (by kernel_rfl) (fun g3 w1 hp2 => ?_))
  refine OPS.batch 1 {} [] [0, 1, 5] [.pointer (some ⟨tb, 0, none⟩), .string key, .pointer (some ⟨g3, 0, none⟩)] .nil (by kernel_rfl) (fun b4 => ?_)
  refine OPS.nil ?_
  refine thn_n ?_
  refine WP.seq ?_
  refine WP.pure {} [.map (some m), .map (some s.b)] [0, 1, 5, 7] [.pointer (some ⟨tb, 0, none⟩), .string key, .pointer (some ⟨g3, 0, none⟩), .map (some s.b)] (.cons (Ld.row1 (P := Try.prog) (t := 52) (o := 1) (v := .map (some m)) hp2.get3 (by kernel_rfl)) (.cons (by have h_ := Lk.noD (vf := vO) keyKey (by exact Try.underlying52) hp2.get4 key none (by kernel_rfl); rw [hk] at h_; exact h_) .nil)) (by kernel_rfl) (fun b5 => ?_)
  refine thn_n ?_
  refine WP.seq ?_
  refine WP.region _ rfl (by kernel_rfl) ?_
  refine OPS.batch 3 {} [GTag.val g, GEntry.val (((mapV s.l g).getD en0).e)] [0, 1, 5, 7, 19] [.pointer (some ⟨tb, 0, none⟩), .string key, .pointer (some ⟨g3, 0, none⟩), .map (some s.b), GEntry.val (((mapV s.l g).getD en0).e)] (.cons (show Ld Try.prog w1 31 ⟨g3, 0, none⟩ (GTag.val g) from Ld.rowN (cs := [.int .i64 g.Count, .int .i64 g.Client]) hp2.get0 (by kernel_rfl)) (.cons (Lk.moW (vf := vE) keyTag (by exact Try.underlying56) (MO.of hp2.get1) g en0 (by kernel_rfl)) .nil)) (by kernel_rfl) (fun b6 => ?_)
  refine OPS.cons (opStep.alloc hp2 [.int .i64 0, .int .i64 0, .bool false, .bool false, .slice none 0 0] (by kernel_rfl) (fun g9 w7 hp8 => ?_))
  refine OPS.cons (opStep.store0 hp8 rfl [.int .i64 (((mapV s.l g).getD en0).e.Tag.Count), .int .i64 (((mapV s.l g).getD en0).e.Tag.Client), .bool (((mapV s.l g).getD en0).e.Fin), .bool (((mapV s.l g).getD en0).e.Has), .slice (((mapV s.l g).getD en0).e.Data.a) (((mapV s.l g).getD en0).e.Data.n) (((mapV s.l g).getD en0).e.Data.c)] [.int .i64 (((mapV s.l g).getD en0).e.Tag.Count), .int .i64 (((mapV s.l g).getD en0).e.Tag.Client), .bool (((mapV s.l g).getD en0).e.Fin), .bool (((mapV s.l g).getD en0).e.Has), .slice (((mapV s.l g).getD en0).e.Data.a) (((mapV s.l g).getD en0).e.Data.n) (((mapV s.l g).getD en0).e.Data.c)] (by kernel_rfl) (fun w10 hp11 => ?_))
  refine OPS.nil ?_
  refine thn_n ?_
  refine WP.seq ?_
  refine WP.cut (fun e43 w44 => ∃ (x41 : Bool), (True) ∧ Bp x41 ((((((mapV s.l g).getD en0).e.Fin) = true)) ∨ ((¬ ((((mapV s.l g).getD en0).e.Fin) = true)) ∧ ((tagCmp g (floT s.l dl)) < 0))) ∧ List.map e43 [0, 1, 5, 7, 8, 32] = [.pointer (some ⟨tb, 0, none⟩), .string key, .pointer (some ⟨g3, 0, none⟩), .map (some s.b), .pointer (some ⟨g9, 0, none⟩), .bool x41] ∧ Hp w0 Non (Res.row g9 [.int .i64 (((mapV s.l g).getD en0).e.Tag.Count), .int .i64 (((mapV s.l g).getD en0).e.Tag.Client), .bool (((mapV s.l g).getD en0).e.Fin), .bool (((mapV s.l g).getD en0).e.Has), .slice (((mapV s.l g).getD en0).e.Data.a) (((mapV s.l g).getD en0).e.Data.n) (((mapV s.l g).getD en0).e.Data.c)] 34 :: Res.row g3 [.int .i64 g.Count, .int .i64 g.Client] 31 :: Res.mp s.b kT vE s.l :: Res.all ((mapDel T key).map shRes) :: Res.row tb [.int .i64 ((dl : Nat) : Int), .map (some m)] 54 :: Res.mp m kS vO T :: Res.dat F D :: L) w44) ?_ ?_
  · have hp15 := hp11.drew
    refine WP.quiet (fun w13 => Hp w0 Non (Res.row g9 [.int .i64 (((mapV s.l g).getD en0).e.Tag.Count), .int .i64 (((mapV s.l g).getD en0).e.Tag.Client), .bool (((mapV s.l g).getD en0).e.Fin), .bool (((mapV s.l g).getD en0).e.Has), .slice (((mapV s.l g).getD en0).e.Data.a) (((mapV s.l g).getD en0).e.Data.n) (((mapV s.l g).getD en0).e.Data.c)] 34 :: Res.row g3 [.int .i64 g.Count, .int .i64 g.Client] 31 :: Res.mp s.b kT vE s.l :: Res.all ((mapDel T key).map shRes) :: Res.row tb [.int .i64 ((dl : Nat) : Int), .map (some m)] 54 :: Res.mp m kS vO T :: Res.dat F D :: L) w13) (by kernel_rfl) hp15 ?_
    have hnehp15 : ∃ wz_, (fun w13 => Hp w0 Non (Res.row g9 [.int .i64 (((mapV s.l g).getD en0).e.Tag.Count), .int .i64 (((mapV s.l g).getD en0).e.Tag.Client), .bool (((mapV s.l g).getD en0).e.Fin), .bool (((mapV s.l g).getD en0).e.Has), .slice (((mapV s.l g).getD en0).e.Data.a) (((mapV s.l g).getD en0).e.Data.n) (((mapV s.l g).getD en0).e.Data.c)] 34 :: Res.row g3 [.int .i64 g.Count, .int .i64 g.Client] 31 :: Res.mp s.b kT vE s.l :: Res.all ((mapDel T key).map shRes) :: Res.row tb [.int .i64 ((dl : Nat) : Int), .map (some m)] 54 :: Res.mp m kS vO T :: Res.dat F D :: L) w13) wz_ := ⟨_, hp15⟩
    refine QOPS.batch 3 {} [.bool (((mapV s.l g).getD en0).e.Fin)] [0, 1, 5, 7, 8, 22] [.pointer (some ⟨tb, 0, none⟩), .string key, .pointer (some ⟨g3, 0, none⟩), .map (some s.b), .pointer (some ⟨g9, 0, none⟩), .bool (((mapV s.l g).getD en0).e.Fin)] hnehp15 (fun w16 hp17 => QB.mk (.cons (Ld.row1 (P := Try.prog) (t := 4) (o := 2) (v := .bool (((mapV s.l g).getD en0).e.Fin)) hp17.get0 (by kernel_rfl)) .nil) (by kernel_rfl)) (fun b18 => ?_)
    by_cases h19 : (((mapV s.l g).getD en0).e.Fin) = true
    · refine QOPS.batch 0 {} [] [0, 1, 5, 7, 8, 22] [.pointer (some ⟨tb, 0, none⟩), .string key, .pointer (some ⟨g3, 0, none⟩), .map (some s.b), .pointer (some ⟨g9, 0, none⟩), .bool (((mapV s.l g).getD en0).e.Fin)] hnehp15 (fun _ _ => QB.mk .nil (by kernel_rfl)) (fun b20 => ?_)
      refine QOPS.re [.pointer (some ⟨tb, 0, none⟩), .string key, .pointer (some ⟨g3, 0, none⟩), .map (some s.b), .pointer (some ⟨g9, 0, none⟩), .bool true] (by rw [show (((mapV s.l g).getD en0).e.Fin) = true from Bp.var.tt h19]) ?_
      refine QOPS.batch 10 { wraps := [32] } [] [0, 1, 5, 7, 8, 32] [.pointer (some ⟨tb, 0, none⟩), .string key, .pointer (some ⟨g3, 0, none⟩), .map (some s.b), .pointer (some ⟨g9, 0, none⟩), .bool true] hnehp15 (fun w21 hp22 => QB.mk .nil (by kernel_rfl)) (fun b23 => ?_)
      refine QOPS.nil (fun w24 hp25 => ?_)
      refine thn_n ?_
      exact ⟨true, trivial, Bp.of Bp.t (by first | (simp only [h19, iff_false, false_iff, iff_true, true_iff, Classical.not_not, and_true, true_and, and_false, false_and, or_true, true_or, or_false, false_or, not_true_eq_false, not_false_eq_true, and_self, or_self, iff_self]; done) | (simp [h19]; done) | grind | (simp_all; done)), by kernel_rfl, hp25⟩
    · refine QOPS.batch 0 {} [] [0, 1, 5, 7, 8, 22] [.pointer (some ⟨tb, 0, none⟩), .string key, .pointer (some ⟨g3, 0, none⟩), .map (some s.b), .pointer (some ⟨g9, 0, none⟩), .bool (((mapV s.l g).getD en0).e.Fin)] hnehp15 (fun _ _ => QB.mk .nil (by kernel_rfl)) (fun b26 => ?_)
      refine QOPS.re [.pointer (some ⟨tb, 0, none⟩), .string key, .pointer (some ⟨g3, 0, none⟩), .map (some s.b), .pointer (some ⟨g9, 0, none⟩), .bool false] (by rw [show (((mapV s.l g).getD en0).e.Fin) = false from Bp.var.ff h19]) ?_
      refine QOPS.batch 6 {} [GTag.val g, .int .i64 ((dl : Nat) : Int)] [0, 1, 5, 7, 8, 22, 23, 24, 28] [.pointer (some ⟨tb, 0, none⟩), .string key, .pointer (some ⟨g3, 0, none⟩), .map (some s.b), .pointer (some ⟨g9, 0, none⟩), .bool false, GTag.val g, .map (some s.b), .int .i64 ((dl : Nat) : Int)] hnehp15 (fun w27 hp28 => QB.mk (.cons (show Ld Try.prog w27 31 ⟨g3, 0, none⟩ (GTag.val g) from Ld.rowN (cs := [.int .i64 g.Count, .int .i64 g.Client]) hp28.get1 (by kernel_rfl)) (.cons (Ld.row1 (P := Try.prog) (t := 3) (o := 0) (v := .int .i64 ((dl : Nat) : Int)) hp28.get4 (by kernel_rfl)) .nil)) (by kernel_rfl)) (fun b29 => ?_)
      refine QOPS.call (some 29) [.map (some s.b), .int .i64 ((dl : Nat) : Int)] (by kernel_rfl) (fun w30 hp31 => (fl_c (some s.b) s.l dl _ (MO.of hp31.get2) (by first | omega | (simp; done)) (by omega)).mono fun _ _ h => ⟨h.1, hp31.step h.2⟩) ?_
      refine QOPS.call (some 30) [GTag.val g, GTag.val (floT s.l dl)] (by kernel_rfl) (fun w34 hp35 => (tag_Compare g (floT s.l dl) _).mono fun _ _ h => ⟨h.1, hp35.step h.2⟩) ?_
      refine QOPS.batch 2 { wraps := [32] } [] [0, 1, 5, 7, 8, 32] [.pointer (some ⟨tb, 0, none⟩), .string key, .pointer (some ⟨g3, 0, none⟩), .map (some s.b), .pointer (some ⟨g9, 0, none⟩), .bool (decide ((tagCmp g (floT s.l dl)) < 0))] hnehp15 (fun w36 hp37 => QB.mk .nil (by kernel_rfl)) (fun b38 => ?_)
      refine QOPS.nil (fun w39 hp40 => ?_)
      refine thn_n ?_
      exact ⟨decide ((tagCmp g (floT s.l dl)) < 0), trivial, Bp.of Bp.dec (by first | (simp only [h19, iff_false, false_iff, iff_true, true_iff, Classical.not_not, and_true, true_and, and_false, false_and, or_true, true_or, or_false, false_or, not_true_eq_false, not_false_eq_true, and_self, or_self, iff_self]; done) | (simp [h19]; done) | grind | (simp_all; done)), by kernel_rfl, hp40⟩
  rintro e43 w44 ⟨x41, hd46, hb42, hE47, hp45⟩
  obtain ⟨b48, rfl⟩ := toMk hE47
  clear hE47
  clear hd46
  refine WP.test (p := (((((mapV s.l g).getD en0).e.Fin) = true)) ∨ ((¬ ((((mapV s.l g).getD en0).e.Fin) = true)) ∧ ((tagCmp g (floT s.l dl)) < 0))) rfl hb42 (fun h49 => ?_) (fun h49 => ?_)
  · refine WP.seq ?_
    refine WP.pure {} [] [6] [.bool false] .nil (by kernel_rfl) (fun b50 => ?_)
    refine thn_n ?_
    refine WP.ret ?_
    refine thn_r ?_
    refine bodyQ.of _ rfl [.bool false] ⟨rfl, trivial⟩ ?_
    have hen : enK T key g = (mapV s.l g).getD en0 := by unfold enK; rw [shK_some hk]; rfl
    have hsh : shO (shK T key) = s.l := by rw [shK_some hk]; rfl
    have hc : ¬ chgF T key g dl := by unfold chgF; rw [hen, hsh]; intro q; first | exact q h49 | exact q (.inl h49) | exact q (.inr ((cmp_lt _ _).1 h49)) | (simp_all [cmp_lt]; done)
    have hp51 := hp45.pull3
    have hp52 := hp51.pull3
    have hp53 := hp52.shBack hk
    have hp54 := hp53.pull5
    have hp55 := hp54.pull1
    have hp56 := hp55.pull5
    have hp57 := hp56.pull5
    exact ⟨false, T, rfl, .inl ⟨hc, rfl, rfl⟩, (hp57.sub (.cons_cons _ (.cons_cons _ (.cons_cons _ (.cons_cons _ (.cons _ (.cons _ (.refl _))))))))⟩
  · refine WP.skip ?_
    refine thn_n ?_
    refine WP.seq ?_
    refine WP.seq ?_
    refine WP.pure {} [] [0, 1, 5, 7, 8, 34] [.pointer (some ⟨tb, 0, none⟩), .string key, .pointer (some ⟨g3, 0, none⟩), .map (some s.b), .pointer (some ⟨g9, 0, none⟩), .bool false] .nil (by kernel_rfl) (fun b58 => ?_)
    refine thn_n ?_
    refine WP.condF rfl ?_
    refine WP.skip ?_
    refine thn_n ?_
    refine WP.seq ?_
    refine WP.region _ rfl (by kernel_rfl) ?_
    refine OPS.batch 2 {} [GTag.val g] [0, 5, 7, 8, 42, 43] [.pointer (some ⟨tb, 0, none⟩), .pointer (some ⟨g3, 0, none⟩), .map (some s.b), .pointer (some ⟨g9, 0, none⟩), GTag.val g, .pointer (some ⟨g9, 0, none⟩)] (.cons (show Ld Try.prog w44 31 ⟨g3, 0, none⟩ (GTag.val g) from Ld.rowN (cs := [.int .i64 g.Count, .int .i64 g.Client]) hp45.get1 (by kernel_rfl)) .nil) (by kernel_rfl) (fun b59 => ?_)
    refine OPS.cons (opStep.store0 hp45 rfl [.int .i64 g.Count, .int .i64 g.Client] [.int .i64 g.Count, .int .i64 g.Client, .bool (((mapV s.l g).getD en0).e.Fin), .bool (((mapV s.l g).getD en0).e.Has), .slice (((mapV s.l g).getD en0).e.Data.a) (((mapV s.l g).getD en0).e.Data.n) (((mapV s.l g).getD en0).e.Data.c)] (by kernel_rfl) (fun w60 hp61 => ?_))
    refine OPS.batch 1 {} [] [0, 5, 7, 8, 44] [.pointer (some ⟨tb, 0, none⟩), .pointer (some ⟨g3, 0, none⟩), .map (some s.b), .pointer (some ⟨g9, 0, none⟩), .pointer (some ⟨g9, 2, none⟩)] .nil (by kernel_rfl) (fun b62 => ?_)
    refine OPS.cons (opStep.store0 hp61 rfl [.bool true] [.int .i64 g.Count, .int .i64 g.Client, .bool true, .bool (((mapV s.l g).getD en0).e.Has), .slice (((mapV s.l g).getD en0).e.Data.a) (((mapV s.l g).getD en0).e.Data.n) (((mapV s.l g).getD en0).e.Data.c)] (by kernel_rfl) (fun w63 hp64 => ?_))
    refine OPS.nil ?_
    refine thn_n ?_
    refine WP.seq ?_
    refine WP.region _ rfl (by kernel_rfl) ?_
    refine OPS.batch 3 {} [GTag.val g, .agg #[.int .i64 g.Count, .int .i64 g.Client, .bool true, .bool (((mapV s.l g).getD en0).e.Has), .slice (((mapV s.l g).getD en0).e.Data.a) (((mapV s.l g).getD en0).e.Data.n) (((mapV s.l g).getD en0).e.Data.c)]] [0, 7, 45, 46, 47] [.pointer (some ⟨tb, 0, none⟩), .map (some s.b), .map (some s.b), GTag.val g, .agg #[.int .i64 g.Count, .int .i64 g.Client, .bool true, .bool (((mapV s.l g).getD en0).e.Has), .slice (((mapV s.l g).getD en0).e.Data.a) (((mapV s.l g).getD en0).e.Data.n) (((mapV s.l g).getD en0).e.Data.c)]] (.cons (show Ld Try.prog w63 31 ⟨g3, 0, none⟩ (GTag.val g) from Ld.rowN (cs := [.int .i64 g.Count, .int .i64 g.Client]) hp64.get1 (by kernel_rfl)) (.cons (show Ld Try.prog w63 34 ⟨g9, 0, none⟩ (.agg #[.int .i64 g.Count, .int .i64 g.Client, .bool true, .bool (((mapV s.l g).getD en0).e.Has), .slice (((mapV s.l g).getD en0).e.Data.a) (((mapV s.l g).getD en0).e.Data.n) (((mapV s.l g).getD en0).e.Data.c)]) from Ld.rowN (cs := [.int .i64 g.Count, .int .i64 g.Client, .bool true, .bool (((mapV s.l g).getD en0).e.Has), .slice (((mapV s.l g).getD en0).e.Data.a) (((mapV s.l g).getD en0).e.Data.n) (((mapV s.l g).getD en0).e.Data.c)]) hp64.get0 (by kernel_rfl)) .nil)) (by kernel_rfl) (fun b65 => ?_)
    refine OPS.cons (opStep.mapUpdate2 keyTag (by exact Try.underlying56) hp64 g (⟨(⟨g, true, ((mapV s.l g).getD en0).e.Has, ((mapV s.l g).getD en0).e.Data⟩ : GEntry), ((mapV s.l g).getD en0).d⟩ : En) (by kernel_rfl) (fun w66 hp67 => ?_))
    refine OPS.nil ?_
    refine thn_n ?_
    refine WP.seq ?_
    refine WP.region _ rfl (by kernel_rfl) ?_
    refine OPS.batch 5 {} [.int .i64 ((dl : Nat) : Int)] [7, 48, 52] [.map (some s.b), .map (some s.b), .int .i64 ((dl : Nat) : Int)] (.cons (Ld.row1 (P := Try.prog) (t := 3) (o := 0) (v := .int .i64 ((dl : Nat) : Int)) hp67.get4 (by kernel_rfl)) .nil) (by kernel_rfl) (fun b68 => ?_)
    refine OPS.cons (opStep.call (some 53) [.map (some s.b), .int .i64 ((dl : Nat) : Int)] (by kernel_rfl) (fl_c (some s.b) (mapPut s.l g (⟨(⟨g, true, ((mapV s.l g).getD en0).e.Has, ((mapV s.l g).getD en0).e.Data⟩ : GEntry), ((mapV s.l g).getD en0).d⟩ : En)) dl _ (MO.of hp67.get2) (by first | omega | (simp; done)) (by omega)) ?_)
    rintro _ w71 ⟨rfl, hf72⟩
    refine ⟨_, rfl, ?_⟩
    have hp73 := hp67.step hf72
    refine OPS.cons (opStep.alloc hp73 [.int .i64 0, .int .i64 0] (by kernel_rfl) (fun g76 w74 hp75 => ?_))
    refine OPS.cons (opStep.store0 hp75 rfl [.int .i64 ((floT (mapPut s.l g (⟨(⟨g, true, ((mapV s.l g).getD en0).e.Has, ((mapV s.l g).getD en0).e.Data⟩ : GEntry), ((mapV s.l g).getD en0).d⟩ : En)) dl).Count), .int .i64 ((floT (mapPut s.l g (⟨(⟨g, true, ((mapV s.l g).getD en0).e.Has, ((mapV s.l g).getD en0).e.Data⟩ : GEntry), ((mapV s.l g).getD en0).d⟩ : En)) dl).Client)] [.int .i64 ((floT (mapPut s.l g (⟨(⟨g, true, ((mapV s.l g).getD en0).e.Has, ((mapV s.l g).getD en0).e.Data⟩ : GEntry), ((mapV s.l g).getD en0).d⟩ : En)) dl).Count), .int .i64 ((floT (mapPut s.l g (⟨(⟨g, true, ((mapV s.l g).getD en0).e.Has, ((mapV s.l g).getD en0).e.Data⟩ : GEntry), ((mapV s.l g).getD en0).d⟩ : En)) dl).Client)] (by kernel_rfl) (fun w77 hp78 => ?_))
    refine OPS.nil ?_
    refine thn_n ?_
    refine WP.seq ?_
    refine WP.seq ?_
    refine WP.region _ rfl (by kernel_rfl) ?_
    refine OPS.batch 1 {} [] [7, 9, 54] [.map (some s.b), .pointer (some ⟨g76, 0, none⟩), .map (some s.b)] .nil (by kernel_rfl) (fun b79 => ?_)
    have hp82 := hp78.pull3
    refine OPS.cons (opStep.rangeK (by exact Try.underlying56) (put_nodup hnd) hp82 (by kernel_rfl) (fun it83 w80 hp81 => ?_))
    refine OPS.nil ?_
    refine thn_n ?_
    refine WP.block ?_
    refine WP.loop (fun mz_ e84 w85 => ∃ (lc : List (GTag × En)) (dn : List GTag), mz_ = ((mapPut s.l g (⟨⟨g, true, ((mapV s.l g).getD en0).e.Has, ((mapV s.l g).getD en0).e.Data⟩, ((mapV s.l g).getD en0).d⟩ : En))).length - dn.length ∧ (dlI (mapPut s.l g (⟨⟨g, true, ((mapV s.l g).getD en0).e.Has, ((mapV s.l g).getD en0).e.Data⟩, ((mapV s.l g).getD en0).d⟩ : En)) lc dn (floT (mapPut s.l g (⟨⟨g, true, ((mapV s.l g).getD en0).e.Has, ((mapV s.l g).getD en0).e.Data⟩, ((mapV s.l g).getD en0).d⟩ : En)) dl) ∧ True) ∧ List.map e84 [7, 9, 55] = [.map (some s.b), .pointer (some ⟨g76, 0, none⟩), .pointer (some ⟨it83, 0, none⟩)] ∧ Hp w0 Non (Res.mpk s.b it83 kT vE lc dn false :: Res.row g76 [.int .i64 ((floT (mapPut s.l g (⟨(⟨g, true, ((mapV s.l g).getD en0).e.Has, ((mapV s.l g).getD en0).e.Data⟩ : GEntry), ((mapV s.l g).getD en0).d⟩ : En)) dl).Count), .int .i64 ((floT (mapPut s.l g (⟨(⟨g, true, ((mapV s.l g).getD en0).e.Has, ((mapV s.l g).getD en0).e.Data⟩ : GEntry), ((mapV s.l g).getD en0).d⟩ : En)) dl).Client)] 31 :: Res.row g9 [.int .i64 g.Count, .int .i64 g.Client, .bool true, .bool (((mapV s.l g).getD en0).e.Has), .slice (((mapV s.l g).getD en0).e.Data.a) (((mapV s.l g).getD en0).e.Data.n) (((mapV s.l g).getD en0).e.Data.c)] 34 :: Res.row g3 [.int .i64 g.Count, .int .i64 g.Client] 31 :: Res.all ((mapDel T key).map shRes) :: Res.row tb [.int .i64 ((dl : Nat) : Int), .map (some m)] 54 :: Res.mp m kS vO T :: Res.dat F D :: L) w85) (((mapPut s.l g (⟨⟨g, true, ((mapV s.l g).getD en0).e.Has, ((mapV s.l g).getD en0).e.Data⟩, ((mapV s.l g).getD en0).d⟩ : En))).length - ([]).length) ⟨(mapPut s.l g (⟨⟨g, true, ((mapV s.l g).getD en0).e.Has, ((mapV s.l g).getD en0).e.Data⟩, ((mapV s.l g).getD en0).d⟩ : En)), [], rfl, ⟨dl_start (put_nodup hnd), trivial⟩, by kernel_rfl, hp81⟩ ?_
    rintro _ e84 w85 ⟨lc, dn, rfl, hI87, hE88, hp86⟩
    obtain ⟨b89, rfl⟩ := toMk hE88
    clear hE88
    obtain ⟨pa, _⟩ := hI87
    have hl8 := dl_len pa
    refine WP.seq ?_
    refine WP.region _ rfl (by kernel_rfl) ?_
    have hp92 := hp86.pull0
    refine OPS.cons (opStep.nextK hp92 (by kernel_rfl) (fun ha96 => ?_) (fun p93 w90 hn94 hm95 hp91 => ?_))
    · have hp97 := hp92.mpkEnd
      refine OPS.batch 1 {} [] [7, 9, 55, 57] [.map (some s.b), .pointer (some ⟨g76, 0, none⟩), .pointer (some ⟨it83, 0, none⟩), .bool false] .nil (by kernel_rfl) (fun b98 => ?_)
      refine OPS.nil ?_
      refine thn_n ?_
      refine WP.seq ?_
      refine WP.condF rfl ?_
      refine WP.exit ?_
      refine thn_x ?_
      refine thn_x ?_
      refine blk_hit ?_
      refine thn_n ?_
      refine WP.seq ?_
      refine WP.pure {} [] [6] [.bool true] .nil (by kernel_rfl) (fun b99 => ?_)
      refine thn_n ?_
      refine WP.ret ?_
      refine bodyQ.of _ rfl [.bool true] ⟨rfl, trivial⟩ ?_
      have hen : enK T key g = (mapV s.l g).getD en0 := by unfold enK; rw [shK_some hk]; rfl
      have hsh : shO (shK T key) = s.l := by rw [shK_some hk]; rfl
      have hc : chgF T key g dl := by unfold chgF; rw [hen, hsh]; intro q; have q0_ := h49; (simp_all [cmp_lt]; done)
      have hkeep := dl_end pa ha96
      have hp100 := hp97.pull6
      have hp101 := hp100.tbOld (l := lc) hk
      have hp102 := hp101.pull5
      have hp103 := hp102.pull2
      have hp104 := Hp.shPut (key := key) hp103
      have hp105 := hp104.pull6
      have hp106 := hp105.pull1
      have hp107 := hp106.pull2
      have hp108 := hp107.pull6
      exact ⟨true, _, rfl, .inr ⟨hc, rfl, s.b, by rw [hkeep]; unfold finP; rw [hen, hsh]⟩, (hp108.sub (.cons_cons _ (.cons_cons _ (.cons_cons _ (.cons_cons _ (.cons _ (.cons _ (.cons _ (.refl _)))))))))⟩
    · refine OPS.batch 1 {} [] [7, 9, 55, 57] [.map (some s.b), .pointer (some ⟨g76, 0, none⟩), .pointer (some ⟨it83, 0, none⟩), .bool true] .nil (by kernel_rfl) (fun b109 => ?_)
      refine OPS.nil ?_
      refine thn_n ?_
      refine WP.seq ?_
      refine WP.condT rfl ?_
      refine WP.skip ?_
      refine thn_n ?_
      refine WP.block ?_
      refine WP.seq ?_
      refine WP.region _ rfl (by kernel_rfl) ?_
      have hp112 := hp91.pull0
      refine OPS.cons (opStep.entryK hp112 hn94 (by kernel_rfl) ?_)
      refine OPS.batch 1 {} [] [7, 9, 55, 59] [.map (some s.b), .pointer (some ⟨g76, 0, none⟩), .pointer (some ⟨it83, 0, none⟩), GTag.val p93.1] .nil (by kernel_rfl) (fun b113 => ?_)
      refine OPS.cons (opStep.alloc hp112 [.int .i64 0, .int .i64 0] (by kernel_rfl) (fun g116 w114 hp115 => ?_))
      refine OPS.cons (opStep.store0 hp115 rfl [.int .i64 p93.1.Count, .int .i64 p93.1.Client] [.int .i64 p93.1.Count, .int .i64 p93.1.Client] (by kernel_rfl) (fun w117 hp118 => ?_))
      refine OPS.nil ?_
      refine thn_n ?_
      refine WP.seq ?_
      refine WP.region _ rfl (by kernel_rfl) ?_
      refine OPS.batch 2 {} [GTag.val p93.1, GTag.val (floT (mapPut s.l g (⟨(⟨g, true, ((mapV s.l g).getD en0).e.Has, ((mapV s.l g).getD en0).e.Data⟩ : GEntry), ((mapV s.l g).getD en0).d⟩ : En)) dl)] [7, 9, 10, 55, 60, 61] [.map (some s.b), .pointer (some ⟨g76, 0, none⟩), .pointer (some ⟨g116, 0, none⟩), .pointer (some ⟨it83, 0, none⟩), GTag.val p93.1, GTag.val (floT (mapPut s.l g (⟨(⟨g, true, ((mapV s.l g).getD en0).e.Has, ((mapV s.l g).getD en0).e.Data⟩ : GEntry), ((mapV s.l g).getD en0).d⟩ : En)) dl)] (.cons (show Ld Try.prog w117 31 ⟨g116, 0, none⟩ (GTag.val p93.1) from Ld.rowN (cs := [.int .i64 p93.1.Count, .int .i64 p93.1.Client]) hp118.get0 (by kernel_rfl)) (.cons (show Ld Try.prog w117 31 ⟨g76, 0, none⟩ (GTag.val (floT (mapPut s.l g (⟨(⟨g, true, ((mapV s.l g).getD en0).e.Has, ((mapV s.l g).getD en0).e.Data⟩ : GEntry), ((mapV s.l g).getD en0).d⟩ : En)) dl)) from Ld.rowN (cs := [.int .i64 ((floT (mapPut s.l g (⟨(⟨g, true, ((mapV s.l g).getD en0).e.Has, ((mapV s.l g).getD en0).e.Data⟩ : GEntry), ((mapV s.l g).getD en0).d⟩ : En)) dl).Count), .int .i64 ((floT (mapPut s.l g (⟨(⟨g, true, ((mapV s.l g).getD en0).e.Has, ((mapV s.l g).getD en0).e.Data⟩ : GEntry), ((mapV s.l g).getD en0).d⟩ : En)) dl).Client)]) hp118.get2 (by kernel_rfl)) .nil)) (by kernel_rfl) (fun b119 => ?_)
      refine OPS.cons (opStep.call (some 62) [GTag.val p93.1, GTag.val (floT (mapPut s.l g (⟨(⟨g, true, ((mapV s.l g).getD en0).e.Has, ((mapV s.l g).getD en0).e.Data⟩ : GEntry), ((mapV s.l g).getD en0).d⟩ : En)) dl)] (by kernel_rfl) (tag_Compare p93.1 (floT (mapPut s.l g (⟨(⟨g, true, ((mapV s.l g).getD en0).e.Has, ((mapV s.l g).getD en0).e.Data⟩ : GEntry), ((mapV s.l g).getD en0).d⟩ : En)) dl) _) ?_)
      rintro _ w122 ⟨rfl, hf123⟩
      refine ⟨_, rfl, ?_⟩
      have hp124 := hp118.step hf123
      refine OPS.batch 1 {} [] [7, 9, 10, 55, 63] [.map (some s.b), .pointer (some ⟨g76, 0, none⟩), .pointer (some ⟨g116, 0, none⟩), .pointer (some ⟨it83, 0, none⟩), .bool (decide ((tagCmp p93.1 (floT (mapPut s.l g (⟨(⟨g, true, ((mapV s.l g).getD en0).e.Has, ((mapV s.l g).getD en0).e.Data⟩ : GEntry), ((mapV s.l g).getD en0).d⟩ : En)) dl)) < 0))] .nil (by kernel_rfl) (fun b125 => ?_)
      refine OPS.nil ?_
      refine thn_n ?_
      refine WP.test (p := (tagCmp p93.1 (floT (mapPut s.l g (⟨(⟨g, true, ((mapV s.l g).getD en0).e.Has, ((mapV s.l g).getD en0).e.Data⟩ : GEntry), ((mapV s.l g).getD en0).d⟩ : En)) dl)) < 0) rfl Bp.dec (fun h126 => ?_) (fun h126 => ?_)
      · refine WP.region _ rfl (by kernel_rfl) ?_
        refine OPS.batch 2 {} [GTag.val p93.1] [7, 9, 55, 64, 65] [.map (some s.b), .pointer (some ⟨g76, 0, none⟩), .pointer (some ⟨it83, 0, none⟩), .map (some s.b), GTag.val p93.1] (.cons (show Ld Try.prog w122 31 ⟨g116, 0, none⟩ (GTag.val p93.1) from Ld.rowN (cs := [.int .i64 p93.1.Count, .int .i64 p93.1.Client]) hp124.get0 (by kernel_rfl)) .nil) (by kernel_rfl) (fun b127 => ?_)
        have hp130 := hp124.pull1
        refine OPS.cons (opStep.deleteKk keyTag (by exact Try.underlying56) hp130 p93.1 (by kernel_rfl) (fun w128 hp129 => ?_))
        refine OPS.nil ?_
        refine blk_n ?_
        refine thn_n ?_
        have hp131 := hp129.pull0
        have hI9 := dl_gone pa hn94 hm95 ((cmp_lt _ _).1 h126)
        have hl9 := dl_len hI9
        exact ⟨((mapPut s.l g (⟨⟨g, true, ((mapV s.l g).getD en0).e.Has, ((mapV s.l g).getD en0).e.Data⟩, ((mapV s.l g).getD en0).d⟩ : En))).length - ((dn ++ [p93.1])).length, (by simp only [List.length_append, List.length_cons, List.length_nil] at *; omega), mapDel lc p93.1, (dn ++ [p93.1]), rfl, ⟨hI9, trivial⟩, by kernel_rfl, (hp131.sub (.cons_cons _ (.cons _ (.cons_cons _ (.cons_cons _ (.cons_cons _ (.cons_cons _ (.cons_cons _ (.cons_cons _ (.cons_cons _ (.refl _)))))))))))⟩
      · refine WP.skip ?_
        refine blk_n ?_
        refine thn_n ?_
        have hp132 := hp124.pull1
        have hp133 := hp132.mpkOld
        have hI9 := dl_same pa hn94 hm95 (fun z => h126 ((cmp_lt _ _).2 z))
        have hl9 := dl_len hI9
        exact ⟨((mapPut s.l g (⟨⟨g, true, ((mapV s.l g).getD en0).e.Has, ((mapV s.l g).getD en0).e.Data⟩, ((mapV s.l g).getD en0).d⟩ : En))).length - ((dn ++ [p93.1])).length, (by simp only [List.length_append, List.length_cons, List.length_nil] at *; omega), lc, (dn ++ [p93.1]), rfl, ⟨hI9, trivial⟩, by kernel_rfl, (hp133.sub (.cons_cons _ (.cons _ (.cons_cons _ (.cons_cons _ (.cons_cons _ (.cons_cons _ (.cons_cons _ (.cons_cons _ (.cons_cons _ (.refl _)))))))))))⟩

theorem fin_new (w0 w : World) (L : List Res) (tb m dl : Nat) (T : Tb) (F : Nat → Prop) (D : List (SlH × ByteArray)) (key : ByteArray) (g : GTag) (hdl : dl ≤ 4611686018427387903) (hp0' : Hp w0 Non (Res.row tb [.int .i64 (dl : Int), .map (some m)] 54 :: Res.mp m kS vO T :: Res.all (T.map shRes) :: Res.dat F D :: L) w) (hk : mapV T key = none) :
    Calls Try.prog 24 #[.pointer (some ⟨tb, 0, none⟩), .string key, GTag.val g] w (fun r_ w' => ∃ f T2, r_ = .returned (.bool f) ∧ FinR T key g dl f T2 ∧ Hp w0 Non (Res.row tb [.int .i64 (dl : Int), .map (some m)] 54 :: Res.mp m kS vO T2 :: Res.all (T2.map shRes) :: Res.dat F D :: L) w') := by
  have hp0 := (show Hp w0 Non (Res.all ((mapDel T key).map shRes) :: Res.row tb [.int .i64 ((dl : Nat) : Int), .map (some m)] 54 :: Res.mp m kS vO T :: Res.dat F D :: L) w from ((hp0'.pull2).shNone hk))
  have hlp := put_len (l := ([] : List (GTag × En))) (k := g) (v := (⟨⟨g, true, ((mapV ([] : List (GTag × En)) g).getD en0).e.Has, ((mapV ([] : List (GTag × En)) g).getD en0).e.Data⟩, ((mapV ([] : List (GTag × En)) g).getD en0).d⟩ : En))
  have hlp0 : (([] : List (GTag × En)) : List (GTag × En)).length = 0 := rfl
  refine calls_of Try.func24 rfl 66 rfl (by simp) ?_
  have he0 : List.map (env0 [.pointer (some ⟨tb, 0, none⟩), .string key, GTag.val g]) [0, 1, 2] = [.pointer (some ⟨tb, 0, none⟩), .string key, GTag.val g] := by kernel_rfl
  obtain ⟨b0, he0⟩ := toMk he0
  rw [he0]
  clear he0
  refine WP.seq ?_
  refine WP.region _ rfl (by kernel_rfl) ?_
  refine OPS.cons (opStep.box hp0 [.int .i64 g.Count, .int .i64 g.Client] (by kernel_rfl) (fun g3 w1 hp2 => ?_))
  refine OPS.batch 1 {} [] [0, 1, 5] [.pointer (some ⟨tb, 0, none⟩), .string key, .pointer (some ⟨g3, 0, none⟩)] .nil (by kernel_rfl) (fun b4 => ?_)
  refine OPS.nil ?_
  refine thn_n ?_
  refine WP.seq ?_
  refine WP.pure {} [.map (some m), .map none] [0, 1, 5, 7] [.pointer (some ⟨tb, 0, none⟩), .string key, .pointer (some ⟨g3, 0, none⟩), .map none] (.cons (Ld.row1 (P := Try.prog) (t := 52) (o := 1) (v := .map (some m)) hp2.get2 (by kernel_rfl)) (.cons (by have h_ := Lk.noD (vf := vO) keyKey (by exact Try.underlying52) hp2.get3 key none (by kernel_rfl); rw [hk] at h_; exact h_) .nil)) (by kernel_rfl) (fun b5 => ?_)
  refine thn_n ?_
  refine WP.seq ?_
  refine WP.region _ rfl (by kernel_rfl) ?_
  refine OPS.batch 3 {} [GTag.val g, GEntry.val (((mapV ([] : List (GTag × En)) g).getD en0).e)] [0, 1, 5, 7, 19] [.pointer (some ⟨tb, 0, none⟩), .string key, .pointer (some ⟨g3, 0, none⟩), .map none, GEntry.val (((mapV ([] : List (GTag × En)) g).getD en0).e)] (.cons (show Ld Try.prog w1 31 ⟨g3, 0, none⟩ (GTag.val g) from Ld.rowN (cs := [.int .i64 g.Count, .int .i64 g.Client]) hp2.get0 (by kernel_rfl)) (.cons (Lk.moW (vf := vE) keyTag (by exact Try.underlying56) (MO.nil (w := w1)) g en0 (by kernel_rfl)) .nil)) (by kernel_rfl) (fun b6 => ?_)
  refine OPS.cons (opStep.alloc hp2 [.int .i64 0, .int .i64 0, .bool false, .bool false, .slice none 0 0] (by kernel_rfl) (fun g9 w7 hp8 => ?_))
  refine OPS.cons (opStep.store0 hp8 rfl [.int .i64 (((mapV ([] : List (GTag × En)) g).getD en0).e.Tag.Count), .int .i64 (((mapV ([] : List (GTag × En)) g).getD en0).e.Tag.Client), .bool (((mapV ([] : List (GTag × En)) g).getD en0).e.Fin), .bool (((mapV ([] : List (GTag × En)) g).getD en0).e.Has), .slice (((mapV ([] : List (GTag × En)) g).getD en0).e.Data.a) (((mapV ([] : List (GTag × En)) g).getD en0).e.Data.n) (((mapV ([] : List (GTag × En)) g).getD en0).e.Data.c)] [.int .i64 (((mapV ([] : List (GTag × En)) g).getD en0).e.Tag.Count), .int .i64 (((mapV ([] : List (GTag × En)) g).getD en0).e.Tag.Client), .bool (((mapV ([] : List (GTag × En)) g).getD en0).e.Fin), .bool (((mapV ([] : List (GTag × En)) g).getD en0).e.Has), .slice (((mapV ([] : List (GTag × En)) g).getD en0).e.Data.a) (((mapV ([] : List (GTag × En)) g).getD en0).e.Data.n) (((mapV ([] : List (GTag × En)) g).getD en0).e.Data.c)] (by kernel_rfl) (fun w10 hp11 => ?_))
  refine OPS.nil ?_
  refine thn_n ?_
  refine WP.seq ?_
  refine WP.cut (fun e43 w44 => ∃ (x41 : Bool), (True) ∧ Bp x41 ((((((mapV ([] : List (GTag × En)) g).getD en0).e.Fin) = true)) ∨ ((¬ ((((mapV ([] : List (GTag × En)) g).getD en0).e.Fin) = true)) ∧ ((tagCmp g (floT ([] : List (GTag × En)) dl)) < 0))) ∧ List.map e43 [0, 1, 5, 7, 8, 32] = [.pointer (some ⟨tb, 0, none⟩), .string key, .pointer (some ⟨g3, 0, none⟩), .map none, .pointer (some ⟨g9, 0, none⟩), .bool x41] ∧ Hp w0 Non (Res.row g9 [.int .i64 (((mapV ([] : List (GTag × En)) g).getD en0).e.Tag.Count), .int .i64 (((mapV ([] : List (GTag × En)) g).getD en0).e.Tag.Client), .bool (((mapV ([] : List (GTag × En)) g).getD en0).e.Fin), .bool (((mapV ([] : List (GTag × En)) g).getD en0).e.Has), .slice (((mapV ([] : List (GTag × En)) g).getD en0).e.Data.a) (((mapV ([] : List (GTag × En)) g).getD en0).e.Data.n) (((mapV ([] : List (GTag × En)) g).getD en0).e.Data.c)] 34 :: Res.row g3 [.int .i64 g.Count, .int .i64 g.Client] 31 :: Res.all ((mapDel T key).map shRes) :: Res.row tb [.int .i64 ((dl : Nat) : Int), .map (some m)] 54 :: Res.mp m kS vO T :: Res.dat F D :: L) w44) ?_ ?_
  · have hp15 := hp11.drew
    refine WP.quiet (fun w13 => Hp w0 Non (Res.row g9 [.int .i64 (((mapV ([] : List (GTag × En)) g).getD en0).e.Tag.Count), .int .i64 (((mapV ([] : List (GTag × En)) g).getD en0).e.Tag.Client), .bool (((mapV ([] : List (GTag × En)) g).getD en0).e.Fin), .bool (((mapV ([] : List (GTag × En)) g).getD en0).e.Has), .slice (((mapV ([] : List (GTag × En)) g).getD en0).e.Data.a) (((mapV ([] : List (GTag × En)) g).getD en0).e.Data.n) (((mapV ([] : List (GTag × En)) g).getD en0).e.Data.c)] 34 :: Res.row g3 [.int .i64 g.Count, .int .i64 g.Client] 31 :: Res.all ((mapDel T key).map shRes) :: Res.row tb [.int .i64 ((dl : Nat) : Int), .map (some m)] 54 :: Res.mp m kS vO T :: Res.dat F D :: L) w13) (by kernel_rfl) hp15 ?_
    have hnehp15 : ∃ wz_, (fun w13 => Hp w0 Non (Res.row g9 [.int .i64 (((mapV ([] : List (GTag × En)) g).getD en0).e.Tag.Count), .int .i64 (((mapV ([] : List (GTag × En)) g).getD en0).e.Tag.Client), .bool (((mapV ([] : List (GTag × En)) g).getD en0).e.Fin), .bool (((mapV ([] : List (GTag × En)) g).getD en0).e.Has), .slice (((mapV ([] : List (GTag × En)) g).getD en0).e.Data.a) (((mapV ([] : List (GTag × En)) g).getD en0).e.Data.n) (((mapV ([] : List (GTag × En)) g).getD en0).e.Data.c)] 34 :: Res.row g3 [.int .i64 g.Count, .int .i64 g.Client] 31 :: Res.all ((mapDel T key).map shRes) :: Res.row tb [.int .i64 ((dl : Nat) : Int), .map (some m)] 54 :: Res.mp m kS vO T :: Res.dat F D :: L) w13) wz_ := ⟨_, hp15⟩
    refine QOPS.batch 3 {} [.bool (((mapV ([] : List (GTag × En)) g).getD en0).e.Fin)] [0, 1, 5, 7, 8, 22] [.pointer (some ⟨tb, 0, none⟩), .string key, .pointer (some ⟨g3, 0, none⟩), .map none, .pointer (some ⟨g9, 0, none⟩), .bool (((mapV ([] : List (GTag × En)) g).getD en0).e.Fin)] hnehp15 (fun w16 hp17 => QB.mk (.cons (Ld.row1 (P := Try.prog) (t := 4) (o := 2) (v := .bool (((mapV ([] : List (GTag × En)) g).getD en0).e.Fin)) hp17.get0 (by kernel_rfl)) .nil) (by kernel_rfl)) (fun b18 => ?_)
    by_cases h19 : (((mapV ([] : List (GTag × En)) g).getD en0).e.Fin) = true
    · refine QOPS.batch 0 {} [] [0, 1, 5, 7, 8, 22] [.pointer (some ⟨tb, 0, none⟩), .string key, .pointer (some ⟨g3, 0, none⟩), .map none, .pointer (some ⟨g9, 0, none⟩), .bool (((mapV ([] : List (GTag × En)) g).getD en0).e.Fin)] hnehp15 (fun _ _ => QB.mk .nil (by kernel_rfl)) (fun b20 => ?_)
      refine QOPS.re [.pointer (some ⟨tb, 0, none⟩), .string key, .pointer (some ⟨g3, 0, none⟩), .map none, .pointer (some ⟨g9, 0, none⟩), .bool true] (by rw [show (((mapV ([] : List (GTag × En)) g).getD en0).e.Fin) = true from Bp.var.tt h19]) ?_
      refine QOPS.batch 10 { wraps := [32] } [] [0, 1, 5, 7, 8, 32] [.pointer (some ⟨tb, 0, none⟩), .string key, .pointer (some ⟨g3, 0, none⟩), .map none, .pointer (some ⟨g9, 0, none⟩), .bool true] hnehp15 (fun w21 hp22 => QB.mk .nil (by kernel_rfl)) (fun b23 => ?_)
      refine QOPS.nil (fun w24 hp25 => ?_)
      refine thn_n ?_
      exact ⟨true, trivial, Bp.of Bp.t (by first | (simp only [h19, iff_false, false_iff, iff_true, true_iff, Classical.not_not, and_true, true_and, and_false, false_and, or_true, true_or, or_false, false_or, not_true_eq_false, not_false_eq_true, and_self, or_self, iff_self]; done) | (simp [h19]; done) | grind | (simp_all; done)), by kernel_rfl, hp25⟩
    · refine QOPS.batch 0 {} [] [0, 1, 5, 7, 8, 22] [.pointer (some ⟨tb, 0, none⟩), .string key, .pointer (some ⟨g3, 0, none⟩), .map none, .pointer (some ⟨g9, 0, none⟩), .bool (((mapV ([] : List (GTag × En)) g).getD en0).e.Fin)] hnehp15 (fun _ _ => QB.mk .nil (by kernel_rfl)) (fun b26 => ?_)
      refine QOPS.re [.pointer (some ⟨tb, 0, none⟩), .string key, .pointer (some ⟨g3, 0, none⟩), .map none, .pointer (some ⟨g9, 0, none⟩), .bool false] (by rw [show (((mapV ([] : List (GTag × En)) g).getD en0).e.Fin) = false from Bp.var.ff h19]) ?_
      refine QOPS.batch 6 {} [GTag.val g, .int .i64 ((dl : Nat) : Int)] [0, 1, 5, 7, 8, 22, 23, 24, 28] [.pointer (some ⟨tb, 0, none⟩), .string key, .pointer (some ⟨g3, 0, none⟩), .map none, .pointer (some ⟨g9, 0, none⟩), .bool false, GTag.val g, .map none, .int .i64 ((dl : Nat) : Int)] hnehp15 (fun w27 hp28 => QB.mk (.cons (show Ld Try.prog w27 31 ⟨g3, 0, none⟩ (GTag.val g) from Ld.rowN (cs := [.int .i64 g.Count, .int .i64 g.Client]) hp28.get1 (by kernel_rfl)) (.cons (Ld.row1 (P := Try.prog) (t := 3) (o := 0) (v := .int .i64 ((dl : Nat) : Int)) hp28.get3 (by kernel_rfl)) .nil)) (by kernel_rfl)) (fun b29 => ?_)
      refine QOPS.call (some 29) [.map none, .int .i64 ((dl : Nat) : Int)] (by kernel_rfl) (fun w30 hp31 => (fl_c none ([] : List (GTag × En)) dl _ MO.nil (by first | omega | (simp; done)) (by omega)).mono fun _ _ h => ⟨h.1, hp31.step h.2⟩) ?_
      refine QOPS.call (some 30) [GTag.val g, GTag.val (floT ([] : List (GTag × En)) dl)] (by kernel_rfl) (fun w34 hp35 => (tag_Compare g (floT ([] : List (GTag × En)) dl) _).mono fun _ _ h => ⟨h.1, hp35.step h.2⟩) ?_
      refine QOPS.batch 2 { wraps := [32] } [] [0, 1, 5, 7, 8, 32] [.pointer (some ⟨tb, 0, none⟩), .string key, .pointer (some ⟨g3, 0, none⟩), .map none, .pointer (some ⟨g9, 0, none⟩), .bool (decide ((tagCmp g (floT ([] : List (GTag × En)) dl)) < 0))] hnehp15 (fun w36 hp37 => QB.mk .nil (by kernel_rfl)) (fun b38 => ?_)
      refine QOPS.nil (fun w39 hp40 => ?_)
      refine thn_n ?_
      exact ⟨decide ((tagCmp g (floT ([] : List (GTag × En)) dl)) < 0), trivial, Bp.of Bp.dec (by first | (simp only [h19, iff_false, false_iff, iff_true, true_iff, Classical.not_not, and_true, true_and, and_false, false_and, or_true, true_or, or_false, false_or, not_true_eq_false, not_false_eq_true, and_self, or_self, iff_self]; done) | (simp [h19]; done) | grind | (simp_all; done)), by kernel_rfl, hp40⟩
  rintro e43 w44 ⟨x41, hd46, hb42, hE47, hp45⟩
  obtain ⟨b48, rfl⟩ := toMk hE47
  clear hE47
  clear hd46
  refine WP.test (p := (((((mapV ([] : List (GTag × En)) g).getD en0).e.Fin) = true)) ∨ ((¬ ((((mapV ([] : List (GTag × En)) g).getD en0).e.Fin) = true)) ∧ ((tagCmp g (floT ([] : List (GTag × En)) dl)) < 0))) rfl hb42 (fun h49 => ?_) (fun h49 => ?_)
  · refine WP.seq ?_
    refine WP.pure {} [] [6] [.bool false] .nil (by kernel_rfl) (fun b50 => ?_)
    refine thn_n ?_
    refine WP.ret ?_
    refine thn_r ?_
    refine bodyQ.of _ rfl [.bool false] ⟨rfl, trivial⟩ ?_
    have hen : enK T key g = (mapV ([] : List (GTag × En)) g).getD en0 := by unfold enK; rw [shK_none hk]; rfl
    have hsh : shO (shK T key) = ([] : List (GTag × En)) := by rw [shK_none hk]; rfl
    have hc : ¬ chgF T key g dl := by unfold chgF; rw [hen, hsh]; intro q; first | exact q h49 | exact q (.inl h49) | exact q (.inr ((cmp_lt _ _).1 h49)) | (simp_all [cmp_lt]; done)
    have hp51 := hp45.pull2
    have hp52 := hp51.shNoneB hk
    have hp53 := hp52.pull5
    have hp54 := hp53.pull1
    have hp55 := hp54.pull5
    have hp56 := hp55.pull5
    exact ⟨false, T, rfl, .inl ⟨hc, rfl, rfl⟩, (hp56.sub (.cons_cons _ (.cons_cons _ (.cons_cons _ (.cons_cons _ (.cons _ (.cons _ (.refl _))))))))⟩
  · refine WP.skip ?_
    refine thn_n ?_
    refine WP.seq ?_
    refine WP.seq ?_
    refine WP.pure {} [] [0, 1, 5, 7, 8, 34] [.pointer (some ⟨tb, 0, none⟩), .string key, .pointer (some ⟨g3, 0, none⟩), .map none, .pointer (some ⟨g9, 0, none⟩), .bool true] .nil (by kernel_rfl) (fun b57 => ?_)
    refine thn_n ?_
    refine WP.condT rfl ?_
    refine WP.seq ?_
    refine WP.region _ rfl (by kernel_rfl) ?_
    refine OPS.cons (opStep.makeMapK kT vE hp45 (fun g60 w58 hp59 => ?_))
    refine OPS.batch 1 {} [] [0, 1, 5, 7, 8] [.pointer (some ⟨tb, 0, none⟩), .string key, .pointer (some ⟨g3, 0, none⟩), .map (some g60), .pointer (some ⟨g9, 0, none⟩)] .nil (by kernel_rfl) (fun b61 => ?_)
    refine OPS.nil ?_
    refine thn_n ?_
    refine WP.region _ rfl (by kernel_rfl) ?_
    refine OPS.batch 6 {} [.map (some m)] [0, 5, 7, 8, 39, 40, 41] [.pointer (some ⟨tb, 0, none⟩), .pointer (some ⟨g3, 0, none⟩), .map (some g60), .pointer (some ⟨g9, 0, none⟩), .map (some m), .string key, .map (some g60)] (.cons (Ld.row1 (P := Try.prog) (t := 52) (o := 1) (v := .map (some m)) hp59.get4 (by kernel_rfl)) .nil) (by kernel_rfl) (fun b62 => ?_)
    have hp65 := hp59.pull5
    refine OPS.cons (opStep.mapUpdateN keyKey (by exact Try.underlying52) hp65 key (some ⟨g60, []⟩ : Option Sf) (by kernel_rfl) (fun w63 hp64 => ?_))
    refine OPS.nil ?_
    refine thn_n ?_
    refine WP.seq ?_
    refine WP.region _ rfl (by kernel_rfl) ?_
    refine OPS.batch 2 {} [GTag.val g] [0, 5, 7, 8, 42, 43] [.pointer (some ⟨tb, 0, none⟩), .pointer (some ⟨g3, 0, none⟩), .map (some g60), .pointer (some ⟨g9, 0, none⟩), GTag.val g, .pointer (some ⟨g9, 0, none⟩)] (.cons (show Ld Try.prog w63 31 ⟨g3, 0, none⟩ (GTag.val g) from Ld.rowN (cs := [.int .i64 g.Count, .int .i64 g.Client]) hp64.get3 (by kernel_rfl)) .nil) (by kernel_rfl) (fun b66 => ?_)
    refine OPS.cons (opStep.store2 hp64 rfl [.int .i64 g.Count, .int .i64 g.Client] [.int .i64 g.Count, .int .i64 g.Client, .bool (((mapV ([] : List (GTag × En)) g).getD en0).e.Fin), .bool (((mapV ([] : List (GTag × En)) g).getD en0).e.Has), .slice (((mapV ([] : List (GTag × En)) g).getD en0).e.Data.a) (((mapV ([] : List (GTag × En)) g).getD en0).e.Data.n) (((mapV ([] : List (GTag × En)) g).getD en0).e.Data.c)] (by kernel_rfl) (fun w67 hp68 => ?_))
    refine OPS.batch 1 {} [] [0, 5, 7, 8, 44] [.pointer (some ⟨tb, 0, none⟩), .pointer (some ⟨g3, 0, none⟩), .map (some g60), .pointer (some ⟨g9, 0, none⟩), .pointer (some ⟨g9, 2, none⟩)] .nil (by kernel_rfl) (fun b69 => ?_)
    refine OPS.cons (opStep.store2 hp68 rfl [.bool true] [.int .i64 g.Count, .int .i64 g.Client, .bool true, .bool (((mapV ([] : List (GTag × En)) g).getD en0).e.Has), .slice (((mapV ([] : List (GTag × En)) g).getD en0).e.Data.a) (((mapV ([] : List (GTag × En)) g).getD en0).e.Data.n) (((mapV ([] : List (GTag × En)) g).getD en0).e.Data.c)] (by kernel_rfl) (fun w70 hp71 => ?_))
    refine OPS.nil ?_
    refine thn_n ?_
    refine WP.seq ?_
    refine WP.region _ rfl (by kernel_rfl) ?_
    refine OPS.batch 3 {} [GTag.val g, .agg #[.int .i64 g.Count, .int .i64 g.Client, .bool true, .bool (((mapV ([] : List (GTag × En)) g).getD en0).e.Has), .slice (((mapV ([] : List (GTag × En)) g).getD en0).e.Data.a) (((mapV ([] : List (GTag × En)) g).getD en0).e.Data.n) (((mapV ([] : List (GTag × En)) g).getD en0).e.Data.c)]] [0, 7, 45, 46, 47] [.pointer (some ⟨tb, 0, none⟩), .map (some g60), .map (some g60), GTag.val g, .agg #[.int .i64 g.Count, .int .i64 g.Client, .bool true, .bool (((mapV ([] : List (GTag × En)) g).getD en0).e.Has), .slice (((mapV ([] : List (GTag × En)) g).getD en0).e.Data.a) (((mapV ([] : List (GTag × En)) g).getD en0).e.Data.n) (((mapV ([] : List (GTag × En)) g).getD en0).e.Data.c)]] (.cons (show Ld Try.prog w70 31 ⟨g3, 0, none⟩ (GTag.val g) from Ld.rowN (cs := [.int .i64 g.Count, .int .i64 g.Client]) hp71.get3 (by kernel_rfl)) (.cons (show Ld Try.prog w70 34 ⟨g9, 0, none⟩ (.agg #[.int .i64 g.Count, .int .i64 g.Client, .bool true, .bool (((mapV ([] : List (GTag × En)) g).getD en0).e.Has), .slice (((mapV ([] : List (GTag × En)) g).getD en0).e.Data.a) (((mapV ([] : List (GTag × En)) g).getD en0).e.Data.n) (((mapV ([] : List (GTag × En)) g).getD en0).e.Data.c)]) from Ld.rowN (cs := [.int .i64 g.Count, .int .i64 g.Client, .bool true, .bool (((mapV ([] : List (GTag × En)) g).getD en0).e.Has), .slice (((mapV ([] : List (GTag × En)) g).getD en0).e.Data.a) (((mapV ([] : List (GTag × En)) g).getD en0).e.Data.n) (((mapV ([] : List (GTag × En)) g).getD en0).e.Data.c)]) hp71.get2 (by kernel_rfl)) .nil)) (by kernel_rfl) (fun b72 => ?_)
    refine OPS.cons (opStep.mapUpdate1 keyTag (by exact Try.underlying56) hp71 g (⟨(⟨g, true, ((mapV ([] : List (GTag × En)) g).getD en0).e.Has, ((mapV ([] : List (GTag × En)) g).getD en0).e.Data⟩ : GEntry), ((mapV ([] : List (GTag × En)) g).getD en0).d⟩ : En) (by kernel_rfl) (fun w73 hp74 => ?_))
    refine OPS.nil ?_
    refine thn_n ?_
    refine WP.seq ?_
    refine WP.region _ rfl (by kernel_rfl) ?_
    refine OPS.batch 5 {} [.int .i64 ((dl : Nat) : Int)] [7, 48, 52] [.map (some g60), .map (some g60), .int .i64 ((dl : Nat) : Int)] (.cons (Ld.row1 (P := Try.prog) (t := 3) (o := 0) (v := .int .i64 ((dl : Nat) : Int)) hp74.get5 (by kernel_rfl)) .nil) (by kernel_rfl) (fun b75 => ?_)
    refine OPS.cons (opStep.call (some 53) [.map (some g60), .int .i64 ((dl : Nat) : Int)] (by kernel_rfl) (fl_c (some g60) (mapPut ([] : List (GTag × En)) g (⟨(⟨g, true, ((mapV ([] : List (GTag × En)) g).getD en0).e.Has, ((mapV ([] : List (GTag × En)) g).getD en0).e.Data⟩ : GEntry), ((mapV ([] : List (GTag × En)) g).getD en0).d⟩ : En)) dl _ (MO.of hp74.get1) (by first | omega | (simp; done)) (by omega)) ?_)
    rintro _ w78 ⟨rfl, hf79⟩
    refine ⟨_, rfl, ?_⟩
    have hp80 := hp74.step hf79
    refine OPS.cons (opStep.alloc hp80 [.int .i64 0, .int .i64 0] (by kernel_rfl) (fun g83 w81 hp82 => ?_))
    refine OPS.cons (opStep.store0 hp82 rfl [.int .i64 ((floT (mapPut ([] : List (GTag × En)) g (⟨(⟨g, true, ((mapV ([] : List (GTag × En)) g).getD en0).e.Has, ((mapV ([] : List (GTag × En)) g).getD en0).e.Data⟩ : GEntry), ((mapV ([] : List (GTag × En)) g).getD en0).d⟩ : En)) dl).Count), .int .i64 ((floT (mapPut ([] : List (GTag × En)) g (⟨(⟨g, true, ((mapV ([] : List (GTag × En)) g).getD en0).e.Has, ((mapV ([] : List (GTag × En)) g).getD en0).e.Data⟩ : GEntry), ((mapV ([] : List (GTag × En)) g).getD en0).d⟩ : En)) dl).Client)] [.int .i64 ((floT (mapPut ([] : List (GTag × En)) g (⟨(⟨g, true, ((mapV ([] : List (GTag × En)) g).getD en0).e.Has, ((mapV ([] : List (GTag × En)) g).getD en0).e.Data⟩ : GEntry), ((mapV ([] : List (GTag × En)) g).getD en0).d⟩ : En)) dl).Count), .int .i64 ((floT (mapPut ([] : List (GTag × En)) g (⟨(⟨g, true, ((mapV ([] : List (GTag × En)) g).getD en0).e.Has, ((mapV ([] : List (GTag × En)) g).getD en0).e.Data⟩ : GEntry), ((mapV ([] : List (GTag × En)) g).getD en0).d⟩ : En)) dl).Client)] (by kernel_rfl) (fun w84 hp85 => ?_))
    refine OPS.nil ?_
    refine thn_n ?_
    refine WP.seq ?_
    refine WP.seq ?_
    refine WP.region _ rfl (by kernel_rfl) ?_
    refine OPS.batch 1 {} [] [7, 9, 54] [.map (some g60), .pointer (some ⟨g83, 0, none⟩), .map (some g60)] .nil (by kernel_rfl) (fun b86 => ?_)
    have hp89 := hp85.pull2
    refine OPS.cons (opStep.rangeK (by exact Try.underlying56) (put_nodup (show (([] : List (GTag × En)).map Prod.fst).Nodup from List.nodup_nil)) hp89 (by kernel_rfl) (fun it90 w87 hp88 => ?_))
    refine OPS.nil ?_
    refine thn_n ?_
    refine WP.block ?_
    refine WP.loop (fun mz_ e91 w92 => ∃ (lc : List (GTag × En)) (dn : List GTag), mz_ = ((mapPut ([] : List (GTag × En)) g (⟨⟨g, true, ((mapV ([] : List (GTag × En)) g).getD en0).e.Has, ((mapV ([] : List (GTag × En)) g).getD en0).e.Data⟩, ((mapV ([] : List (GTag × En)) g).getD en0).d⟩ : En))).length - dn.length ∧ (dlI (mapPut ([] : List (GTag × En)) g (⟨⟨g, true, ((mapV ([] : List (GTag × En)) g).getD en0).e.Has, ((mapV ([] : List (GTag × En)) g).getD en0).e.Data⟩, ((mapV ([] : List (GTag × En)) g).getD en0).d⟩ : En)) lc dn (floT (mapPut ([] : List (GTag × En)) g (⟨⟨g, true, ((mapV ([] : List (GTag × En)) g).getD en0).e.Has, ((mapV ([] : List (GTag × En)) g).getD en0).e.Data⟩, ((mapV ([] : List (GTag × En)) g).getD en0).d⟩ : En)) dl) ∧ True) ∧ List.map e91 [7, 9, 55] = [.map (some g60), .pointer (some ⟨g83, 0, none⟩), .pointer (some ⟨it90, 0, none⟩)] ∧ Hp w0 Non (Res.mpk g60 it90 kT vE lc dn false :: Res.row g83 [.int .i64 ((floT (mapPut ([] : List (GTag × En)) g (⟨(⟨g, true, ((mapV ([] : List (GTag × En)) g).getD en0).e.Has, ((mapV ([] : List (GTag × En)) g).getD en0).e.Data⟩ : GEntry), ((mapV ([] : List (GTag × En)) g).getD en0).d⟩ : En)) dl).Count), .int .i64 ((floT (mapPut ([] : List (GTag × En)) g (⟨(⟨g, true, ((mapV ([] : List (GTag × En)) g).getD en0).e.Has, ((mapV ([] : List (GTag × En)) g).getD en0).e.Data⟩ : GEntry), ((mapV ([] : List (GTag × En)) g).getD en0).d⟩ : En)) dl).Client)] 31 :: Res.mp m kS vO (mapPut T key (some ⟨g60, []⟩ : Option Sf)) :: Res.row g9 [.int .i64 g.Count, .int .i64 g.Client, .bool true, .bool (((mapV ([] : List (GTag × En)) g).getD en0).e.Has), .slice (((mapV ([] : List (GTag × En)) g).getD en0).e.Data.a) (((mapV ([] : List (GTag × En)) g).getD en0).e.Data.n) (((mapV ([] : List (GTag × En)) g).getD en0).e.Data.c)] 34 :: Res.row g3 [.int .i64 g.Count, .int .i64 g.Client] 31 :: Res.all ((mapDel T key).map shRes) :: Res.row tb [.int .i64 ((dl : Nat) : Int), .map (some m)] 54 :: Res.dat F D :: L) w92) (((mapPut ([] : List (GTag × En)) g (⟨⟨g, true, ((mapV ([] : List (GTag × En)) g).getD en0).e.Has, ((mapV ([] : List (GTag × En)) g).getD en0).e.Data⟩, ((mapV ([] : List (GTag × En)) g).getD en0).d⟩ : En))).length - ([]).length) ⟨(mapPut ([] : List (GTag × En)) g (⟨⟨g, true, ((mapV ([] : List (GTag × En)) g).getD en0).e.Has, ((mapV ([] : List (GTag × En)) g).getD en0).e.Data⟩, ((mapV ([] : List (GTag × En)) g).getD en0).d⟩ : En)), [], rfl, ⟨dl_start (put_nodup (show (([] : List (GTag × En)).map Prod.fst).Nodup from List.nodup_nil)), trivial⟩, by kernel_rfl, hp88⟩ ?_
    rintro _ e91 w92 ⟨lc, dn, rfl, hI94, hE95, hp93⟩
    obtain ⟨b96, rfl⟩ := toMk hE95
    clear hE95
    obtain ⟨pa, _⟩ := hI94
    have hl8 := dl_len pa
    refine WP.seq ?_
    refine WP.region _ rfl (by kernel_rfl) ?_
    have hp99 := hp93.pull0
    refine OPS.cons (opStep.nextK hp99 (by kernel_rfl) (fun ha103 => ?_) (fun p100 w97 hn101 hm102 hp98 => ?_))
    · have hp104 := hp99.mpkEnd
      refine OPS.batch 1 {} [] [7, 9, 55, 57] [.map (some g60), .pointer (some ⟨g83, 0, none⟩), .pointer (some ⟨it90, 0, none⟩), .bool false] .nil (by kernel_rfl) (fun b105 => ?_)
      refine OPS.nil ?_
      refine thn_n ?_
      refine WP.seq ?_
      refine WP.condF rfl ?_
      refine WP.exit ?_
      refine thn_x ?_
      refine thn_x ?_
      refine blk_hit ?_
      refine thn_n ?_
      refine WP.seq ?_
      refine WP.pure {} [] [6] [.bool true] .nil (by kernel_rfl) (fun b106 => ?_)
      refine thn_n ?_
      refine WP.ret ?_
      refine bodyQ.of _ rfl [.bool true] ⟨rfl, trivial⟩ ?_
      have hen : enK T key g = (mapV ([] : List (GTag × En)) g).getD en0 := by unfold enK; rw [shK_none hk]; rfl
      have hsh : shO (shK T key) = ([] : List (GTag × En)) := by rw [shK_none hk]; rfl
      have hc : chgF T key g dl := by unfold chgF; rw [hen, hsh]; intro q; have q0_ := h49; (simp_all [cmp_lt]; done)
      have hkeep := dl_end pa ha103
      have hp107 := hp104.pull2
      have hp108 := hp107.tbNew (l := lc)
      have hp109 := hp108.pull5
      have hp110 := hp109.pull2
      have hp111 := Hp.shPut (key := key) hp110
      have hp112 := hp111.pull6
      have hp113 := hp112.pull1
      have hp114 := hp113.pull2
      have hp115 := hp114.pull6
      exact ⟨true, _, rfl, .inr ⟨hc, rfl, g60, by rw [hkeep]; unfold finP; rw [hen, hsh]⟩, (hp115.sub (.cons_cons _ (.cons_cons _ (.cons_cons _ (.cons_cons _ (.cons _ (.cons _ (.cons _ (.refl _)))))))))⟩
    · refine OPS.batch 1 {} [] [7, 9, 55, 57] [.map (some g60), .pointer (some ⟨g83, 0, none⟩), .pointer (some ⟨it90, 0, none⟩), .bool true] .nil (by kernel_rfl) (fun b116 => ?_)
      refine OPS.nil ?_
      refine thn_n ?_
      refine WP.seq ?_
      refine WP.condT rfl ?_
      refine WP.skip ?_
      refine thn_n ?_
      refine WP.block ?_
      refine WP.seq ?_
      refine WP.region _ rfl (by kernel_rfl) ?_
      have hp119 := hp98.pull0
      refine OPS.cons (opStep.entryK hp119 hn101 (by kernel_rfl) ?_)
      refine OPS.batch 1 {} [] [7, 9, 55, 59] [.map (some g60), .pointer (some ⟨g83, 0, none⟩), .pointer (some ⟨it90, 0, none⟩), GTag.val p100.1] .nil (by kernel_rfl) (fun b120 => ?_)
      refine OPS.cons (opStep.alloc hp119 [.int .i64 0, .int .i64 0] (by kernel_rfl) (fun g123 w121 hp122 => ?_))
      refine OPS.cons (opStep.store0 hp122 rfl [.int .i64 p100.1.Count, .int .i64 p100.1.Client] [.int .i64 p100.1.Count, .int .i64 p100.1.Client] (by kernel_rfl) (fun w124 hp125 => ?_))
      refine OPS.nil ?_
      refine thn_n ?_
      refine WP.seq ?_
      refine WP.region _ rfl (by kernel_rfl) ?_
      refine OPS.batch 2 {} [GTag.val p100.1, GTag.val (floT (mapPut ([] : List (GTag × En)) g (⟨(⟨g, true, ((mapV ([] : List (GTag × En)) g).getD en0).e.Has, ((mapV ([] : List (GTag × En)) g).getD en0).e.Data⟩ : GEntry), ((mapV ([] : List (GTag × En)) g).getD en0).d⟩ : En)) dl)] [7, 9, 10, 55, 60, 61] [.map (some g60), .pointer (some ⟨g83, 0, none⟩), .pointer (some ⟨g123, 0, none⟩), .pointer (some ⟨it90, 0, none⟩), GTag.val p100.1, GTag.val (floT (mapPut ([] : List (GTag × En)) g (⟨(⟨g, true, ((mapV ([] : List (GTag × En)) g).getD en0).e.Has, ((mapV ([] : List (GTag × En)) g).getD en0).e.Data⟩ : GEntry), ((mapV ([] : List (GTag × En)) g).getD en0).d⟩ : En)) dl)] (.cons (show Ld Try.prog w124 31 ⟨g123, 0, none⟩ (GTag.val p100.1) from Ld.rowN (cs := [.int .i64 p100.1.Count, .int .i64 p100.1.Client]) hp125.get0 (by kernel_rfl)) (.cons (show Ld Try.prog w124 31 ⟨g83, 0, none⟩ (GTag.val (floT (mapPut ([] : List (GTag × En)) g (⟨(⟨g, true, ((mapV ([] : List (GTag × En)) g).getD en0).e.Has, ((mapV ([] : List (GTag × En)) g).getD en0).e.Data⟩ : GEntry), ((mapV ([] : List (GTag × En)) g).getD en0).d⟩ : En)) dl)) from Ld.rowN (cs := [.int .i64 ((floT (mapPut ([] : List (GTag × En)) g (⟨(⟨g, true, ((mapV ([] : List (GTag × En)) g).getD en0).e.Has, ((mapV ([] : List (GTag × En)) g).getD en0).e.Data⟩ : GEntry), ((mapV ([] : List (GTag × En)) g).getD en0).d⟩ : En)) dl).Count), .int .i64 ((floT (mapPut ([] : List (GTag × En)) g (⟨(⟨g, true, ((mapV ([] : List (GTag × En)) g).getD en0).e.Has, ((mapV ([] : List (GTag × En)) g).getD en0).e.Data⟩ : GEntry), ((mapV ([] : List (GTag × En)) g).getD en0).d⟩ : En)) dl).Client)]) hp125.get2 (by kernel_rfl)) .nil)) (by kernel_rfl) (fun b126 => ?_)
      refine OPS.cons (opStep.call (some 62) [GTag.val p100.1, GTag.val (floT (mapPut ([] : List (GTag × En)) g (⟨(⟨g, true, ((mapV ([] : List (GTag × En)) g).getD en0).e.Has, ((mapV ([] : List (GTag × En)) g).getD en0).e.Data⟩ : GEntry), ((mapV ([] : List (GTag × En)) g).getD en0).d⟩ : En)) dl)] (by kernel_rfl) (tag_Compare p100.1 (floT (mapPut ([] : List (GTag × En)) g (⟨(⟨g, true, ((mapV ([] : List (GTag × En)) g).getD en0).e.Has, ((mapV ([] : List (GTag × En)) g).getD en0).e.Data⟩ : GEntry), ((mapV ([] : List (GTag × En)) g).getD en0).d⟩ : En)) dl) _) ?_)
      rintro _ w129 ⟨rfl, hf130⟩
      refine ⟨_, rfl, ?_⟩
      have hp131 := hp125.step hf130
      refine OPS.batch 1 {} [] [7, 9, 10, 55, 63] [.map (some g60), .pointer (some ⟨g83, 0, none⟩), .pointer (some ⟨g123, 0, none⟩), .pointer (some ⟨it90, 0, none⟩), .bool (decide ((tagCmp p100.1 (floT (mapPut ([] : List (GTag × En)) g (⟨(⟨g, true, ((mapV ([] : List (GTag × En)) g).getD en0).e.Has, ((mapV ([] : List (GTag × En)) g).getD en0).e.Data⟩ : GEntry), ((mapV ([] : List (GTag × En)) g).getD en0).d⟩ : En)) dl)) < 0))] .nil (by kernel_rfl) (fun b132 => ?_)
      refine OPS.nil ?_
      refine thn_n ?_
      refine WP.test (p := (tagCmp p100.1 (floT (mapPut ([] : List (GTag × En)) g (⟨(⟨g, true, ((mapV ([] : List (GTag × En)) g).getD en0).e.Has, ((mapV ([] : List (GTag × En)) g).getD en0).e.Data⟩ : GEntry), ((mapV ([] : List (GTag × En)) g).getD en0).d⟩ : En)) dl)) < 0) rfl Bp.dec (fun h133 => ?_) (fun h133 => ?_)
      · refine WP.region _ rfl (by kernel_rfl) ?_
        refine OPS.batch 2 {} [GTag.val p100.1] [7, 9, 55, 64, 65] [.map (some g60), .pointer (some ⟨g83, 0, none⟩), .pointer (some ⟨it90, 0, none⟩), .map (some g60), GTag.val p100.1] (.cons (show Ld Try.prog w129 31 ⟨g123, 0, none⟩ (GTag.val p100.1) from Ld.rowN (cs := [.int .i64 p100.1.Count, .int .i64 p100.1.Client]) hp131.get0 (by kernel_rfl)) .nil) (by kernel_rfl) (fun b134 => ?_)
        have hp137 := hp131.pull1
        refine OPS.cons (opStep.deleteKk keyTag (by exact Try.underlying56) hp137 p100.1 (by kernel_rfl) (fun w135 hp136 => ?_))
        refine OPS.nil ?_
        refine blk_n ?_
        refine thn_n ?_
        have hp138 := hp136.pull0
        have hI9 := dl_gone pa hn101 hm102 ((cmp_lt _ _).1 h133)
        have hl9 := dl_len hI9
        exact ⟨((mapPut ([] : List (GTag × En)) g (⟨⟨g, true, ((mapV ([] : List (GTag × En)) g).getD en0).e.Has, ((mapV ([] : List (GTag × En)) g).getD en0).e.Data⟩, ((mapV ([] : List (GTag × En)) g).getD en0).d⟩ : En))).length - ((dn ++ [p100.1])).length, (by simp only [List.length_append, List.length_cons, List.length_nil] at *; omega), mapDel lc p100.1, (dn ++ [p100.1]), rfl, ⟨hI9, trivial⟩, by kernel_rfl, (hp138.sub (.cons_cons _ (.cons _ (.cons_cons _ (.cons_cons _ (.cons_cons _ (.cons_cons _ (.cons_cons _ (.cons_cons _ (.cons_cons _ (.refl _)))))))))))⟩
      · refine WP.skip ?_
        refine blk_n ?_
        refine thn_n ?_
        have hp139 := hp131.pull1
        have hp140 := hp139.mpkOld
        have hI9 := dl_same pa hn101 hm102 (fun z => h133 ((cmp_lt _ _).2 z))
        have hl9 := dl_len hI9
        exact ⟨((mapPut ([] : List (GTag × En)) g (⟨⟨g, true, ((mapV ([] : List (GTag × En)) g).getD en0).e.Has, ((mapV ([] : List (GTag × En)) g).getD en0).e.Data⟩, ((mapV ([] : List (GTag × En)) g).getD en0).d⟩ : En))).length - ((dn ++ [p100.1])).length, (by simp only [List.length_append, List.length_cons, List.length_nil] at *; omega), lc, (dn ++ [p100.1]), rfl, ⟨hI9, trivial⟩, by kernel_rfl, (hp140.sub (.cons_cons _ (.cons _ (.cons_cons _ (.cons_cons _ (.cons_cons _ (.cons_cons _ (.cons_cons _ (.cons_cons _ (.cons_cons _ (.refl _)))))))))))⟩

end Go.Proofs.Ytdkgdidnknojlaa.K
