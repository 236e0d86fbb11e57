/- Texts of this claim, merged: what the program's functions compute, and the rules that the walks use. -/
import Derived.Test.YtdkgdidnknojlaaProg
import Derived.Test.YtdkgdidnknojlaaZ1
import Derived.Test.YtdkgdidnknojlaaZ3
import Derived.Test.YtdkgdidnknojlaaZ7
namespace Go.Proofs.Ytdkgdidnknojlaa.K
open Go Go.Proofs Go.RowKit
set_option linter.unusedVariables false
set_option linter.unusedSimpArgs false
set_option maxRecDepth 20000
set_option maxHeartbeats 4000000

theorem pre_c (w0 w : World) (L : List Res) (tb m dl : Nat) (T : Tb) (F : Nat → Prop) (D : List (SlH × ByteArray)) (key : ByteArray) (g : GTag) (hd : SlH) (d : ByteArray) (hbt : ∀ w1, Hp w0 Non L w1 → Bt w1 hd d) (hsz : d.size ≤ 140737488355327) (hdl : dl ≤ 4611686018427387903) (hp0' : Hp w0 Non (Res.row tb [.int .i64 (dl : Int), .map (some m)] 54 :: Res.mp m kS vO T :: Res.all (T.map shRes) :: Res.dat F D :: L) w) (n : Nat) (hok : TbOk T D n) (hn : n ≤ 1048599) :
    Calls Try.prog 23 #[.pointer (some ⟨tb, 0, none⟩), .string key, GTag.val g, .slice hd.a hd.n hd.c] w (fun r_ w' => ∃ f T2 F2 D2, r_ = .returned (.bool f) ∧ PreR T D key g d dl f T2 D2 ∧ Hp w0 Non (Res.row tb [.int .i64 (dl : Int), .map (some m)] 54 :: Res.mp m kS vO T2 :: Res.all (T2.map shRes) :: Res.dat F2 D2 :: L) w') := by
  rcases hok.get key with hk | ⟨s, hk⟩
  · exact pre_new w0 w L tb m dl T F D key g hd d hbt hsz hdl hp0' hk
  · exact pre_old w0 w L tb m dl T F D key g hd d hbt hsz hdl hp0' s hk (by have := (hok.one hk).2.1; omega)
theorem fin_c (w0 w : World) (L : List Res) (tb m dl : Nat) (T : Tb) (F : Nat → Prop) (D : List (SlH × ByteArray)) (key : ByteArray) (g : GTag) (hdl : dl ≤ 4611686018427387903) (hp0' : Hp w0 Non (Res.row tb [.int .i64 (dl : Int), .map (some m)] 54 :: Res.mp m kS vO T :: Res.all (T.map shRes) :: Res.dat F D :: L) w) (n : Nat) (hok : TbOk T D n) (hn : n ≤ 1048599) :
    Calls Try.prog 24 #[.pointer (some ⟨tb, 0, none⟩), .string key, GTag.val g] w (fun r_ w' => ∃ f T2, r_ = .returned (.bool f) ∧ FinR T key g dl f T2 ∧ Hp w0 Non (Res.row tb [.int .i64 (dl : Int), .map (some m)] 54 :: Res.mp m kS vO T2 :: Res.all (T2.map shRes) :: Res.dat F D :: L) w') := by
  rcases hok.get key with hk | ⟨s, hk⟩
  · exact fin_new w0 w L tb m dl T F D key g hdl hp0' hk
  · exact fin_old w0 w L tb m dl T F D key g hdl hp0' s hk (by have := (hok.one hk).2.1; omega) (hok.one hk).1
def wouldP (T : Tb) (u : GUpdate) (dl : Nat) : Prop := (comesU u ∧ chgP T u.Key u.Entry.Tag dl) ∨ (endsU u ∧ chgF T u.Key u.Entry.Tag dl)
def WouldR (T : Tb) (u : GUpdate) (dl : Nat) (f : Bool) (e : Int) : Prop := (¬ MayU u ∧ f = false ∧ e = 1) ∨ (MayU u ∧ e = 0 ∧ Bp f (wouldP T u dl))
theorem would_c (tb m dl : Nat) (T : Tb) (F : Nat → Prop) (D : List (SlH × ByteArray)) (n : Nat) (w : World) (hT : TbH w tb m dl T F D 54) (hok : TbOk T D n) (hn : n ≤ 1048600) (hdl : dl ≤ 4611686018427387903) (u : GUpdate) :
    Calls Try.prog 6 #[.pointer (some ⟨tb, 0, none⟩), GUpdate.val u] w (fun r_ w' => ∃ f e, r_ = .returned (.tuple #[.bool f, .int .i64 e]) ∧ WouldR T u dl f e ∧ Fram Non w w') := by
  have hln := (hok.sh u.Key).2.1
  refine calls_of Try.func6 rfl 78 rfl (by simp) ?_
  have hp0 := Hp.init w
  have he0 : List.map (env0 [.pointer (some ⟨tb, 0, none⟩), GUpdate.val u]) [0, 1] = [.pointer (some ⟨tb, 0, none⟩), GUpdate.val u] := by kernel_rfl
  obtain ⟨b0, he0⟩ := toMk he0
  rw [he0]
  clear he0
  refine WP.seq ?_
  refine WP.region _ rfl (by kernel_rfl) ?_
  refine OPS.cons (opStep.box hp0 [.int .i64 u.Kind, .string u.Key, .int .i64 u.Entry.Tag.Count, .int .i64 u.Entry.Tag.Client, .bool u.Entry.Fin, .bool u.Entry.Has, .slice u.Entry.Data.a u.Entry.Data.n u.Entry.Data.c] (by kernel_rfl) (fun g3 w1 hp2 => ?_))
  refine OPS.batch 2 {} [] [0, 3] [.pointer (some ⟨tb, 0, none⟩), .pointer (some ⟨g3, 0, none⟩)] .nil (by kernel_rfl) (fun b4 => ?_)
  refine OPS.nil ?_
  refine thn_n ?_
  refine WP.seq ?_
  refine WP.seq ?_
  refine WP.pure {} [] [0, 3, 11] [.pointer (some ⟨tb, 0, none⟩), .pointer (some ⟨g3, 0, none⟩), .bool false] .nil (by kernel_rfl) (fun b5 => ?_)
  refine thn_n ?_
  refine WP.condF rfl ?_
  refine WP.skip ?_
  refine thn_n ?_
  refine WP.seq ?_
  refine WP.seq ?_
  refine WP.region _ rfl (by kernel_rfl) ?_
  refine OPS.batch 1 {} [GUpdate.val u] [0, 3, 12] [.pointer (some ⟨tb, 0, none⟩), .pointer (some ⟨g3, 0, none⟩), GUpdate.val u] (.cons (show Ld Try.prog w1 36 ⟨g3, 0, none⟩ (GUpdate.val u) from Ld.rowN (cs := [.int .i64 u.Kind, .string u.Key, .int .i64 u.Entry.Tag.Count, .int .i64 u.Entry.Tag.Client, .bool u.Entry.Fin, .bool u.Entry.Has, .slice u.Entry.Data.a u.Entry.Data.n u.Entry.Data.c]) hp2.get0 (by kernel_rfl)) .nil) (by kernel_rfl) (fun b6 => ?_)
  refine OPS.cons (opStep.call (some 13) [GUpdate.val u] (by kernel_rfl) (may_c u _) ?_)
  rintro _ w9 ⟨b12, rfl, hb13, hf10⟩
  refine ⟨_, rfl, ?_⟩
  have hp11 := hp2.step hf10
  refine OPS.batch 1 {} [] [0, 3, 14] [.pointer (some ⟨tb, 0, none⟩), .pointer (some ⟨g3, 0, none⟩), .bool (!b12)] .nil (by kernel_rfl) (fun b14 => ?_)
  refine OPS.nil ?_
  refine thn_n ?_
  refine WP.test (p := ¬ (MayU u)) rfl (Bp.not hb13) (fun h15 => ?_) (fun h15 => ?_)
  · refine WP.seq ?_
    refine WP.pure {} [] [4, 5] [.bool false, .int .i64 1] .nil (by kernel_rfl) (fun b16 => ?_)
    refine thn_n ?_
    refine WP.ret ?_
    refine thn_r ?_
    refine bodyQ.of _ rfl [.bool false, .int .i64 1] ⟨rfl, rfl, trivial⟩ ?_
    exact ⟨false, 1, rfl, .inl ⟨h15, rfl, rfl⟩, hp11.fr⟩
  · replace h15 := Classical.not_not.1 h15
    refine WP.skip ?_
    refine thn_n ?_
    refine WP.seq ?_
    have hp19 := hp11.drew
    refine WP.quiet (fun w17 => Hp w Non [Res.row g3 [.int .i64 u.Kind, .string u.Key, .int .i64 u.Entry.Tag.Count, .int .i64 u.Entry.Tag.Client, .bool u.Entry.Fin, .bool u.Entry.Has, .slice u.Entry.Data.a u.Entry.Data.n u.Entry.Data.c] 36] w17) (by kernel_rfl) hp19 ?_
    have hnehp19 : ∃ wz_, (fun w17 => Hp w Non [Res.row g3 [.int .i64 u.Kind, .string u.Key, .int .i64 u.Entry.Tag.Count, .int .i64 u.Entry.Tag.Client, .bool u.Entry.Fin, .bool u.Entry.Has, .slice u.Entry.Data.a u.Entry.Data.n u.Entry.Data.c] 36] w17) wz_ := ⟨_, hp19⟩
    refine QOPS.batch 8 {} [.map (some m), .string u.Key, .map ((shK T u.Key).map Sf.b)] [0, 3, 6] [.pointer (some ⟨tb, 0, none⟩), .pointer (some ⟨g3, 0, none⟩), .map ((shK T u.Key).map Sf.b)] hnehp19 (fun w20 hp21 => QB.mk (.cons (Ld.row1 (P := Try.prog) (t := 52) (o := 1) (v := .map (some m)) (hT.fram hp21.fr).row (by kernel_rfl)) (.cons (Ld.row1 (P := Try.prog) (t := 9) (o := 1) (v := .string u.Key) hp21.get0 (by kernel_rfl)) (.cons (Lk.noD (vf := vO) keyKey (by exact Try.underlying52) ((hT.fram hp21.fr).keys) u.Key none (by kernel_rfl)) .nil))) (by kernel_rfl)) (fun b22 => ?_)
    refine QOPS.nil (fun w23 hp24 => ?_)
    refine thn_n ?_
    refine WP.seq ?_
    refine WP.region _ rfl (by kernel_rfl) ?_
    refine OPS.batch 5 {} [.agg #[.int .i64 u.Entry.Tag.Count, .int .i64 u.Entry.Tag.Client], GEntry.val (((mapV (shO (shK T u.Key)) u.Entry.Tag).getD en0).e)] [0, 3, 6, 26] [.pointer (some ⟨tb, 0, none⟩), .pointer (some ⟨g3, 0, none⟩), .map ((shK T u.Key).map Sf.b), GEntry.val (((mapV (shO (shK T u.Key)) u.Entry.Tag).getD en0).e)] (.cons (show Ld Try.prog w23 31 ⟨g3, 2, none⟩ (.agg #[.int .i64 u.Entry.Tag.Count, .int .i64 u.Entry.Tag.Client]) from Ld.rowN (cs := [.int .i64 u.Entry.Tag.Count, .int .i64 u.Entry.Tag.Client]) hp24.get0 (by kernel_rfl)) (.cons (Lk.moW (vf := vE) keyTag (by exact Try.underlying56) ((hT.fram hp24.fr).sh u.Key) u.Entry.Tag en0 (by kernel_rfl)) .nil)) (by kernel_rfl) (fun b25 => ?_)
    refine OPS.cons (opStep.alloc hp24 [.int .i64 0, .int .i64 0, .bool false, .bool false, .slice none 0 0] (by kernel_rfl) (fun g28 w26 hp27 => ?_))
    refine OPS.cons (opStep.store0 hp27 rfl [.int .i64 (((mapV (shO (shK T u.Key)) u.Entry.Tag).getD en0).e.Tag.Count), .int .i64 (((mapV (shO (shK T u.Key)) u.Entry.Tag).getD en0).e.Tag.Client), .bool (((mapV (shO (shK T u.Key)) u.Entry.Tag).getD en0).e.Fin), .bool (((mapV (shO (shK T u.Key)) u.Entry.Tag).getD en0).e.Has), .slice (((mapV (shO (shK T u.Key)) u.Entry.Tag).getD en0).e.Data.a) (((mapV (shO (shK T u.Key)) u.Entry.Tag).getD en0).e.Data.n) (((mapV (shO (shK T u.Key)) u.Entry.Tag).getD en0).e.Data.c)] [.int .i64 (((mapV (shO (shK T u.Key)) u.Entry.Tag).getD en0).e.Tag.Count), .int .i64 (((mapV (shO (shK T u.Key)) u.Entry.Tag).getD en0).e.Tag.Client), .bool (((mapV (shO (shK T u.Key)) u.Entry.Tag).getD en0).e.Fin), .bool (((mapV (shO (shK T u.Key)) u.Entry.Tag).getD en0).e.Has), .slice (((mapV (shO (shK T u.Key)) u.Entry.Tag).getD en0).e.Data.a) (((mapV (shO (shK T u.Key)) u.Entry.Tag).getD en0).e.Data.n) (((mapV (shO (shK T u.Key)) u.Entry.Tag).getD en0).e.Data.c)] (by kernel_rfl) (fun w29 hp30 => ?_))
    refine OPS.nil ?_
    refine thn_n ?_
    refine WP.seq ?_
    refine WP.seq ?_
    have hp33 := hp30.drew
    refine WP.quiet (fun w31 => Hp w Non [Res.row g28 [.int .i64 (((mapV (shO (shK T u.Key)) u.Entry.Tag).getD en0).e.Tag.Count), .int .i64 (((mapV (shO (shK T u.Key)) u.Entry.Tag).getD en0).e.Tag.Client), .bool (((mapV (shO (shK T u.Key)) u.Entry.Tag).getD en0).e.Fin), .bool (((mapV (shO (shK T u.Key)) u.Entry.Tag).getD en0).e.Has), .slice (((mapV (shO (shK T u.Key)) u.Entry.Tag).getD en0).e.Data.a) (((mapV (shO (shK T u.Key)) u.Entry.Tag).getD en0).e.Data.n) (((mapV (shO (shK T u.Key)) u.Entry.Tag).getD en0).e.Data.c)] 34, Res.row g3 [.int .i64 u.Kind, .string u.Key, .int .i64 u.Entry.Tag.Count, .int .i64 u.Entry.Tag.Client, .bool u.Entry.Fin, .bool u.Entry.Has, .slice u.Entry.Data.a u.Entry.Data.n u.Entry.Data.c] 36] w31) (by kernel_rfl) hp33 ?_
    have hnehp33 : ∃ wz_, (fun w31 => Hp w Non [Res.row g28 [.int .i64 (((mapV (shO (shK T u.Key)) u.Entry.Tag).getD en0).e.Tag.Count), .int .i64 (((mapV (shO (shK T u.Key)) u.Entry.Tag).getD en0).e.Tag.Client), .bool (((mapV (shO (shK T u.Key)) u.Entry.Tag).getD en0).e.Fin), .bool (((mapV (shO (shK T u.Key)) u.Entry.Tag).getD en0).e.Has), .slice (((mapV (shO (shK T u.Key)) u.Entry.Tag).getD en0).e.Data.a) (((mapV (shO (shK T u.Key)) u.Entry.Tag).getD en0).e.Data.n) (((mapV (shO (shK T u.Key)) u.Entry.Tag).getD en0).e.Data.c)] 34, Res.row g3 [.int .i64 u.Kind, .string u.Key, .int .i64 u.Entry.Tag.Count, .int .i64 u.Entry.Tag.Client, .bool u.Entry.Fin, .bool u.Entry.Has, .slice u.Entry.Data.a u.Entry.Data.n u.Entry.Data.c] 36] w31) wz_ := ⟨_, hp33⟩
    refine QOPS.batch 8 {} [.agg #[.int .i64 u.Entry.Tag.Count, .int .i64 u.Entry.Tag.Client], .int .i64 ((dl : Nat) : Int)] [3, 7, 29, 30, 34] [.pointer (some ⟨g3, 0, none⟩), .pointer (some ⟨g28, 0, none⟩), .agg #[.int .i64 u.Entry.Tag.Count, .int .i64 u.Entry.Tag.Client], .map ((shK T u.Key).map Sf.b), .int .i64 ((dl : Nat) : Int)] hnehp33 (fun w34 hp35 => QB.mk (.cons (show Ld Try.prog w34 31 ⟨g3, 2, none⟩ (.agg #[.int .i64 u.Entry.Tag.Count, .int .i64 u.Entry.Tag.Client]) from Ld.rowN (cs := [.int .i64 u.Entry.Tag.Count, .int .i64 u.Entry.Tag.Client]) hp35.get1 (by kernel_rfl)) (.cons (Ld.row1 (P := Try.prog) (t := 3) (o := 0) (v := .int .i64 ((dl : Nat) : Int)) (hT.fram hp35.fr).row (by kernel_rfl)) .nil)) (by kernel_rfl)) (fun b36 => ?_)
    refine QOPS.call (some 35) [.map ((shK T u.Key).map Sf.b), .int .i64 ((dl : Nat) : Int)] (by kernel_rfl) (fun w37 hp38 => (fl_c ((shK T u.Key).map Sf.b) (shO (shK T u.Key)) dl _ ((hT.fram hp38.fr).sh u.Key) (by first | omega | (simp; done)) (by omega)).mono fun _ _ h => ⟨h.1, hp38.step h.2⟩) ?_
    refine QOPS.call (some 36) [.agg #[.int .i64 u.Entry.Tag.Count, .int .i64 u.Entry.Tag.Client], GTag.val (floT (shO (shK T u.Key)) dl)] (by kernel_rfl) (fun w41 hp42 => (tag_Compare u.Entry.Tag (floT (shO (shK T u.Key)) dl) _).mono fun _ _ h => ⟨h.1, hp42.step h.2⟩) ?_
    refine QOPS.batch 1 {} [] [3, 7, 37] [.pointer (some ⟨g3, 0, none⟩), .pointer (some ⟨g28, 0, none⟩), .bool (decide ((tagCmp u.Entry.Tag (floT (shO (shK T u.Key)) dl)) < 0))] hnehp33 (fun w43 hp44 => QB.mk .nil (by kernel_rfl)) (fun b45 => ?_)
    refine QOPS.nil (fun w46 hp47 => ?_)
    refine thn_n ?_
    refine WP.test (p := (tagCmp u.Entry.Tag (floT (shO (shK T u.Key)) dl)) < 0) rfl Bp.dec (fun h48 => ?_) (fun h48 => ?_)
    · refine WP.seq ?_
      refine WP.pure {} [] [4, 5] [.bool false, .int .i64 0] .nil (by kernel_rfl) (fun b49 => ?_)
      refine thn_n ?_
      refine WP.ret ?_
      refine thn_r ?_
      refine bodyQ.of _ rfl [.bool false, .int .i64 0] ⟨rfl, rfl, trivial⟩ ?_
      exact ⟨_, 0, rfl, .inr ⟨h15, rfl, Bp.of Bp.f (by unfold wouldP comesU endsU chgP chgF enK at *; rw [cmp_lt] at *; have q0_ := h15; have q1_ := h48; first | grind | (simp_all; done))⟩, hp47.fr⟩
    · refine WP.skip ?_
      refine thn_n ?_
      refine WP.cut (fun e64 w65 => ∃ (x62 : Bool), (True) ∧ Bp x62 (((u.Kind = 1)) ∨ ((¬ (u.Kind = 1)) ∧ (u.Kind = 3) ∧ (u.Entry.Has = true))) ∧ List.map e64 [3, 7, 8] = [.pointer (some ⟨g3, 0, none⟩), .pointer (some ⟨g28, 0, none⟩), .bool x62] ∧ Hp w Non [Res.row g28 [.int .i64 (((mapV (shO (shK T u.Key)) u.Entry.Tag).getD en0).e.Tag.Count), .int .i64 (((mapV (shO (shK T u.Key)) u.Entry.Tag).getD en0).e.Tag.Client), .bool (((mapV (shO (shK T u.Key)) u.Entry.Tag).getD en0).e.Fin), .bool (((mapV (shO (shK T u.Key)) u.Entry.Tag).getD en0).e.Has), .slice (((mapV (shO (shK T u.Key)) u.Entry.Tag).getD en0).e.Data.a) (((mapV (shO (shK T u.Key)) u.Entry.Tag).getD en0).e.Data.n) (((mapV (shO (shK T u.Key)) u.Entry.Tag).getD en0).e.Data.c)] 34, Res.row g3 [.int .i64 u.Kind, .string u.Key, .int .i64 u.Entry.Tag.Count, .int .i64 u.Entry.Tag.Client, .bool u.Entry.Fin, .bool u.Entry.Has, .slice u.Entry.Data.a u.Entry.Data.n u.Entry.Data.c] 36] w65) ?_ ?_
      · refine WP.region _ rfl (by kernel_rfl) ?_
        refine OPS.batch 4 {} [.int .i64 u.Kind] [3, 7, 41] [.pointer (some ⟨g3, 0, none⟩), .pointer (some ⟨g28, 0, none⟩), .bool (decide (u.Kind = 1))] (.cons (Ld.row1 (P := Try.prog) (t := 3) (o := 0) (v := .int .i64 u.Kind) hp47.get1 (by kernel_rfl)) .nil) (by kernel_rfl) (fun b51 => ?_)
        by_cases h52 : u.Kind = 1
        · refine OPS.batch 0 {} [] [3, 7, 41] [.pointer (some ⟨g3, 0, none⟩), .pointer (some ⟨g28, 0, none⟩), .bool (decide (u.Kind = 1))] .nil (by kernel_rfl) (fun b53 => ?_)
          refine OPS.re [.pointer (some ⟨g3, 0, none⟩), .pointer (some ⟨g28, 0, none⟩), .bool true] (by rw [show (decide (u.Kind = 1)) = true from Bp.dec.tt h52]) ?_
          refine OPS.batch 10 { wraps := [50] } [] [3, 7, 8] [.pointer (some ⟨g3, 0, none⟩), .pointer (some ⟨g28, 0, none⟩), .bool true] .nil (by kernel_rfl) (fun b54 => ?_)
          refine OPS.nil ?_
          refine thn_n ?_
          exact ⟨true, trivial, Bp.of Bp.t (by first | (simp only [h52, iff_false, false_iff, iff_true, true_iff, Classical.not_not, and_true, true_and, and_false, false_and, or_true, true_or, or_false, false_or, not_true_eq_false, not_false_eq_true, and_self, or_self, iff_self]; done) | (simp [h52]; done) | grind | (simp_all; done)), by kernel_rfl, hp47⟩
        · refine OPS.batch 0 {} [] [3, 7, 41] [.pointer (some ⟨g3, 0, none⟩), .pointer (some ⟨g28, 0, none⟩), .bool (decide (u.Kind = 1))] .nil (by kernel_rfl) (fun b55 => ?_)
          refine OPS.re [.pointer (some ⟨g3, 0, none⟩), .pointer (some ⟨g28, 0, none⟩), .bool false] (by rw [show (decide (u.Kind = 1)) = false from Bp.dec.ff h52]) ?_
          refine OPS.batch 4 {} [.int .i64 u.Kind] [3, 7, 41, 45] [.pointer (some ⟨g3, 0, none⟩), .pointer (some ⟨g28, 0, none⟩), .bool false, .bool (decide (u.Kind = 3))] (.cons (Ld.row1 (P := Try.prog) (t := 3) (o := 0) (v := .int .i64 u.Kind) hp47.get1 (by kernel_rfl)) .nil) (by kernel_rfl) (fun b56 => ?_)
          by_cases h57 : u.Kind = 3
          · refine OPS.batch 0 {} [] [3, 7, 41, 45] [.pointer (some ⟨g3, 0, none⟩), .pointer (some ⟨g28, 0, none⟩), .bool false, .bool (decide (u.Kind = 3))] .nil (by kernel_rfl) (fun b58 => ?_)
            refine OPS.re [.pointer (some ⟨g3, 0, none⟩), .pointer (some ⟨g28, 0, none⟩), .bool false, .bool true] (by rw [show (decide (u.Kind = 3)) = true from Bp.dec.tt h57]) ?_
            refine OPS.batch 6 { wraps := [49, 50] } [.bool u.Entry.Has] [3, 7, 8] [.pointer (some ⟨g3, 0, none⟩), .pointer (some ⟨g28, 0, none⟩), .bool u.Entry.Has] (.cons (Ld.row1 (P := Try.prog) (t := 4) (o := 5) (v := .bool u.Entry.Has) hp47.get1 (by kernel_rfl)) .nil) (by kernel_rfl) (fun b59 => ?_)
            refine OPS.nil ?_
            refine thn_n ?_
            exact ⟨u.Entry.Has, trivial, Bp.of Bp.var (by first | (simp only [h52, h57, iff_false, false_iff, iff_true, true_iff, Classical.not_not, and_true, true_and, and_false, false_and, or_true, true_or, or_false, false_or, not_true_eq_false, not_false_eq_true, and_self, or_self, iff_self]; done) | (simp [h52, h57]; done) | grind | (simp_all; done)), by kernel_rfl, hp47⟩
          · refine OPS.batch 0 {} [] [3, 7, 41, 45] [.pointer (some ⟨g3, 0, none⟩), .pointer (some ⟨g28, 0, none⟩), .bool false, .bool (decide (u.Kind = 3))] .nil (by kernel_rfl) (fun b60 => ?_)
            refine OPS.re [.pointer (some ⟨g3, 0, none⟩), .pointer (some ⟨g28, 0, none⟩), .bool false, .bool false] (by rw [show (decide (u.Kind = 3)) = false from Bp.dec.ff h57]) ?_
            refine OPS.batch 6 { wraps := [49, 50] } [] [3, 7, 8] [.pointer (some ⟨g3, 0, none⟩), .pointer (some ⟨g28, 0, none⟩), .bool false] .nil (by kernel_rfl) (fun b61 => ?_)
            refine OPS.nil ?_
            refine thn_n ?_
            exact ⟨false, trivial, Bp.of Bp.f (by first | (simp only [h52, h57, iff_false, false_iff, iff_true, true_iff, Classical.not_not, and_true, true_and, and_false, false_and, or_true, true_or, or_false, false_or, not_true_eq_false, not_false_eq_true, and_self, or_self, iff_self]; done) | (simp [h52, h57]; done) | grind | (simp_all; done)), by kernel_rfl, hp47⟩
      rintro e64 w65 ⟨x62, hd67, hb63, hE68, hp66⟩
      obtain ⟨b69, rfl⟩ := toMk hE68
      clear hE68
      clear hd67
      refine WP.cut (fun e84 w85 => ∃ (x82 : Bool), (True) ∧ Bp x82 (((u.Kind = 2)) ∨ ((¬ (u.Kind = 2)) ∧ (u.Kind = 3) ∧ (u.Entry.Fin = true))) ∧ List.map e84 [7, 8, 9] = [.pointer (some ⟨g28, 0, none⟩), .bool x62, .bool x82] ∧ Hp w Non [Res.row g28 [.int .i64 (((mapV (shO (shK T u.Key)) u.Entry.Tag).getD en0).e.Tag.Count), .int .i64 (((mapV (shO (shK T u.Key)) u.Entry.Tag).getD en0).e.Tag.Client), .bool (((mapV (shO (shK T u.Key)) u.Entry.Tag).getD en0).e.Fin), .bool (((mapV (shO (shK T u.Key)) u.Entry.Tag).getD en0).e.Has), .slice (((mapV (shO (shK T u.Key)) u.Entry.Tag).getD en0).e.Data.a) (((mapV (shO (shK T u.Key)) u.Entry.Tag).getD en0).e.Data.n) (((mapV (shO (shK T u.Key)) u.Entry.Tag).getD en0).e.Data.c)] 34, Res.row g3 [.int .i64 u.Kind, .string u.Key, .int .i64 u.Entry.Tag.Count, .int .i64 u.Entry.Tag.Client, .bool u.Entry.Fin, .bool u.Entry.Has, .slice u.Entry.Data.a u.Entry.Data.n u.Entry.Data.c] 36] w85) ?_ ?_
      · refine WP.region _ rfl (by kernel_rfl) ?_
        refine OPS.batch 4 {} [.int .i64 u.Kind] [3, 7, 8, 54] [.pointer (some ⟨g3, 0, none⟩), .pointer (some ⟨g28, 0, none⟩), .bool x62, .bool (decide (u.Kind = 2))] (.cons (Ld.row1 (P := Try.prog) (t := 3) (o := 0) (v := .int .i64 u.Kind) hp66.get1 (by kernel_rfl)) .nil) (by kernel_rfl) (fun b71 => ?_)
        by_cases h72 : u.Kind = 2
        · refine OPS.batch 0 {} [] [3, 7, 8, 54] [.pointer (some ⟨g3, 0, none⟩), .pointer (some ⟨g28, 0, none⟩), .bool x62, .bool (decide (u.Kind = 2))] .nil (by kernel_rfl) (fun b73 => ?_)
          refine OPS.re [.pointer (some ⟨g3, 0, none⟩), .pointer (some ⟨g28, 0, none⟩), .bool x62, .bool true] (by rw [show (decide (u.Kind = 2)) = true from Bp.dec.tt h72]) ?_
          refine OPS.batch 10 { wraps := [63] } [] [7, 8, 9] [.pointer (some ⟨g28, 0, none⟩), .bool x62, .bool true] .nil (by kernel_rfl) (fun b74 => ?_)
          refine OPS.nil ?_
          refine thn_n ?_
          exact ⟨true, trivial, Bp.of Bp.t (by first | (simp only [h72, iff_false, false_iff, iff_true, true_iff, Classical.not_not, and_true, true_and, and_false, false_and, or_true, true_or, or_false, false_or, not_true_eq_false, not_false_eq_true, and_self, or_self, iff_self]; done) | (simp [h72]; done) | grind | (simp_all; done)), by kernel_rfl, hp66⟩
        · refine OPS.batch 0 {} [] [3, 7, 8, 54] [.pointer (some ⟨g3, 0, none⟩), .pointer (some ⟨g28, 0, none⟩), .bool x62, .bool (decide (u.Kind = 2))] .nil (by kernel_rfl) (fun b75 => ?_)
          refine OPS.re [.pointer (some ⟨g3, 0, none⟩), .pointer (some ⟨g28, 0, none⟩), .bool x62, .bool false] (by rw [show (decide (u.Kind = 2)) = false from Bp.dec.ff h72]) ?_
          refine OPS.batch 4 {} [.int .i64 u.Kind] [3, 7, 8, 54, 58] [.pointer (some ⟨g3, 0, none⟩), .pointer (some ⟨g28, 0, none⟩), .bool x62, .bool false, .bool (decide (u.Kind = 3))] (.cons (Ld.row1 (P := Try.prog) (t := 3) (o := 0) (v := .int .i64 u.Kind) hp66.get1 (by kernel_rfl)) .nil) (by kernel_rfl) (fun b76 => ?_)
          by_cases h77 : u.Kind = 3
          · refine OPS.batch 0 {} [] [3, 7, 8, 54, 58] [.pointer (some ⟨g3, 0, none⟩), .pointer (some ⟨g28, 0, none⟩), .bool x62, .bool false, .bool (decide (u.Kind = 3))] .nil (by kernel_rfl) (fun b78 => ?_)
            refine OPS.re [.pointer (some ⟨g3, 0, none⟩), .pointer (some ⟨g28, 0, none⟩), .bool x62, .bool false, .bool true] (by rw [show (decide (u.Kind = 3)) = true from Bp.dec.tt h77]) ?_
            refine OPS.batch 6 { wraps := [62, 63] } [.bool u.Entry.Fin] [7, 8, 9] [.pointer (some ⟨g28, 0, none⟩), .bool x62, .bool u.Entry.Fin] (.cons (Ld.row1 (P := Try.prog) (t := 4) (o := 4) (v := .bool u.Entry.Fin) hp66.get1 (by kernel_rfl)) .nil) (by kernel_rfl) (fun b79 => ?_)
            refine OPS.nil ?_
            refine thn_n ?_
            exact ⟨u.Entry.Fin, trivial, Bp.of Bp.var (by first | (simp only [h72, h77, iff_false, false_iff, iff_true, true_iff, Classical.not_not, and_true, true_and, and_false, false_and, or_true, true_or, or_false, false_or, not_true_eq_false, not_false_eq_true, and_self, or_self, iff_self]; done) | (simp [h72, h77]; done) | grind | (simp_all; done)), by kernel_rfl, hp66⟩
          · refine OPS.batch 0 {} [] [3, 7, 8, 54, 58] [.pointer (some ⟨g3, 0, none⟩), .pointer (some ⟨g28, 0, none⟩), .bool x62, .bool false, .bool (decide (u.Kind = 3))] .nil (by kernel_rfl) (fun b80 => ?_)
            refine OPS.re [.pointer (some ⟨g3, 0, none⟩), .pointer (some ⟨g28, 0, none⟩), .bool x62, .bool false, .bool false] (by rw [show (decide (u.Kind = 3)) = false from Bp.dec.ff h77]) ?_
            refine OPS.batch 6 { wraps := [62, 63] } [] [7, 8, 9] [.pointer (some ⟨g28, 0, none⟩), .bool x62, .bool false] .nil (by kernel_rfl) (fun b81 => ?_)
            refine OPS.nil ?_
            refine thn_n ?_
            exact ⟨false, trivial, Bp.of Bp.f (by first | (simp only [h72, h77, iff_false, false_iff, iff_true, true_iff, Classical.not_not, and_true, true_and, and_false, false_and, or_true, true_or, or_false, false_or, not_true_eq_false, not_false_eq_true, and_self, or_self, iff_self]; done) | (simp [h72, h77]; done) | grind | (simp_all; done)), by kernel_rfl, hp66⟩
      rintro e84 w85 ⟨x82, hd87, hb83, hE88, hp86⟩
      obtain ⟨b89, rfl⟩ := toMk hE88
      clear hE88
      clear hd87
      refine WP.cut (fun e108 w109 => ∃ (x106 : Bool), (True) ∧ Bp x106 (((((u.Kind = 1)) ∨ ((¬ (u.Kind = 1)) ∧ (u.Kind = 3) ∧ (u.Entry.Has = true))) ∧ (¬ ((((mapV (shO (shK T u.Key)) u.Entry.Tag).getD en0).e.Has) = true))) ∨ ((((u.Kind = 1)) ∨ ((¬ (u.Kind = 1)) ∧ (u.Kind = 3) ∧ (u.Entry.Has = true))) ∧ ((((mapV (shO (shK T u.Key)) u.Entry.Tag).getD en0).e.Has) = true) ∧ (((u.Kind = 2)) ∨ ((¬ (u.Kind = 2)) ∧ (u.Kind = 3) ∧ (u.Entry.Fin = true))) ∧ (¬ ((((mapV (shO (shK T u.Key)) u.Entry.Tag).getD en0).e.Fin) = true))) ∨ ((¬ (((u.Kind = 1)) ∨ ((¬ (u.Kind = 1)) ∧ (u.Kind = 3) ∧ (u.Entry.Has = true)))) ∧ (((u.Kind = 2)) ∨ ((¬ (u.Kind = 2)) ∧ (u.Kind = 3) ∧ (u.Entry.Fin = true))) ∧ (¬ ((((mapV (shO (shK T u.Key)) u.Entry.Tag).getD en0).e.Fin) = true)))) ∧ List.map e108 [4, 5] = [.bool x106, .int .i64 0] ∧ Hp w Non [Res.row g28 [.int .i64 (((mapV (shO (shK T u.Key)) u.Entry.Tag).getD en0).e.Tag.Count), .int .i64 (((mapV (shO (shK T u.Key)) u.Entry.Tag).getD en0).e.Tag.Client), .bool (((mapV (shO (shK T u.Key)) u.Entry.Tag).getD en0).e.Fin), .bool (((mapV (shO (shK T u.Key)) u.Entry.Tag).getD en0).e.Has), .slice (((mapV (shO (shK T u.Key)) u.Entry.Tag).getD en0).e.Data.a) (((mapV (shO (shK T u.Key)) u.Entry.Tag).getD en0).e.Data.n) (((mapV (shO (shK T u.Key)) u.Entry.Tag).getD en0).e.Data.c)] 34, Res.row g3 [.int .i64 u.Kind, .string u.Key, .int .i64 u.Entry.Tag.Count, .int .i64 u.Entry.Tag.Client, .bool u.Entry.Fin, .bool u.Entry.Has, .slice u.Entry.Data.a u.Entry.Data.n u.Entry.Data.c] 36] w109) ?_ ?_
      · refine WP.region _ rfl (by kernel_rfl) ?_
        refine OPS.batch 2 {} [] [7, 9, 65] [.pointer (some ⟨g28, 0, none⟩), .bool x82, .bool x62] .nil (by kernel_rfl) (fun b91 => ?_)
        by_cases h92 : ((u.Kind = 1)) ∨ ((¬ (u.Kind = 1)) ∧ (u.Kind = 3) ∧ (u.Entry.Has = true))
        · rw [show x62 = true from hb63.tt h92]
          refine OPS.batch 5 { wraps := [69] } [.bool (((mapV (shO (shK T u.Key)) u.Entry.Tag).getD en0).e.Has)] [7, 9, 70] [.pointer (some ⟨g28, 0, none⟩), .bool x82, .bool (!(((mapV (shO (shK T u.Key)) u.Entry.Tag).getD en0).e.Has))] (.cons (Ld.row1 (P := Try.prog) (t := 4) (o := 3) (v := .bool (((mapV (shO (shK T u.Key)) u.Entry.Tag).getD en0).e.Has)) hp86.get0 (by kernel_rfl)) .nil) (by kernel_rfl) (fun b93 => ?_)
          by_cases h94 : (((mapV (shO (shK T u.Key)) u.Entry.Tag).getD en0).e.Has) = true
          · refine OPS.batch 0 {} [] [7, 9, 70] [.pointer (some ⟨g28, 0, none⟩), .bool x82, .bool (!(((mapV (shO (shK T u.Key)) u.Entry.Tag).getD en0).e.Has))] .nil (by kernel_rfl) (fun b97 => ?_)
            refine OPS.re [.pointer (some ⟨g28, 0, none⟩), .bool x82, .bool false] (by rw [show (!(((mapV (shO (shK T u.Key)) u.Entry.Tag).getD en0).e.Has)) = false from (Bp.not Bp.var).ff (fun k => k h94)]) ?_
            refine OPS.batch 2 {} [] [7, 70, 72] [.pointer (some ⟨g28, 0, none⟩), .bool false, .bool x82] .nil (by kernel_rfl) (fun b98 => ?_)
            by_cases h99 : ((u.Kind = 2)) ∨ ((¬ (u.Kind = 2)) ∧ (u.Kind = 3) ∧ (u.Entry.Fin = true))
            · rw [show x82 = true from hb83.tt h99]
              refine OPS.batch 7 { wraps := [76, 77] } [.bool (((mapV (shO (shK T u.Key)) u.Entry.Tag).getD en0).e.Fin)] [4, 5] [.bool (!(((mapV (shO (shK T u.Key)) u.Entry.Tag).getD en0).e.Fin)), .int .i64 0] (.cons (Ld.row1 (P := Try.prog) (t := 4) (o := 2) (v := .bool (((mapV (shO (shK T u.Key)) u.Entry.Tag).getD en0).e.Fin)) hp86.get0 (by kernel_rfl)) .nil) (by kernel_rfl) (fun b100 => ?_)
              refine OPS.nil ?_
              refine thn_n ?_
              exact ⟨!(((mapV (shO (shK T u.Key)) u.Entry.Tag).getD en0).e.Fin), trivial, Bp.of (Bp.not Bp.var) (by first | (simp only [h92, h94, h99, iff_false, false_iff, iff_true, true_iff, Classical.not_not, and_true, true_and, and_false, false_and, or_true, true_or, or_false, false_or, not_true_eq_false, not_false_eq_true, and_self, or_self, iff_self]; done) | (simp [h92, h94, h99]; done) | grind | (simp_all; done)), by kernel_rfl, hp86⟩
            · rw [show x82 = false from hb83.ff h99]
              refine OPS.batch 7 { wraps := [76, 77] } [] [4, 5] [.bool false, .int .i64 0] .nil (by kernel_rfl) (fun b101 => ?_)
              refine OPS.nil ?_
              refine thn_n ?_
              exact ⟨false, trivial, Bp.of Bp.f (by first | (simp only [h92, h94, h99, iff_false, false_iff, iff_true, true_iff, Classical.not_not, and_true, true_and, and_false, false_and, or_true, true_or, or_false, false_or, not_true_eq_false, not_false_eq_true, and_self, or_self, iff_self]; done) | (simp [h92, h94, h99]; done) | grind | (simp_all; done)), by kernel_rfl, hp86⟩
          · refine OPS.batch 0 {} [] [7, 9, 70] [.pointer (some ⟨g28, 0, none⟩), .bool x82, .bool (!(((mapV (shO (shK T u.Key)) u.Entry.Tag).getD en0).e.Has))] .nil (by kernel_rfl) (fun b95 => ?_)
            refine OPS.re [.pointer (some ⟨g28, 0, none⟩), .bool x82, .bool true] (by rw [show (!(((mapV (shO (shK T u.Key)) u.Entry.Tag).getD en0).e.Has)) = true from (Bp.not Bp.var).tt h94]) ?_
            refine OPS.batch 9 { wraps := [77] } [] [4, 5] [.bool true, .int .i64 0] .nil (by kernel_rfl) (fun b96 => ?_)
            refine OPS.nil ?_
            refine thn_n ?_
            exact ⟨true, trivial, Bp.of Bp.t (by first | (simp only [h92, h94, iff_false, false_iff, iff_true, true_iff, Classical.not_not, and_true, true_and, and_false, false_and, or_true, true_or, or_false, false_or, not_true_eq_false, not_false_eq_true, and_self, or_self, iff_self]; done) | (simp [h92, h94]; done) | grind | (simp_all; done)), by kernel_rfl, hp86⟩
        · rw [show x62 = false from hb63.ff h92]
          refine OPS.batch 7 { wraps := [69] } [] [7, 70, 72] [.pointer (some ⟨g28, 0, none⟩), .bool false, .bool x82] .nil (by kernel_rfl) (fun b102 => ?_)
          by_cases h103 : ((u.Kind = 2)) ∨ ((¬ (u.Kind = 2)) ∧ (u.Kind = 3) ∧ (u.Entry.Fin = true))
          · rw [show x82 = true from hb83.tt h103]
            refine OPS.batch 7 { wraps := [76, 77] } [.bool (((mapV (shO (shK T u.Key)) u.Entry.Tag).getD en0).e.Fin)] [4, 5] [.bool (!(((mapV (shO (shK T u.Key)) u.Entry.Tag).getD en0).e.Fin)), .int .i64 0] (.cons (Ld.row1 (P := Try.prog) (t := 4) (o := 2) (v := .bool (((mapV (shO (shK T u.Key)) u.Entry.Tag).getD en0).e.Fin)) hp86.get0 (by kernel_rfl)) .nil) (by kernel_rfl) (fun b104 => ?_)
            refine OPS.nil ?_
            refine thn_n ?_
            exact ⟨!(((mapV (shO (shK T u.Key)) u.Entry.Tag).getD en0).e.Fin), trivial, Bp.of (Bp.not Bp.var) (by first | (simp only [h92, h103, iff_false, false_iff, iff_true, true_iff, Classical.not_not, and_true, true_and, and_false, false_and, or_true, true_or, or_false, false_or, not_true_eq_false, not_false_eq_true, and_self, or_self, iff_self]; done) | (simp [h92, h103]; done) | grind | (simp_all; done)), by kernel_rfl, hp86⟩
          · rw [show x82 = false from hb83.ff h103]
            refine OPS.batch 7 { wraps := [76, 77] } [] [4, 5] [.bool false, .int .i64 0] .nil (by kernel_rfl) (fun b105 => ?_)
            refine OPS.nil ?_
            refine thn_n ?_
            exact ⟨false, trivial, Bp.of Bp.f (by first | (simp only [h92, h103, iff_false, false_iff, iff_true, true_iff, Classical.not_not, and_true, true_and, and_false, false_and, or_true, true_or, or_false, false_or, not_true_eq_false, not_false_eq_true, and_self, or_self, iff_self]; done) | (simp [h92, h103]; done) | grind | (simp_all; done)), by kernel_rfl, hp86⟩
      rintro e108 w109 ⟨x106, hd111, hb107, hE112, hp110⟩
      obtain ⟨b113, rfl⟩ := toMk hE112
      clear hE112
      clear hd111
      refine WP.ret ?_
      refine bodyQ.of _ rfl [.bool x106, .int .i64 0] ⟨rfl, rfl, trivial⟩ ?_
      exact ⟨_, 0, rfl, .inr ⟨h15, rfl, Bp.of hb107 (by unfold wouldP comesU endsU chgP chgF enK at *; rw [cmp_lt] at *; have q0_ := h15; have q1_ := h48; first | grind | (simp_all; done))⟩, hp110.fr⟩

theorem floor_c (tb m dl : Nat) (T : Tb) (F : Nat → Prop) (D : List (SlH × ByteArray)) (n : Nat) (w : World) (hT : TbH w tb m dl T F D 54) (hok : TbOk T D n) (hn : n ≤ 1048600) (hdl : dl ≤ 4611686018427387903) (key : ByteArray) :
    Calls Try.prog 15 #[.pointer (some ⟨tb, 0, none⟩), .string key] w (fun r_ w' => r_ = .returned (GTag.val (floT (shO (shK T key)) dl)) ∧ Fram Non w w') := by
  have hln := (hok.sh key).2.1
  refine calls_of Try.func15 rfl 19 rfl (by simp) ?_
  have hp0 := Hp.init w
  have he0 : List.map (env0 [.pointer (some ⟨tb, 0, none⟩), .string key]) [0, 1] = [.pointer (some ⟨tb, 0, none⟩), .string key] := by kernel_rfl
  obtain ⟨b0, he0⟩ := toMk he0
  rw [he0]
  clear he0
  refine WP.seq ?_
  refine WP.region _ rfl (by kernel_rfl) ?_
  refine OPS.cons (opStep.alloc hp0 [.int .i64 0, .int .i64 0] (by kernel_rfl) (fun g3 w1 hp2 => ?_))
  refine OPS.nil ?_
  refine thn_n ?_
  refine WP.seq ?_
  refine WP.seq ?_
  refine WP.pure {} [] [0, 1, 4, 6] [.pointer (some ⟨tb, 0, none⟩), .string key, .pointer (some ⟨g3, 0, none⟩), .bool false] .nil (by kernel_rfl) (fun b4 => ?_)
  refine thn_n ?_
  refine WP.condF rfl ?_
  refine WP.skip ?_
  refine thn_n ?_
  refine WP.seq ?_
  have hp5 := hp2.drew
  refine WP.held (fun w6 => Ld Try.prog w6 52 ⟨tb, 1, none⟩ (.map (some m)) ∧ Lk Try.prog w6 52 (.map (some m)) (.string key) false (.map ((shK T key).map Sf.b)) ∧ Ld Try.prog w6 3 ⟨tb, 0, none⟩ (.int .i64 ((dl : Nat) : Int)) ∧ True) [11] [(0, true), (1, true), (2, true), (3, true), (4, true), (5, true), (6, true), (7, true), (8, true), (9, true), (10, false), (11, false)] (np_thn np_body) (by kernel_rfl) ?_
  refine HOPS.take 10 {} [.map (some m), .map ((shK T key).map Sf.b), .int .i64 ((dl : Nat) : Int)] [4, 13, 17] [.pointer (some ⟨g3, 0, none⟩), .map ((shK T key).map Sf.b), .int .i64 ((dl : Nat) : Int)] (by kernel_rfl) ⟨(show Ld Try.prog w1.drew 52 ⟨tb, 1, none⟩ (.map (some m)) from (Ld.row1 (P := Try.prog) (t := 52) (o := 1) (v := .map (some m)) (hT.fram hp5.fr).row (by kernel_rfl))), (show Lk Try.prog w1.drew 52 (.map (some m)) (.string key) false (.map ((shK T key).map Sf.b)) from (Lk.noD (vf := vO) keyKey (by exact Try.underlying52) ((hT.fram hp5.fr).keys) key none (by kernel_rfl))), (show Ld Try.prog w1.drew 3 ⟨tb, 0, none⟩ (.int .i64 ((dl : Nat) : Int)) from (Ld.row1 (P := Try.prog) (t := 3) (o := 0) (v := .int .i64 ((dl : Nat) : Int)) (hT.fram hp5.fr).row (by kernel_rfl))), trivial⟩ (fun w7 hS8 => QB.mk (.cons (hS8.1) (.cons (hS8.2.1) (.cons (hS8.2.2.1) .nil))) (by kernel_rfl)) (fun b9 => ?_)
  refine HOPS.eff _ rfl (opStep.call (some 18) [.map ((shK T key).map Sf.b), .int .i64 ((dl : Nat) : Int)] (by kernel_rfl) (fl_c ((shK T key).map Sf.b) (shO (shK T key)) dl _ ((hT.fram hp5.fr).sh key) (by first | omega | (simp; done)) (by omega)) ?_)
  rintro _ w12 ⟨rfl, hf13⟩
  refine ⟨_, rfl, ?_⟩
  have hp14 := hp5.step hf13
  refine ⟨.inr ⟨(show Ld Try.prog w12 52 ⟨tb, 1, none⟩ (.map (some m)) from (Ld.row1 (P := Try.prog) (t := 52) (o := 1) (v := .map (some m)) (hT.fram hp14.fr).row (by kernel_rfl))), (show Lk Try.prog w12 52 (.map (some m)) (.string key) false (.map ((shK T key).map Sf.b)) from (Lk.noD (vf := vO) keyKey (by exact Try.underlying52) ((hT.fram hp14.fr).keys) key none (by kernel_rfl))), (show Ld Try.prog w12 3 ⟨tb, 0, none⟩ (.int .i64 ((dl : Nat) : Int)) from (Ld.row1 (P := Try.prog) (t := 3) (o := 0) (v := .int .i64 ((dl : Nat) : Int)) (hT.fram hp14.fr).row (by kernel_rfl))), trivial⟩, ?_⟩
  refine HOPS.eff _ rfl (opStep.store0 hp14 rfl [.int .i64 ((floT (shO (shK T key)) dl).Count), .int .i64 ((floT (shO (shK T key)) dl).Client)] [.int .i64 ((floT (shO (shK T key)) dl).Count), .int .i64 ((floT (shO (shK T key)) dl).Client)] (by kernel_rfl) (fun w15 hp16 => ?_))
  refine ⟨.inl rfl, ?_⟩
  refine HOPS.nil ?_
  refine thn_n ?_
  refine WP.ret ?_
  refine bodyQ.of _ rfl [GTag.val (floT (shO (shK T key)) dl)] ⟨⟨_, rfl, (show Ld Try.prog w15 31 ⟨g3, 0, none⟩ (GTag.val (floT (shO (shK T key)) dl)) from Ld.rowN (cs := [.int .i64 ((floT (shO (shK T key)) dl).Count), .int .i64 ((floT (shO (shK T key)) dl).Client)]) hp16.get0 (by kernel_rfl))⟩, trivial⟩ ?_
  exact ⟨rfl, hp16.fr⟩

theorem tag_MaxN (l : List GTag) (a : Option Addr) (n c : Nat) (w : World) (hn : l.length = n) (hs : SlR w a n (l.flatMap GTag.cells)) (hb : l.length ≤ 8796093022207) : Calls Try.prog 32 #[.slice a n c] w (fun r_ w' => r_ = .returned (GTag.val (maxT l)) ∧ Fram Non w w') := by
  subst hn
  exact tag_Max l a c w hs hb
theorem top_c (tb m dl : Nat) (T : Tb) (F : Nat → Prop) (D : List (SlH × ByteArray)) (n : Nat) (w : World) (hT : TbH w tb m dl T F D 54) (hok : TbOk T D n) (hn : n ≤ 1048600) (hdl : dl ≤ 4611686018427387903) (key : ByteArray) :
    Calls Try.prog 13 #[.pointer (some ⟨tb, 0, none⟩), .string key] w (fun r_ w' => r_ = .returned (GTag.val (topT (shO (shK T key)))) ∧ Fram Non w w') := by
  have hln := (hok.sh key).2.1
  refine calls_of Try.func13 rfl 16 rfl (by simp) ?_
  have hp0 := Hp.init w
  have he0 : List.map (env0 [.pointer (some ⟨tb, 0, none⟩), .string key]) [0, 1] = [.pointer (some ⟨tb, 0, none⟩), .string key] := by kernel_rfl
  obtain ⟨b0, he0⟩ := toMk he0
  rw [he0]
  clear he0
  refine WP.seq ?_
  refine WP.region _ rfl (by kernel_rfl) ?_
  refine OPS.cons (opStep.alloc hp0 [.int .i64 0, .int .i64 0] (by kernel_rfl) (fun g3 w1 hp2 => ?_))
  refine OPS.nil ?_
  refine thn_n ?_
  refine WP.seq ?_
  refine WP.seq ?_
  refine WP.pure {} [] [0, 1, 4, 6] [.pointer (some ⟨tb, 0, none⟩), .string key, .pointer (some ⟨g3, 0, none⟩), .bool false] .nil (by kernel_rfl) (fun b4 => ?_)
  refine thn_n ?_
  refine WP.condF rfl ?_
  refine WP.skip ?_
  refine thn_n ?_
  refine WP.seq ?_
  refine WP.region _ rfl (by kernel_rfl) ?_
  refine OPS.batch 6 {} [.map (some m), .map ((shK T key).map Sf.b)] [4, 13] [.pointer (some ⟨g3, 0, none⟩), .map ((shK T key).map Sf.b)] (.cons (Ld.row1 (P := Try.prog) (t := 52) (o := 1) (v := .map (some m)) (hT.fram hp2.fr).row (by kernel_rfl)) (.cons (Lk.noD (vf := vO) keyKey (by exact Try.underlying52) ((hT.fram hp2.fr).keys) key none (by kernel_rfl)) .nil)) (by kernel_rfl) (fun b5 => ?_)
  refine OPS.cons (opStep.call (some 14) [.map ((shK T key).map Sf.b)] (by kernel_rfl) (fz_c ((shK T key).map Sf.b) (shO (shK T key)) _ ((hT.fram hp2.fr).sh key) (by first | omega | (simp; done))) ?_)
  rintro _ w8 ⟨a10, n11, c12, rfl, hp9⟩
  refine ⟨_, rfl, ?_⟩
  have hfz := own_flat (f := GTag.cells) (sz := 2) (fun _ => rfl) (by decide) hp9.get0
  have hfs := finS_len (l := (shO (shK T key)))
  have hp13 := hp2.madeQ hp9
  simp only [List.cons_append, List.nil_append] at hp13
  refine OPS.cons (opStep.call (some 15) [.slice a10 n11 c12] (by kernel_rfl) (tag_MaxN (finS (shO (shK T key))) a10 n11 c12 _ hfz (SlR.own (hp13.get0)) (by omega)) ?_)
  rintro _ w17 ⟨rfl, hf18⟩
  refine ⟨_, rfl, ?_⟩
  have hp19 := hp13.step hf18
  refine OPS.cons (opStep.store1 hp19 rfl [.int .i64 ((maxT (finS (shO (shK T key)))).Count), .int .i64 ((maxT (finS (shO (shK T key)))).Client)] [.int .i64 ((maxT (finS (shO (shK T key)))).Count), .int .i64 ((maxT (finS (shO (shK T key)))).Client)] (by kernel_rfl) (fun w20 hp21 => ?_))
  refine OPS.nil ?_
  refine thn_n ?_
  refine WP.ret ?_
  refine bodyQ.of _ rfl [GTag.val (maxT (finS (shO (shK T key))))] ⟨⟨_, rfl, (show Ld Try.prog w20 31 ⟨g3, 0, none⟩ (GTag.val (maxT (finS (shO (shK T key))))) from Ld.rowN (cs := [.int .i64 ((maxT (finS (shO (shK T key)))).Count), .int .i64 ((maxT (finS (shO (shK T key)))).Client)]) hp21.get1 (by kernel_rfl))⟩, trivial⟩ ?_
  exact ⟨by rw [← topT_max]; rfl, hp21.fr⟩

theorem new_c (delta : Int) (w : World) :
    Calls Try.prog 4 #[.int .i64 delta] w (fun r_ w' => ∃ (p : Option Addr) (e : Int), r_ = .returned (.tuple #[.pointer p, .int .i64 e]) ∧ (((delta < 0 ∨ 4611686018427387903 < delta) ∧ p = none ∧ e = 1 ∧ Fram Non w w') ∨ (¬ (delta < 0 ∨ 4611686018427387903 < delta) ∧ ∃ tb m, p = some ⟨tb, 0, none⟩ ∧ e = 0 ∧ Hp w Non [Res.row tb [.int .i64 delta, .map (some m)] 54, Res.mp m kS vO ([] : Tb)] w'))) := by
  refine calls_of Try.func4 rfl 14 rfl (by simp) ?_
  have hp0 := Hp.init w
  have he0 : List.map (env0 [.int .i64 delta]) [0] = [.int .i64 delta] := by kernel_rfl
  obtain ⟨b0, he0⟩ := toMk he0
  rw [he0]
  clear he0
  refine WP.seq ?_
  refine WP.pure {} [] [0] [.int .i64 delta] .nil (by kernel_rfl) (fun b1 => ?_)
  refine thn_n ?_
  refine WP.seq ?_
  refine WP.cut (fun e11 w12 => ∃ (x9 : Bool), (True) ∧ Bp x9 (((delta < 0)) ∨ ((¬ (delta < 0)) ∧ (4611686018427387903 < delta))) ∧ List.map e11 [0, 9] = [.int .i64 delta, .bool x9] ∧ Hp w Non [] w12) ?_ ?_
  · refine WP.region _ rfl (by kernel_rfl) ?_
    refine OPS.batch 3 {} [] [0, 6] [.int .i64 delta, .bool (decide (delta < 0))] .nil (by kernel_rfl) (fun b3 => ?_)
    by_cases h4 : delta < 0
    · refine OPS.batch 0 {} [] [0, 6] [.int .i64 delta, .bool (decide (delta < 0))] .nil (by kernel_rfl) (fun b5 => ?_)
      refine OPS.re [.int .i64 delta, .bool true] (by rw [show (decide (delta < 0)) = true from Bp.dec.tt h4]) ?_
      refine OPS.batch 3 { wraps := [9] } [] [0, 9] [.int .i64 delta, .bool true] .nil (by kernel_rfl) (fun b6 => ?_)
      refine OPS.nil ?_
      refine thn_n ?_
      exact ⟨true, trivial, Bp.of Bp.t (by first | (simp only [h4, iff_false, false_iff, iff_true, true_iff, Classical.not_not, and_true, true_and, and_false, false_and, or_true, true_or, or_false, false_or, not_true_eq_false, not_false_eq_true, and_self, or_self, iff_self]; done) | (simp [h4]; done) | grind | (simp_all; done)), by kernel_rfl, hp0⟩
    · refine OPS.batch 0 {} [] [0, 6] [.int .i64 delta, .bool (decide (delta < 0))] .nil (by kernel_rfl) (fun b7 => ?_)
      refine OPS.re [.int .i64 delta, .bool false] (by rw [show (decide (delta < 0)) = false from Bp.dec.ff h4]) ?_
      refine OPS.batch 3 { wraps := [9] } [] [0, 9] [.int .i64 delta, .bool (decide (4611686018427387903 < delta))] .nil (by kernel_rfl) (fun b8 => ?_)
      refine OPS.nil ?_
      refine thn_n ?_
      exact ⟨decide (4611686018427387903 < delta), trivial, Bp.of Bp.dec (by first | (simp only [h4, iff_false, false_iff, iff_true, true_iff, Classical.not_not, and_true, true_and, and_false, false_and, or_true, true_or, or_false, false_or, not_true_eq_false, not_false_eq_true, and_self, or_self, iff_self]; done) | (simp [h4]; done) | grind | (simp_all; done)), by kernel_rfl, hp0⟩
  rintro e11 w12 ⟨x9, hd14, hb10, hE15, hp13⟩
  obtain ⟨b16, rfl⟩ := toMk hE15
  clear hE15
  clear hd14
  refine WP.test (p := ((delta < 0)) ∨ ((¬ (delta < 0)) ∧ (4611686018427387903 < delta))) rfl hb10 (fun h17 => ?_) (fun h17 => ?_)
  · refine WP.seq ?_
    refine WP.pure {} [] [2, 3] [.pointer none, .int .i64 1] .nil (by kernel_rfl) (fun b18 => ?_)
    refine thn_n ?_
    refine WP.ret ?_
    refine thn_r ?_
    refine bodyQ.of _ rfl [.pointer none, .int .i64 1] ⟨rfl, rfl, trivial⟩ ?_
    exact ⟨none, 1, rfl, .inl ⟨by omega, rfl, rfl, hp13.fr⟩⟩
  · refine WP.skip ?_
    refine thn_n ?_
    refine WP.seq ?_
    refine WP.region _ rfl (by kernel_rfl) ?_
    refine OPS.batch 1 {} [] [10] [.int .i64 delta] .nil (by kernel_rfl) (fun b19 => ?_)
    refine OPS.cons (opStep.makeMapK kS vO hp13 (fun g22 w20 hp21 => ?_))
    refine OPS.batch 1 {} [] [12] [.agg #[.int .i64 delta, .map (some g22)]] .nil (by kernel_rfl) (fun b23 => ?_)
    refine OPS.cons (opStep.box hp21 [.int .i64 delta, .map (some g22)] (by kernel_rfl) (fun g26 w24 hp25 => ?_))
    refine OPS.batch 2 {} [] [2, 3] [.pointer (some ⟨g26, 0, none⟩), .int .i64 0] .nil (by kernel_rfl) (fun b27 => ?_)
    refine OPS.nil ?_
    refine thn_n ?_
    refine WP.ret ?_
    refine bodyQ.of _ rfl [.pointer (some ⟨g26, 0, none⟩), .int .i64 0] ⟨rfl, rfl, trivial⟩ ?_
    have hp28 := hp25.pull1
    have hp29 := hp28.pull1
    exact ⟨_, 0, rfl, .inr ⟨by omega, g26, g22, rfl, rfl, hp29⟩⟩

end Go.Proofs.Ytdkgdidnknojlaa.K
