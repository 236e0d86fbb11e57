/- Texts of this claim, merged: what the program's functions compute, and the rules that the walks use. -/
import Derived.Test.YtdkgdidnknojlaaProg
import Derived.Test.YtdkgdidnknojlaaZ1
import Derived.Test.YtdkgdidnknojlaaZ5
import Derived.Test.YtdkgdidnknojlaaZ11
namespace Go.Proofs.Ytdkgdidnknojlaa.K
open Go Go.Proofs Go.RowKit
set_option linter.unusedVariables false
set_option linter.unusedSimpArgs false
set_option maxRecDepth 20000
set_option maxHeartbeats 4000000

theorem shpre_no (w0 w : World) (L : List Res) (sb dl : Nat) (a : Option Addr) (n c : Nat) (C : List Ce) (F : Nat → Prop) (D : List (SlH × ByteArray)) (hdl : dl ≤ 4611686018427387903) (hb : C.length ≤ 1048599) (key : ByteArray) (t : GTag) (hd : SlH) (d : ByteArray) (hbt : Bt w0 hd d) (hsz : d.size ≤ 140737488355327) (hat0 : AtR C key t (-1)) (hp0 : Hp w0 Non (Res.row sb [.int .i64 (dl : Int), .slice a n c] 29 :: Res.own 66 6 (.slice a n c) n (C.flatMap cC) :: Res.dat F D :: L) w) :
    Calls Try.prog 26 #[.pointer (some ⟨sb, 0, none⟩), .string key, GTag.val t, .slice hd.a hd.n hd.c] w (fun r_ w' => ∃ a2 n2 c2 C2 F2 D2, r_ = .returned (.tuple #[]) ∧ PreN C D key t d dl C2 D2 ∧ Hp w0 Non (Res.row sb [.int .i64 (dl : Int), .slice a2 n2 c2] 29 :: Res.own 66 6 (.slice a2 n2 c2) n2 (C2.flatMap cC) :: Res.dat F2 D2 :: L) w') := by
  have hle := own_flat (f := cC) (sz := 6) (fun _ => rfl) (by decide) hp0.get1
  refine calls_of Try.func26 rfl 63 rfl (by simp) ?_
  have he0 : List.map (env0 [.pointer (some ⟨sb, 0, none⟩), .string key, GTag.val t, .slice hd.a hd.n hd.c]) [0, 1, 2, 3] = [.pointer (some ⟨sb, 0, none⟩), .string key, GTag.val t, .slice hd.a hd.n hd.c] := by kernel_rfl
  obtain ⟨b0, he0⟩ := toMk he0
  rw [he0]
  clear he0
  refine WP.seq ?_
  refine WP.region _ rfl (by kernel_rfl) ?_
  refine OPS.cons (opStep.box hp0 [.int .i64 t.Count, .int .i64 t.Client] (by kernel_rfl) (fun g3 w1 hp2 => ?_))
  refine OPS.nil ?_
  refine thn_n ?_
  refine WP.seq ?_
  refine WP.seq ?_
  have hp4 := hp2.drew
  refine WP.held (fun w5 => Ld Try.prog w5 31 ⟨g3, 0, none⟩ (GTag.val t) ∧ True) [] [(0, true), (1, true), (2, true), (3, false), (4, false)] (np_thn (np_thn np_body)) (by kernel_rfl) ?_
  refine HOPS.take 3 {} [GTag.val t] [0, 1, 3, 6, 9, 10, 11] [.pointer (some ⟨sb, 0, none⟩), .string key, .slice hd.a hd.n hd.c, .pointer (some ⟨g3, 0, none⟩), GTag.val t, .pointer (some ⟨sb, 0, none⟩), .string key] (by kernel_rfl) ⟨(show Ld Try.prog w1.drew 31 ⟨g3, 0, none⟩ (GTag.val t) from Ld.rowN (cs := [.int .i64 t.Count, .int .i64 t.Client]) hp4.get0 (by kernel_rfl)), trivial⟩ (fun w6 hS7 => QB.mk (.cons (hS7.1) .nil) (by kernel_rfl)) (fun b8 => ?_)
  have hp11 := hp4.pull2
  have hp12 := hp11.pull2
  have hlq : (C).length ≤ 1048600 := by first | omega | (simp only [List.length_append, List.length_cons, List.length_nil, List.length_set]; omega)
  refine HOPS.eff _ rfl (opStep.call (some 12) [.pointer (some ⟨sb, 0, none⟩), .string key] (by kernel_rfl) (floD_c sb dl a n c C _ (ShH.of hp12) (by first | assumption | omega) key hdl) ?_)
  rintro _ w13 ⟨rfl, hf15⟩
  refine ⟨_, rfl, ?_⟩
  have hp14 := hp12.step hf15
  refine ⟨.inr ⟨(show Ld Try.prog w13 31 ⟨g3, 0, none⟩ (GTag.val t) from Ld.rowN (cs := [.int .i64 t.Count, .int .i64 t.Client]) hp14.get2 (by kernel_rfl)), trivial⟩, ?_⟩
  refine HOPS.eff _ rfl (opStep.call (some 13) [GTag.val t, GTag.val (floD C key dl)] (by kernel_rfl) (before_c t (floD C key dl) _) ?_)
  rintro _ w18 ⟨b21, rfl, hb22, hf19⟩
  refine ⟨_, rfl, ?_⟩
  have hp20 := hp14.step hf19
  refine ⟨.inr ⟨(show Ld Try.prog w18 31 ⟨g3, 0, none⟩ (GTag.val t) from Ld.rowN (cs := [.int .i64 t.Count, .int .i64 t.Client]) hp20.get2 (by kernel_rfl)), trivial⟩, ?_⟩
  refine HOPS.nil ?_
  refine thn_n ?_
  refine WP.test (p := tlt t (floD C key dl)) rfl hb22 (fun h23 => ?_) (fun h23 => ?_)
  · refine WP.ret ?_
    refine thn_r ?_
    refine bodyQ.of _ rfl [] trivial ?_
    have hp24 := hp20.pull3
    have hp25 := hp24.pull2
    have hp26 := hp25.pull2
    exact ⟨_, _, _, C, F, D, rfl, .inl ⟨h23, rfl, rfl⟩, (hp26.sub (.cons_cons _ (.cons_cons _ (.cons_cons _ (.cons _ (.refl _))))))⟩
  · refine WP.skip ?_
    refine thn_n ?_
    refine WP.seq ?_
    refine WP.region _ rfl (by kernel_rfl) ?_
    refine OPS.batch 3 {} [GTag.val t] [0, 1, 3, 6, 14, 15, 16] [.pointer (some ⟨sb, 0, none⟩), .string key, .slice hd.a hd.n hd.c, .pointer (some ⟨g3, 0, none⟩), .pointer (some ⟨sb, 0, none⟩), .string key, GTag.val t] (.cons (show Ld Try.prog w18 31 ⟨g3, 0, none⟩ (GTag.val t) from Ld.rowN (cs := [.int .i64 t.Count, .int .i64 t.Client]) hp20.get2 (by kernel_rfl)) .nil) (by kernel_rfl) (fun b27 => ?_)
    have hp30 := hp20.pull1
    have hp31 := hp30.pull1
    have hlq : (C).length ≤ 1048600 := by first | omega | (simp only [List.length_append, List.length_cons, List.length_nil, List.length_set]; omega)
    refine OPS.cons (opStep.call (some 17) [.pointer (some ⟨sb, 0, none⟩), .string key, GTag.val t] (by kernel_rfl) (at_c sb dl a n c C _ (ShH.of hp31) (by first | assumption | omega) key t) ?_)
    rintro _ w32 ⟨i35, rfl, hat36, hf34⟩
    obtain rfl := hat0.one hat36
    refine ⟨_, rfl, ?_⟩
    have hp33 := hp31.step hf34
    refine OPS.batch 1 {} [] [0, 1, 3, 6, 8] [.pointer (some ⟨sb, 0, none⟩), .string key, .slice hd.a hd.n hd.c, .pointer (some ⟨g3, 0, none⟩), .int .i64 (-1)] .nil (by kernel_rfl) (fun b37 => ?_)
    refine OPS.nil ?_
    refine thn_n ?_
    refine WP.seq ?_
    refine WP.pure {} [] [0, 1, 3, 6, 8, 19] [.pointer (some ⟨sb, 0, none⟩), .string key, .slice hd.a hd.n hd.c, .pointer (some ⟨g3, 0, none⟩), .int .i64 (-1), .bool true] .nil (by kernel_rfl) (fun b38 => ?_)
    refine thn_n ?_
    refine WP.condT rfl ?_
    have hp39 := hp33.drew
    refine WP.held (fun w40 => Ld Try.prog w40 27 ⟨sb, 1, none⟩ (.slice a n c) ∧ Ld Try.prog w40 31 ⟨g3, 0, none⟩ (GTag.val t) ∧ True) [15] [(0, true), (1, true), (2, true), (3, true), (4, true), (5, true), (6, true), (7, true), (8, false), (9, true), (10, true), (11, false), (12, false), (13, false), (14, true), (15, false)] np_body (by kernel_rfl) ?_
    refine HOPS.take 8 {} [.slice a n c, GTag.val t] [20, 24, 25, 26, 27] [.pointer (some ⟨sb, 0, none⟩), .slice a n c, .string key, GTag.val t, .slice hd.a hd.n hd.c] (by kernel_rfl) ⟨(show Ld Try.prog w32.drew 27 ⟨sb, 1, none⟩ (.slice a n c) from (Ld.row1 (P := Try.prog) (t := 27) (o := 1) (v := .slice a n c) hp39.get0 (by kernel_rfl))), (show Ld Try.prog w32.drew 31 ⟨g3, 0, none⟩ (GTag.val t) from Ld.rowN (cs := [.int .i64 t.Count, .int .i64 t.Client]) hp39.get2 (by kernel_rfl)), trivial⟩ (fun w41 hS42 => QB.mk (.cons (hS42.1) (.cons (hS42.2.1) .nil)) (by kernel_rfl)) (fun b43 => ?_)
    refine HOPS.eff _ rfl (opStep.call (some 28) [.slice hd.a hd.n hd.c] (by kernel_rfl) (own_c hd d _ (hbt.fram hp39.fr) hsz) ?_)
    rintro _ w46 ⟨h48, F49, rfl, hp47⟩
    refine ⟨_, rfl, ?_⟩
    have hp50 := hp39.madeQ hp47
    simp only [List.cons_append, List.nil_append] at hp50
    refine ⟨.inr ⟨(show Ld Try.prog w46 27 ⟨sb, 1, none⟩ (.slice a n c) from (Ld.row1 (P := Try.prog) (t := 27) (o := 1) (v := .slice a n c) hp50.get1 (by kernel_rfl))), (show Ld Try.prog w46 31 ⟨g3, 0, none⟩ (GTag.val t) from Ld.rowN (cs := [.int .i64 t.Count, .int .i64 t.Client]) hp50.get3 (by kernel_rfl)), trivial⟩, ?_⟩
    refine HOPS.take 2 {} [] [20, 24, 30] [.pointer (some ⟨sb, 0, none⟩), .slice a n c, .agg #[.string key, .int .i64 t.Count, .int .i64 t.Client, .bool false, .bool true, .slice h48.a h48.n h48.c]] (by kernel_rfl) ⟨(show Ld Try.prog w46 27 ⟨sb, 1, none⟩ (.slice a n c) from (Ld.row1 (P := Try.prog) (t := 27) (o := 1) (v := .slice a n c) hp50.get1 (by kernel_rfl))), (show Ld Try.prog w46 31 ⟨g3, 0, none⟩ (GTag.val t) from Ld.rowN (cs := [.int .i64 t.Count, .int .i64 t.Client]) hp50.get3 (by kernel_rfl)), trivial⟩ (fun w51 hS52 => QB.mk .nil (by kernel_rfl)) (fun b53 => ?_)
    refine HOPS.eff _ rfl (opStep.buildSlice (E := 66) hp50 [.string key, .int .i64 t.Count, .int .i64 t.Client, .bool false, .bool true, .slice h48.a h48.n h48.c] (by kernel_rfl) (fun g56 w54 hp55 => ?_))
    refine ⟨.inr ⟨(show Ld Try.prog w54 27 ⟨sb, 1, none⟩ (.slice a n c) from (Ld.row1 (P := Try.prog) (t := 27) (o := 1) (v := .slice a n c) hp55.get2 (by kernel_rfl))), (show Ld Try.prog w54 31 ⟨g3, 0, none⟩ (GTag.val t) from Ld.rowN (cs := [.int .i64 t.Count, .int .i64 t.Client]) hp55.get4 (by kernel_rfl)), trivial⟩, ?_⟩
    refine HOPS.eff _ rfl (opStep.append3 [.string key, .int .i64 t.Count, .int .i64 t.Client, .bool false, .bool true, .slice h48.a h48.n h48.c] hp55 64 (by kernel_rfl) rfl rfl rfl (SlR.row (n := 1) hp55.get0 rfl).rd (List.all_eq_true.1 (by kernel_rfl)) (by decide) (by omega) (by omega) (fun a59 c60 w61 hp62 hn63 => ?_))
    rw [(show List.flatMap cC C ++ [.string key, .int .i64 t.Count, .int .i64 t.Client, .bool false, .bool true, .slice h48.a h48.n h48.c] = List.flatMap cC (C ++ [(⟨⟨key, ⟨⟨t.Count, t.Client⟩, false, true, ⟨h48.a, h48.n, h48.c⟩⟩⟩, d⟩ : Ce)]) from (List.flatMap_append (xs := C) (ys := [(⟨⟨key, ⟨⟨t.Count, t.Client⟩, false, true, ⟨h48.a, h48.n, h48.c⟩⟩⟩, d⟩ : Ce)])).symm)] at hp62
    refine ⟨.inr ⟨(show Ld Try.prog w61 27 ⟨sb, 1, none⟩ (.slice a n c) from (Ld.row1 (P := Try.prog) (t := 27) (o := 1) (v := .slice a n c) hp62.get2 (by kernel_rfl))), (show Ld Try.prog w61 31 ⟨g3, 0, none⟩ (GTag.val t) from Ld.rowN (cs := [.int .i64 t.Count, .int .i64 t.Client]) hp62.get4 (by kernel_rfl)), trivial⟩, ?_⟩
    refine HOPS.one _ rfl {} [] [32, 33] [.slice a59 (n + 1) c60, .pointer (some ⟨sb, 0, none⟩)] .nil (by kernel_rfl) ⟨(show Ld Try.prog w61 27 ⟨sb, 1, none⟩ (.slice a n c) from (Ld.row1 (P := Try.prog) (t := 27) (o := 1) (v := .slice a n c) hp62.get2 (by kernel_rfl))), (show Ld Try.prog w61 31 ⟨g3, 0, none⟩ (GTag.val t) from Ld.rowN (cs := [.int .i64 t.Count, .int .i64 t.Client]) hp62.get4 (by kernel_rfl)), trivial⟩ (fun b66 => ?_)
    refine HOPS.take 1 {} [] [32, 34] [.slice a59 (n + 1) c60, .pointer (some ⟨sb, 1, none⟩)] (by kernel_rfl) ⟨(show Ld Try.prog w61 27 ⟨sb, 1, none⟩ (.slice a n c) from (Ld.row1 (P := Try.prog) (t := 27) (o := 1) (v := .slice a n c) hp62.get2 (by kernel_rfl))), (show Ld Try.prog w61 31 ⟨g3, 0, none⟩ (GTag.val t) from Ld.rowN (cs := [.int .i64 t.Count, .int .i64 t.Client]) hp62.get4 (by kernel_rfl)), trivial⟩ (fun w67 hS68 => QB.mk .nil (by kernel_rfl)) (fun b69 => ?_)
    refine HOPS.eff _ rfl (opStep.store2 hp62 rfl [.slice a59 (n + 1) c60] [.int .i64 ((dl : Nat) : Int), .slice a59 (n + 1) c60] (by kernel_rfl) (fun w70 hp71 => ?_))
    refine ⟨.inl rfl, ?_⟩
    refine HOPS.nil ?_
    refine bodyQ.ofN ?_
    refine bodyQ.of _ rfl [] trivial ?_
    have hp72 := hp71.pull5
    have hp73 := hp72.pull2
    have hp74 := hp73.datJoin
    have hp75 := hp74.pull0
    have hp76 := hp75.pull3
    have hp77 := hp76.pull3
    exact ⟨_, _, _, _, _, _, rfl, .inr ⟨h23, h48, [(h48, d)], rfl, rfl, Dk.last⟩, (hp77.sub (.cons_cons _ (.cons_cons _ (.cons_cons _ (.cons _ (.cons _ (.refl _)))))))⟩

theorem shpre_at (w0 w : World) (L : List Res) (sb dl : Nat) (a : Option Addr) (n c : Nat) (C : List Ce) (F : Nat → Prop) (D : List (SlH × ByteArray)) (hdl : dl ≤ 4611686018427387903) (hb : C.length ≤ 1048599) (key : ByteArray) (t : GTag) (hd : SlH) (d : ByteArray) (hbt : Bt w0 hd d) (hsz : d.size ≤ 140737488355327) (k : Nat) (hat0 : AtR C key t (k : Int)) (hk : k < C.length) (hp0 : Hp w0 Non (Res.row sb [.int .i64 (dl : Int), .slice a n c] 29 :: Res.own 66 6 (.slice a n c) n (C.flatMap cC) :: Res.dat F D :: L) w) :
    Calls Try.prog 26 #[.pointer (some ⟨sb, 0, none⟩), .string key, GTag.val t, .slice hd.a hd.n hd.c] w (fun r_ w' => ∃ a2 n2 c2 C2 F2 D2, r_ = .returned (.tuple #[]) ∧ PreK C D key t d dl k C2 D2 ∧ Hp w0 Non (Res.row sb [.int .i64 (dl : Int), .slice a2 n2 c2] 29 :: Res.own 66 6 (.slice a2 n2 c2) n2 (C2.flatMap cC) :: Res.dat F2 D2 :: L) w') := by
  have hle := own_flat (f := cC) (sz := 6) (fun _ => rfl) (by decide) hp0.get1
  refine calls_of Try.func26 rfl 63 rfl (by simp) ?_
  have he0 : List.map (env0 [.pointer (some ⟨sb, 0, none⟩), .string key, GTag.val t, .slice hd.a hd.n hd.c]) [0, 1, 2, 3] = [.pointer (some ⟨sb, 0, none⟩), .string key, GTag.val t, .slice hd.a hd.n hd.c] := by kernel_rfl
  obtain ⟨b0, he0⟩ := toMk he0
  rw [he0]
  clear he0
  refine WP.seq ?_
  refine WP.region _ rfl (by kernel_rfl) ?_
  refine OPS.cons (opStep.box hp0 [.int .i64 t.Count, .int .i64 t.Client] (by kernel_rfl) (fun g3 w1 hp2 => ?_))
  refine OPS.nil ?_
  refine thn_n ?_
  refine WP.seq ?_
  refine WP.seq ?_
  have hp4 := hp2.drew
  refine WP.held (fun w5 => Ld Try.prog w5 31 ⟨g3, 0, none⟩ (GTag.val t) ∧ True) [] [(0, true), (1, true), (2, true), (3, false), (4, false)] (np_thn (np_thn np_body)) (by kernel_rfl) ?_
  refine HOPS.take 3 {} [GTag.val t] [0, 1, 3, 6, 9, 10, 11] [.pointer (some ⟨sb, 0, none⟩), .string key, .slice hd.a hd.n hd.c, .pointer (some ⟨g3, 0, none⟩), GTag.val t, .pointer (some ⟨sb, 0, none⟩), .string key] (by kernel_rfl) ⟨(show Ld Try.prog w1.drew 31 ⟨g3, 0, none⟩ (GTag.val t) from Ld.rowN (cs := [.int .i64 t.Count, .int .i64 t.Client]) hp4.get0 (by kernel_rfl)), trivial⟩ (fun w6 hS7 => QB.mk (.cons (hS7.1) .nil) (by kernel_rfl)) (fun b8 => ?_)
  have hp11 := hp4.pull2
  have hp12 := hp11.pull2
  have hlq : (C).length ≤ 1048600 := by first | omega | (simp only [List.length_append, List.length_cons, List.length_nil, List.length_set]; omega)
  refine HOPS.eff _ rfl (opStep.call (some 12) [.pointer (some ⟨sb, 0, none⟩), .string key] (by kernel_rfl) (floD_c sb dl a n c C _ (ShH.of hp12) (by first | assumption | omega) key hdl) ?_)
  rintro _ w13 ⟨rfl, hf15⟩
  refine ⟨_, rfl, ?_⟩
  have hp14 := hp12.step hf15
  refine ⟨.inr ⟨(show Ld Try.prog w13 31 ⟨g3, 0, none⟩ (GTag.val t) from Ld.rowN (cs := [.int .i64 t.Count, .int .i64 t.Client]) hp14.get2 (by kernel_rfl)), trivial⟩, ?_⟩
  refine HOPS.eff _ rfl (opStep.call (some 13) [GTag.val t, GTag.val (floD C key dl)] (by kernel_rfl) (before_c t (floD C key dl) _) ?_)
  rintro _ w18 ⟨b21, rfl, hb22, hf19⟩
  refine ⟨_, rfl, ?_⟩
  have hp20 := hp14.step hf19
  refine ⟨.inr ⟨(show Ld Try.prog w18 31 ⟨g3, 0, none⟩ (GTag.val t) from Ld.rowN (cs := [.int .i64 t.Count, .int .i64 t.Client]) hp20.get2 (by kernel_rfl)), trivial⟩, ?_⟩
  refine HOPS.nil ?_
  refine thn_n ?_
  refine WP.test (p := tlt t (floD C key dl)) rfl hb22 (fun h23 => ?_) (fun h23 => ?_)
  · refine WP.ret ?_
    refine thn_r ?_
    refine bodyQ.of _ rfl [] trivial ?_
    have hp24 := hp20.pull3
    have hp25 := hp24.pull2
    have hp26 := hp25.pull2
    exact ⟨_, _, _, C, F, D, rfl, .inl ⟨.inl h23, rfl, rfl⟩, (hp26.sub (.cons_cons _ (.cons_cons _ (.cons_cons _ (.cons _ (.refl _))))))⟩
  · refine WP.skip ?_
    refine thn_n ?_
    refine WP.seq ?_
    refine WP.region _ rfl (by kernel_rfl) ?_
    refine OPS.batch 3 {} [GTag.val t] [0, 1, 3, 6, 14, 15, 16] [.pointer (some ⟨sb, 0, none⟩), .string key, .slice hd.a hd.n hd.c, .pointer (some ⟨g3, 0, none⟩), .pointer (some ⟨sb, 0, none⟩), .string key, GTag.val t] (.cons (show Ld Try.prog w18 31 ⟨g3, 0, none⟩ (GTag.val t) from Ld.rowN (cs := [.int .i64 t.Count, .int .i64 t.Client]) hp20.get2 (by kernel_rfl)) .nil) (by kernel_rfl) (fun b27 => ?_)
    have hp30 := hp20.pull1
    have hp31 := hp30.pull1
    have hlq : (C).length ≤ 1048600 := by first | omega | (simp only [List.length_append, List.length_cons, List.length_nil, List.length_set]; omega)
    refine OPS.cons (opStep.call (some 17) [.pointer (some ⟨sb, 0, none⟩), .string key, GTag.val t] (by kernel_rfl) (at_c sb dl a n c C _ (ShH.of hp31) (by first | assumption | omega) key t) ?_)
    rintro _ w32 ⟨i35, rfl, hat36, hf34⟩
    obtain rfl := hat0.one hat36
    refine ⟨_, rfl, ?_⟩
    have hp33 := hp31.step hf34
    refine OPS.batch 1 {} [] [0, 1, 3, 6, 8] [.pointer (some ⟨sb, 0, none⟩), .string key, .slice hd.a hd.n hd.c, .pointer (some ⟨g3, 0, none⟩), .int .i64 ((k : Nat) : Int)] .nil (by kernel_rfl) (fun b37 => ?_)
    refine OPS.nil ?_
    refine thn_n ?_
    refine WP.seq ?_
    refine WP.pure {} [] [0, 1, 3, 6, 8, 19] [.pointer (some ⟨sb, 0, none⟩), .string key, .slice hd.a hd.n hd.c, .pointer (some ⟨g3, 0, none⟩), .int .i64 ((k : Nat) : Int), .bool (decide (((k : Nat) : Int) < 0))] .nil (by kernel_rfl) (fun b38 => ?_)
    refine thn_n ?_
    refine WP.test (p := ((k : Nat) : Int) < 0) rfl Bp.dec (fun h39 => ?_) (fun h39 => ?_)
    · have hp40 := hp33.drew
      refine WP.held (fun w41 => Ld Try.prog w41 27 ⟨sb, 1, none⟩ (.slice a n c) ∧ Ld Try.prog w41 31 ⟨g3, 0, none⟩ (GTag.val t) ∧ True) [15] [(0, true), (1, true), (2, true), (3, true), (4, true), (5, true), (6, true), (7, true), (8, false), (9, true), (10, true), (11, false), (12, false), (13, false), (14, true), (15, false)] np_body (by kernel_rfl) ?_
      refine HOPS.take 8 {} [.slice a n c, GTag.val t] [20, 24, 25, 26, 27] [.pointer (some ⟨sb, 0, none⟩), .slice a n c, .string key, GTag.val t, .slice hd.a hd.n hd.c] (by kernel_rfl) ⟨(show Ld Try.prog w32.drew 27 ⟨sb, 1, none⟩ (.slice a n c) from (Ld.row1 (P := Try.prog) (t := 27) (o := 1) (v := .slice a n c) hp40.get0 (by kernel_rfl))), (show Ld Try.prog w32.drew 31 ⟨g3, 0, none⟩ (GTag.val t) from Ld.rowN (cs := [.int .i64 t.Count, .int .i64 t.Client]) hp40.get2 (by kernel_rfl)), trivial⟩ (fun w42 hS43 => QB.mk (.cons (hS43.1) (.cons (hS43.2.1) .nil)) (by kernel_rfl)) (fun b44 => ?_)
      refine HOPS.eff _ rfl (opStep.call (some 28) [.slice hd.a hd.n hd.c] (by kernel_rfl) (own_c hd d _ (hbt.fram hp40.fr) hsz) ?_)
      rintro _ w47 ⟨h49, F50, rfl, hp48⟩
      refine ⟨_, rfl, ?_⟩
      have hp51 := hp40.madeQ hp48
      simp only [List.cons_append, List.nil_append] at hp51
      refine ⟨.inr ⟨(show Ld Try.prog w47 27 ⟨sb, 1, none⟩ (.slice a n c) from (Ld.row1 (P := Try.prog) (t := 27) (o := 1) (v := .slice a n c) hp51.get1 (by kernel_rfl))), (show Ld Try.prog w47 31 ⟨g3, 0, none⟩ (GTag.val t) from Ld.rowN (cs := [.int .i64 t.Count, .int .i64 t.Client]) hp51.get3 (by kernel_rfl)), trivial⟩, ?_⟩
      refine HOPS.take 2 {} [] [20, 24, 30] [.pointer (some ⟨sb, 0, none⟩), .slice a n c, .agg #[.string key, .int .i64 t.Count, .int .i64 t.Client, .bool false, .bool true, .slice h49.a h49.n h49.c]] (by kernel_rfl) ⟨(show Ld Try.prog w47 27 ⟨sb, 1, none⟩ (.slice a n c) from (Ld.row1 (P := Try.prog) (t := 27) (o := 1) (v := .slice a n c) hp51.get1 (by kernel_rfl))), (show Ld Try.prog w47 31 ⟨g3, 0, none⟩ (GTag.val t) from Ld.rowN (cs := [.int .i64 t.Count, .int .i64 t.Client]) hp51.get3 (by kernel_rfl)), trivial⟩ (fun w52 hS53 => QB.mk .nil (by kernel_rfl)) (fun b54 => ?_)
      refine HOPS.eff _ rfl (opStep.buildSlice (E := 66) hp51 [.string key, .int .i64 t.Count, .int .i64 t.Client, .bool false, .bool true, .slice h49.a h49.n h49.c] (by kernel_rfl) (fun g57 w55 hp56 => ?_))
      refine ⟨.inr ⟨(show Ld Try.prog w55 27 ⟨sb, 1, none⟩ (.slice a n c) from (Ld.row1 (P := Try.prog) (t := 27) (o := 1) (v := .slice a n c) hp56.get2 (by kernel_rfl))), (show Ld Try.prog w55 31 ⟨g3, 0, none⟩ (GTag.val t) from Ld.rowN (cs := [.int .i64 t.Count, .int .i64 t.Client]) hp56.get4 (by kernel_rfl)), trivial⟩, ?_⟩
      refine HOPS.eff _ rfl (opStep.append3 [.string key, .int .i64 t.Count, .int .i64 t.Client, .bool false, .bool true, .slice h49.a h49.n h49.c] hp56 64 (by kernel_rfl) rfl rfl rfl (SlR.row (n := 1) hp56.get0 rfl).rd (List.all_eq_true.1 (by kernel_rfl)) (by decide) (by omega) (by omega) (fun a60 c61 w62 hp63 hn64 => ?_))
      rw [(show List.flatMap cC C ++ [.string key, .int .i64 t.Count, .int .i64 t.Client, .bool false, .bool true, .slice h49.a h49.n h49.c] = List.flatMap cC (C ++ [(⟨⟨key, ⟨⟨t.Count, t.Client⟩, false, true, ⟨h49.a, h49.n, h49.c⟩⟩⟩, d⟩ : Ce)]) from (List.flatMap_append (xs := C) (ys := [(⟨⟨key, ⟨⟨t.Count, t.Client⟩, false, true, ⟨h49.a, h49.n, h49.c⟩⟩⟩, d⟩ : Ce)])).symm)] at hp63
      refine ⟨.inr ⟨(show Ld Try.prog w62 27 ⟨sb, 1, none⟩ (.slice a n c) from (Ld.row1 (P := Try.prog) (t := 27) (o := 1) (v := .slice a n c) hp63.get2 (by kernel_rfl))), (show Ld Try.prog w62 31 ⟨g3, 0, none⟩ (GTag.val t) from Ld.rowN (cs := [.int .i64 t.Count, .int .i64 t.Client]) hp63.get4 (by kernel_rfl)), trivial⟩, ?_⟩
      refine HOPS.one _ rfl {} [] [32, 33] [.slice a60 (n + 1) c61, .pointer (some ⟨sb, 0, none⟩)] .nil (by kernel_rfl) ⟨(show Ld Try.prog w62 27 ⟨sb, 1, none⟩ (.slice a n c) from (Ld.row1 (P := Try.prog) (t := 27) (o := 1) (v := .slice a n c) hp63.get2 (by kernel_rfl))), (show Ld Try.prog w62 31 ⟨g3, 0, none⟩ (GTag.val t) from Ld.rowN (cs := [.int .i64 t.Count, .int .i64 t.Client]) hp63.get4 (by kernel_rfl)), trivial⟩ (fun b67 => ?_)
      refine HOPS.take 1 {} [] [32, 34] [.slice a60 (n + 1) c61, .pointer (some ⟨sb, 1, none⟩)] (by kernel_rfl) ⟨(show Ld Try.prog w62 27 ⟨sb, 1, none⟩ (.slice a n c) from (Ld.row1 (P := Try.prog) (t := 27) (o := 1) (v := .slice a n c) hp63.get2 (by kernel_rfl))), (show Ld Try.prog w62 31 ⟨g3, 0, none⟩ (GTag.val t) from Ld.rowN (cs := [.int .i64 t.Count, .int .i64 t.Client]) hp63.get4 (by kernel_rfl)), trivial⟩ (fun w68 hS69 => QB.mk .nil (by kernel_rfl)) (fun b70 => ?_)
      refine HOPS.eff _ rfl (opStep.store2 hp63 rfl [.slice a60 (n + 1) c61] [.int .i64 ((dl : Nat) : Int), .slice a60 (n + 1) c61] (by kernel_rfl) (fun w71 hp72 => ?_))
      refine ⟨.inl rfl, ?_⟩
      refine HOPS.nil ?_
      refine bodyQ.ofN ?_
      refine bodyQ.of _ rfl [] trivial ?_
      exfalso
      omega
    · refine WP.seq ?_
      have := own_flat (sz := 6) (fun _ => rfl) (by decide) hp33.get1
      have hy74 : (C)[k]? = some C[k]! := get_bang (by first | (omega) | (simp only [List.length_append, List.length_cons, List.length_nil]; omega) | (simp only [List.length_take, List.length_append, List.length_cons, List.length_nil]; omega))
      refine WP.pure {} [.slice a n c, .bool (C[k]!.c.e.Has)] [0, 3, 8, 44] [.pointer (some ⟨sb, 0, none⟩), .slice hd.a hd.n hd.c, .int .i64 ((k : Nat) : Int), .bool (!(C[k]!.c.e.Has))] (.cons (Ld.row1 (P := Try.prog) (t := 27) (o := 1) (v := .slice a n c) hp33.get0 (by kernel_rfl)) (.cons (show InB (((k : Nat) : Int)) (n) from ⟨by omega, by omega⟩) (.cons ((SlR.own (hp33.get1)).some (by omega)) (.cons (Ld.el1 (P := Try.prog) (t := 4) (SlR.own (hp33.get1)).rd 6 (fun _ => rfl) hy74 (o := 4) (v := .bool (C[k]!.c.e.Has)) (by kernel_rfl)) .nil)))) (by kernel_rfl) (fun b75 => ?_)
      refine thn_n ?_
      refine WP.test (p := ¬ ((C[k]!.c.e.Has) = true)) rfl (Bp.not Bp.var) (fun h76 => ?_) (fun h76 => ?_)
      · refine WP.seq ?_
        refine WP.region _ rfl (by kernel_rfl) ?_
        refine OPS.batch 8 {} [.slice a n c] [0, 3, 8, 52] [.pointer (some ⟨sb, 0, none⟩), .slice hd.a hd.n hd.c, .int .i64 ((k : Nat) : Int), .pointer (some ((((adr a).add (k * 6)).add 1).add 3))] (.cons (Ld.row1 (P := Try.prog) (t := 27) (o := 1) (v := .slice a n c) hp33.get0 (by kernel_rfl)) (.cons (show InB (((k : Nat) : Int)) (n) from ⟨by omega, by omega⟩) (.cons ((SlR.own (hp33.get1)).some (by omega)) .nil))) (by kernel_rfl) (fun b77 => ?_)
        have := own_flat (sz := 6) (fun _ => rfl) (by decide) hp33.get1
        try simp only [List.length_set] at this
        refine OPS.cons (opStep.storeOwn1 (k * 6 + 4) hp33 (by exact congrArg (fun z => Value.pointer (some z)) (addr_add2 (adr a) (k * 6) 4)) [.bool true] (by kernel_rfl) (by simp) (show k * 6 + 4 + 1 ≤ n * 6 by omega) (fun w78 hp79 => ?_))
        have hp80 := hp79
        rw [show ow (List.flatMap cC C) (k * 6 + 4) [.bool true] = List.flatMap cC (C.set k (⟨⟨C[k]!.c.key, ⟨⟨C[k]!.c.e.Tag.Count, C[k]!.c.e.Tag.Client⟩, C[k]!.c.e.Fin, true, ⟨C[k]!.c.e.Data.a, C[k]!.c.e.Data.n, C[k]!.c.e.Data.c⟩⟩⟩, C[k]!.d⟩ : Ce)) from ow_flat_part (sz := 6) (fun _ => rfl) (show 4 + 1 ≤ 6 by decide) (by first | (omega) | (simp only [List.length_set]; omega)) (⟨⟨C[k]!.c.key, ⟨⟨C[k]!.c.e.Tag.Count, C[k]!.c.e.Tag.Client⟩, C[k]!.c.e.Fin, true, ⟨C[k]!.c.e.Data.a, C[k]!.c.e.Data.n, C[k]!.c.e.Data.c⟩⟩⟩, C[k]!.d⟩ : Ce) (by first | rfl | (rw [set_get (by omega), if_pos rfl]; rfl))] at hp80
        refine OPS.nil ?_
        refine thn_n ?_
        have hp81 := hp80.drew
        refine WP.held (fun w82 => Ld Try.prog w82 27 ⟨sb, 1, none⟩ (.slice a n c) ∧ True) [10] [(0, true), (1, true), (2, true), (3, true), (4, true), (5, true), (6, false), (7, false), (8, false), (9, true), (10, false)] np_body (by kernel_rfl) ?_
        refine HOPS.take 6 {} [.slice a n c] [56, 57, 58] [.slice a n c, .int .i64 ((k : Nat) : Int), .slice hd.a hd.n hd.c] (by kernel_rfl) ⟨(show Ld Try.prog w78.drew 27 ⟨sb, 1, none⟩ (.slice a n c) from (Ld.row1 (P := Try.prog) (t := 27) (o := 1) (v := .slice a n c) hp81.get0 (by kernel_rfl))), trivial⟩ (fun w83 hS84 => QB.mk (.cons (hS84.1) .nil) (by kernel_rfl)) (fun b85 => ?_)
        refine HOPS.eff _ rfl (opStep.call (some 59) [.slice hd.a hd.n hd.c] (by kernel_rfl) (own_c hd d _ (hbt.fram hp81.fr) hsz) ?_)
        rintro _ w88 ⟨h90, F91, rfl, hp89⟩
        refine ⟨_, rfl, ?_⟩
        have hp92 := hp81.madeQ hp89
        simp only [List.cons_append, List.nil_append] at hp92
        refine ⟨.inr ⟨(show Ld Try.prog w88 27 ⟨sb, 1, none⟩ (.slice a n c) from (Ld.row1 (P := Try.prog) (t := 27) (o := 1) (v := .slice a n c) hp92.get1 (by kernel_rfl))), trivial⟩, ?_⟩
        refine HOPS.one _ rfl {} [] [59, 60] [.slice h90.a h90.n h90.c, .pointer (some ((adr a).add (k * 6)))] (.cons (show InB (((k : Nat) : Int)) (n) from ⟨by omega, by omega⟩) (.cons ((SlR.own (hp92.get2)).some (by omega)) .nil)) (by kernel_rfl) ⟨(show Ld Try.prog w88 27 ⟨sb, 1, none⟩ (.slice a n c) from (Ld.row1 (P := Try.prog) (t := 27) (o := 1) (v := .slice a n c) hp92.get1 (by kernel_rfl))), trivial⟩ (fun b95 => ?_)
        refine HOPS.one _ rfl {} [] [59, 61] [.slice h90.a h90.n h90.c, .pointer (some (((adr a).add (k * 6)).add 1))] .nil (by kernel_rfl) ⟨(show Ld Try.prog w88 27 ⟨sb, 1, none⟩ (.slice a n c) from (Ld.row1 (P := Try.prog) (t := 27) (o := 1) (v := .slice a n c) hp92.get1 (by kernel_rfl))), trivial⟩ (fun b98 => ?_)
        refine HOPS.take 1 {} [] [59, 62] [.slice h90.a h90.n h90.c, .pointer (some ((((adr a).add (k * 6)).add 1).add 4))] (by kernel_rfl) ⟨(show Ld Try.prog w88 27 ⟨sb, 1, none⟩ (.slice a n c) from (Ld.row1 (P := Try.prog) (t := 27) (o := 1) (v := .slice a n c) hp92.get1 (by kernel_rfl))), trivial⟩ (fun w99 hS100 => QB.mk .nil (by kernel_rfl)) (fun b101 => ?_)
        have := own_flat (sz := 6) (fun _ => rfl) (by decide) hp92.get2
        try simp only [List.length_set] at this
        refine HOPS.eff _ rfl (opStep.storeOwn2 (k * 6 + 5) hp92 (by exact congrArg (fun z => Value.pointer (some z)) (addr_add2 (adr a) (k * 6) 5)) [.slice h90.a h90.n h90.c] (by kernel_rfl) (by simp) (show k * 6 + 5 + 1 ≤ n * 6 by omega) (fun w102 hp103 => ?_))
        have hp104 := hp103
        rw [show ow (List.flatMap cC (C.set k (⟨⟨C[k]!.c.key, ⟨⟨C[k]!.c.e.Tag.Count, C[k]!.c.e.Tag.Client⟩, C[k]!.c.e.Fin, true, ⟨C[k]!.c.e.Data.a, C[k]!.c.e.Data.n, C[k]!.c.e.Data.c⟩⟩⟩, C[k]!.d⟩ : Ce))) (k * 6 + 5) [.slice h90.a h90.n h90.c] = List.flatMap cC ((C.set k (⟨⟨C[k]!.c.key, ⟨⟨C[k]!.c.e.Tag.Count, C[k]!.c.e.Tag.Client⟩, C[k]!.c.e.Fin, true, ⟨C[k]!.c.e.Data.a, C[k]!.c.e.Data.n, C[k]!.c.e.Data.c⟩⟩⟩, C[k]!.d⟩ : Ce)).set k (⟨⟨C[k]!.c.key, ⟨⟨C[k]!.c.e.Tag.Count, C[k]!.c.e.Tag.Client⟩, C[k]!.c.e.Fin, true, ⟨h90.a, h90.n, h90.c⟩⟩⟩, d⟩ : Ce)) from ow_flat_part (sz := 6) (fun _ => rfl) (show 5 + 1 ≤ 6 by decide) (by first | (omega) | (simp only [List.length_set]; omega)) (⟨⟨C[k]!.c.key, ⟨⟨C[k]!.c.e.Tag.Count, C[k]!.c.e.Tag.Client⟩, C[k]!.c.e.Fin, true, ⟨h90.a, h90.n, h90.c⟩⟩⟩, d⟩ : Ce) (by first | rfl | (rw [set_get (by omega), if_pos rfl]; rfl))] at hp104
        refine ⟨.inl rfl, ?_⟩
        refine HOPS.nil ?_
        refine bodyQ.ofN ?_
        refine bodyQ.of _ rfl [] trivial ?_
        have hp105 := hp104.pull4
        have hp106 := hp105.pull1
        have hp107 := hp106.datJoin
        have hp108 := hp107.pull0
        have hp109 := hp108.pull2
        have hp110 := hp109.pull2
        exact ⟨_, _, _, _, _, _, rfl, .inr ⟨h23, by have h_ := h76; simpa using h_, h90, [(h90, d)], by rw [List.set_set], rfl, Dk.last⟩, (hp110.sub (.cons_cons _ (.cons_cons _ (.cons_cons _ (.cons _ (.refl _))))))⟩
      · replace h76 := Classical.not_not.1 h76
        refine WP.skip ?_
        refine bodyQ.ofN ?_
        refine bodyQ.of _ rfl [] trivial ?_
        have hp111 := hp33.pull3
        have hp112 := hp111.pull2
        have hp113 := hp112.pull2
        exact ⟨_, _, _, C, F, D, rfl, .inl ⟨.inr (by have h_ := h76; simpa using h_), rfl, rfl⟩, (hp113.sub (.cons_cons _ (.cons_cons _ (.cons_cons _ (.cons _ (.refl _))))))⟩

end Go.Proofs.Ytdkgdidnknojlaa.K
