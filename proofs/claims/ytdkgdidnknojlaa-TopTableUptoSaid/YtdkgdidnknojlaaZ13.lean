/- Texts of this claim, merged: what the program's functions compute, and the rules that the walks use. -/
import Derived.Test.YtdkgdidnknojlaaProg
import Derived.Test.YtdkgdidnknojlaaZ1
import Derived.Test.YtdkgdidnknojlaaZ2
import Derived.Test.YtdkgdidnknojlaaZ3
import Derived.Test.YtdkgdidnknojlaaZ10
import Derived.Test.YtdkgdidnknojlaaZ11
import Derived.Test.YtdkgdidnknojlaaZ12
namespace Go.Proofs.Ytdkgdidnknojlaa.K
open Go Go.Proofs Go.RowKit
set_option linter.unusedVariables false
set_option linter.unusedSimpArgs false
set_option maxRecDepth 20000
set_option maxHeartbeats 4000000

theorem shfin_no (w0 w : World) (L : List Res) (sb dl : Nat) (a : Option Addr) (n c : Nat) (C : List Ce) (F : Nat → Prop) (D : List (SlH × ByteArray)) (hdl : dl ≤ 4611686018427387903) (hb : C.length ≤ 1048599) (key : ByteArray) (t : GTag) (hat0 : AtR C key t (-1)) (hp0 : Hp w0 Non (Res.row sb [.int .i64 (dl : Int), .slice a n c] 29 :: Res.own 66 6 (.slice a n c) n (C.flatMap cC) :: Res.dat F D :: L) w) :
    Calls Try.prog 27 #[.pointer (some ⟨sb, 0, none⟩), .string key, GTag.val t] w (fun r_ w' => ∃ a2 n2 c2 C2, r_ = .returned (.tuple #[]) ∧ FinN C key t dl C2 ∧ Hp w0 Non (Res.row sb [.int .i64 (dl : Int), .slice a2 n2 c2] 29 :: Res.own 66 6 (.slice a2 n2 c2) n2 (C2.flatMap cC) :: Res.dat F D :: L) w') := by
  have hle := own_flat (f := cC) (sz := 6) (fun _ => rfl) (by decide) hp0.get1
  refine calls_of Try.func27 rfl 76 rfl (by simp) ?_
  have he0 : List.map (env0 [.pointer (some ⟨sb, 0, none⟩), .string key, GTag.val t]) [0, 1, 2] = [.pointer (some ⟨sb, 0, none⟩), .string key, GTag.val t] := by kernel_rfl
  obtain ⟨b0, he0⟩ := toMk he0
  rw [he0]
  clear he0
  refine WP.seq ?_
  refine WP.region _ rfl (by kernel_rfl) ?_
  refine OPS.cons (opStep.box hp0 [.int .i64 t.Count, .int .i64 t.Client] (by kernel_rfl) (fun g3 w1 hp2 => ?_))
  refine OPS.nil ?_
  refine thn_n ?_
  refine WP.seq ?_
  refine WP.seq ?_
  have hp4 := hp2.drew
  refine WP.held (fun w5 => Ld Try.prog w5 31 ⟨g3, 0, none⟩ (GTag.val t) ∧ True) [] [(0, true), (1, true), (2, true), (3, false), (4, false)] (np_thn (np_thn np_body)) (by kernel_rfl) ?_
  refine HOPS.take 3 {} [GTag.val t] [0, 1, 5, 11, 12, 13] [.pointer (some ⟨sb, 0, none⟩), .string key, .pointer (some ⟨g3, 0, none⟩), GTag.val t, .pointer (some ⟨sb, 0, none⟩), .string key] (by kernel_rfl) ⟨(show Ld Try.prog w1.drew 31 ⟨g3, 0, none⟩ (GTag.val t) from Ld.rowN (cs := [.int .i64 t.Count, .int .i64 t.Client]) hp4.get0 (by kernel_rfl)), trivial⟩ (fun w6 hS7 => QB.mk (.cons (hS7.1) .nil) (by kernel_rfl)) (fun b8 => ?_)
  have hp11 := hp4.pull2
  have hp12 := hp11.pull2
  have hlq : (C).length ≤ 1048600 := by first | omega | (simp only [List.length_append, List.length_cons, List.length_nil, List.length_set]; omega)
  refine HOPS.eff _ rfl (opStep.call (some 14) [.pointer (some ⟨sb, 0, none⟩), .string key] (by kernel_rfl) (floD_c sb dl a n c C _ (ShH.of hp12) (by first | assumption | omega) key hdl) ?_)
  rintro _ w13 ⟨rfl, hf15⟩
  refine ⟨_, rfl, ?_⟩
  have hp14 := hp12.step hf15
  refine ⟨.inr ⟨(show Ld Try.prog w13 31 ⟨g3, 0, none⟩ (GTag.val t) from Ld.rowN (cs := [.int .i64 t.Count, .int .i64 t.Client]) hp14.get2 (by kernel_rfl)), trivial⟩, ?_⟩
  refine HOPS.eff _ rfl (opStep.call (some 15) [GTag.val t, GTag.val (floD C key dl)] (by kernel_rfl) (before_c t (floD C key dl) _) ?_)
  rintro _ w18 ⟨b21, rfl, hb22, hf19⟩
  refine ⟨_, rfl, ?_⟩
  have hp20 := hp14.step hf19
  refine ⟨.inr ⟨(show Ld Try.prog w18 31 ⟨g3, 0, none⟩ (GTag.val t) from Ld.rowN (cs := [.int .i64 t.Count, .int .i64 t.Client]) hp20.get2 (by kernel_rfl)), trivial⟩, ?_⟩
  refine HOPS.nil ?_
  refine thn_n ?_
  refine WP.test (p := tlt t (floD C key dl)) rfl hb22 (fun h23 => ?_) (fun h23 => ?_)
  · refine WP.ret ?_
    refine thn_r ?_
    refine bodyQ.of _ rfl [] trivial ?_
    have hp24 := hp20.pull3
    have hp25 := hp24.pull2
    have hp26 := hp25.pull2
    exact ⟨_, _, _, C, rfl, .inl ⟨h23, rfl⟩, (hp26.sub (.cons_cons _ (.cons_cons _ (.cons_cons _ (.cons _ (.refl _))))))⟩
  · refine WP.skip ?_
    refine thn_n ?_
    refine WP.seq ?_
    refine WP.region _ rfl (by kernel_rfl) ?_
    refine OPS.batch 3 {} [GTag.val t] [0, 1, 5, 16, 17, 18] [.pointer (some ⟨sb, 0, none⟩), .string key, .pointer (some ⟨g3, 0, none⟩), .pointer (some ⟨sb, 0, none⟩), .string key, GTag.val t] (.cons (show Ld Try.prog w18 31 ⟨g3, 0, none⟩ (GTag.val t) from Ld.rowN (cs := [.int .i64 t.Count, .int .i64 t.Client]) hp20.get2 (by kernel_rfl)) .nil) (by kernel_rfl) (fun b27 => ?_)
    have hp30 := hp20.pull1
    have hp31 := hp30.pull1
    have hlq : (C).length ≤ 1048600 := by first | omega | (simp only [List.length_append, List.length_cons, List.length_nil, List.length_set]; omega)
    refine OPS.cons (opStep.call (some 19) [.pointer (some ⟨sb, 0, none⟩), .string key, GTag.val t] (by kernel_rfl) (at_c sb dl a n c C _ (ShH.of hp31) (by first | assumption | omega) key t) ?_)
    rintro _ w32 ⟨i35, rfl, hat36, hf34⟩
    obtain rfl := hat0.one hat36
    refine ⟨_, rfl, ?_⟩
    have hp33 := hp31.step hf34
    refine OPS.batch 1 {} [] [0, 1, 5, 6] [.pointer (some ⟨sb, 0, none⟩), .string key, .pointer (some ⟨g3, 0, none⟩), .int .i64 (-1)] .nil (by kernel_rfl) (fun b37 => ?_)
    refine OPS.nil ?_
    refine thn_n ?_
    refine WP.seq ?_
    refine WP.seq ?_
    refine WP.pure {} [] [0, 1, 5, 6, 21] [.pointer (some ⟨sb, 0, none⟩), .string key, .pointer (some ⟨g3, 0, none⟩), .int .i64 (-1), .bool true] .nil (by kernel_rfl) (fun b38 => ?_)
    refine thn_n ?_
    refine WP.condT rfl ?_
    have hp39 := hp33.drew
    refine WP.held (fun w40 => Ld Try.prog w40 27 ⟨sb, 1, none⟩ (.slice a n c) ∧ Ld Try.prog w40 31 ⟨g3, 0, none⟩ (GTag.val t) ∧ True) [13] [(0, true), (1, true), (2, true), (3, true), (4, true), (5, true), (6, true), (7, true), (8, true), (9, false), (10, false), (11, false), (12, true), (13, false)] (np_thn np_body) (by kernel_rfl) ?_
    refine HOPS.take 9 {} [.slice a n c, GTag.val t] [0, 1, 22, 26, 30] [.pointer (some ⟨sb, 0, none⟩), .string key, .pointer (some ⟨sb, 0, none⟩), .slice a n c, .agg #[.string key, .int .i64 t.Count, .int .i64 t.Client, .bool true, .bool false, .slice none 0 0]] (by kernel_rfl) ⟨(show Ld Try.prog w32.drew 27 ⟨sb, 1, none⟩ (.slice a n c) from (Ld.row1 (P := Try.prog) (t := 27) (o := 1) (v := .slice a n c) hp39.get0 (by kernel_rfl))), (show Ld Try.prog w32.drew 31 ⟨g3, 0, none⟩ (GTag.val t) from Ld.rowN (cs := [.int .i64 t.Count, .int .i64 t.Client]) hp39.get2 (by kernel_rfl)), trivial⟩ (fun w41 hS42 => QB.mk (.cons (hS42.1) (.cons (hS42.2.1) .nil)) (by kernel_rfl)) (fun b43 => ?_)
    refine HOPS.eff _ rfl (opStep.buildSlice (E := 66) hp39 [.string key, .int .i64 t.Count, .int .i64 t.Client, .bool true, .bool false, .slice none 0 0] (by kernel_rfl) (fun g46 w44 hp45 => ?_))
    refine ⟨.inr ⟨(show Ld Try.prog w44 27 ⟨sb, 1, none⟩ (.slice a n c) from (Ld.row1 (P := Try.prog) (t := 27) (o := 1) (v := .slice a n c) hp45.get1 (by kernel_rfl))), (show Ld Try.prog w44 31 ⟨g3, 0, none⟩ (GTag.val t) from Ld.rowN (cs := [.int .i64 t.Count, .int .i64 t.Client]) hp45.get3 (by kernel_rfl)), trivial⟩, ?_⟩
    refine HOPS.eff _ rfl (opStep.append2 [.string key, .int .i64 t.Count, .int .i64 t.Client, .bool true, .bool false, .slice none 0 0] hp45 64 (by kernel_rfl) rfl rfl rfl (SlR.row (n := 1) hp45.get0 rfl).rd (List.all_eq_true.1 (by kernel_rfl)) (by decide) (by omega) (by omega) (fun a49 c50 w51 hp52 hn53 => ?_))
    rw [(show List.flatMap cC C ++ [.string key, .int .i64 t.Count, .int .i64 t.Client, .bool true, .bool false, .slice none 0 0] = List.flatMap cC (C ++ [(⟨⟨key, ⟨⟨t.Count, t.Client⟩, true, false, ⟨none, 0, 0⟩⟩⟩, ⟨#[]⟩⟩ : Ce)]) from (List.flatMap_append (xs := C) (ys := [(⟨⟨key, ⟨⟨t.Count, t.Client⟩, true, false, ⟨none, 0, 0⟩⟩⟩, ⟨#[]⟩⟩ : Ce)])).symm)] at hp52
    refine ⟨.inr ⟨(show Ld Try.prog w51 27 ⟨sb, 1, none⟩ (.slice a n c) from (Ld.row1 (P := Try.prog) (t := 27) (o := 1) (v := .slice a n c) hp52.get1 (by kernel_rfl))), (show Ld Try.prog w51 31 ⟨g3, 0, none⟩ (GTag.val t) from Ld.rowN (cs := [.int .i64 t.Count, .int .i64 t.Client]) hp52.get3 (by kernel_rfl)), trivial⟩, ?_⟩
    refine HOPS.one _ rfl {} [] [0, 1, 32, 33] [.pointer (some ⟨sb, 0, none⟩), .string key, .slice a49 (n + 1) c50, .pointer (some ⟨sb, 0, none⟩)] .nil (by kernel_rfl) ⟨(show Ld Try.prog w51 27 ⟨sb, 1, none⟩ (.slice a n c) from (Ld.row1 (P := Try.prog) (t := 27) (o := 1) (v := .slice a n c) hp52.get1 (by kernel_rfl))), (show Ld Try.prog w51 31 ⟨g3, 0, none⟩ (GTag.val t) from Ld.rowN (cs := [.int .i64 t.Count, .int .i64 t.Client]) hp52.get3 (by kernel_rfl)), trivial⟩ (fun b56 => ?_)
    refine HOPS.take 1 {} [] [0, 1, 32, 34] [.pointer (some ⟨sb, 0, none⟩), .string key, .slice a49 (n + 1) c50, .pointer (some ⟨sb, 1, none⟩)] (by kernel_rfl) ⟨(show Ld Try.prog w51 27 ⟨sb, 1, none⟩ (.slice a n c) from (Ld.row1 (P := Try.prog) (t := 27) (o := 1) (v := .slice a n c) hp52.get1 (by kernel_rfl))), (show Ld Try.prog w51 31 ⟨g3, 0, none⟩ (GTag.val t) from Ld.rowN (cs := [.int .i64 t.Count, .int .i64 t.Client]) hp52.get3 (by kernel_rfl)), trivial⟩ (fun w57 hS58 => QB.mk .nil (by kernel_rfl)) (fun b59 => ?_)
    refine HOPS.eff _ rfl (opStep.store1 hp52 rfl [.slice a49 (n + 1) c50] [.int .i64 ((dl : Nat) : Int), .slice a49 (n + 1) c50] (by kernel_rfl) (fun w60 hp61 => ?_))
    refine ⟨.inl rfl, ?_⟩
    refine HOPS.nil ?_
    refine thn_n ?_
    refine WP.seq ?_
    refine WP.region _ rfl (by kernel_rfl) ?_
    refine OPS.batch 2 {} [] [0, 1, 43, 44] [.pointer (some ⟨sb, 0, none⟩), .string key, .pointer (some ⟨sb, 0, none⟩), .string key] .nil (by kernel_rfl) (fun b62 => ?_)
    have hp65 := hp61.pull2
    have hp66 := hp65.pull2
    have hlq : (C ++ [(⟨⟨key, ⟨⟨t.Count, t.Client⟩, true, false, ⟨none, 0, 0⟩⟩⟩, ⟨#[]⟩⟩ : Ce)]).length ≤ 1048600 := by first | omega | (simp only [List.length_append, List.length_cons, List.length_nil, List.length_set]; omega)
    refine OPS.cons (opStep.call (some 45) [.pointer (some ⟨sb, 0, none⟩), .string key] (by kernel_rfl) (floD_c sb dl a49 (n + 1) c50 (C ++ [(⟨⟨key, ⟨⟨t.Count, t.Client⟩, true, false, ⟨none, 0, 0⟩⟩⟩, ⟨#[]⟩⟩ : Ce)]) _ (ShH.of hp66) (by first | assumption | omega) key hdl) ?_)
    rintro _ w67 ⟨rfl, hf69⟩
    refine ⟨_, rfl, ?_⟩
    have hp68 := hp66.step hf69
    refine OPS.cons (opStep.alloc hp68 [.int .i64 0, .int .i64 0] (by kernel_rfl) (fun g72 w70 hp71 => ?_))
    refine OPS.cons (opStep.store0 hp71 rfl [.int .i64 ((floD (C ++ [(⟨⟨key, ⟨⟨t.Count, t.Client⟩, true, false, ⟨none, 0, 0⟩⟩⟩, ⟨#[]⟩⟩ : Ce)]) key dl).Count), .int .i64 ((floD (C ++ [(⟨⟨key, ⟨⟨t.Count, t.Client⟩, true, false, ⟨none, 0, 0⟩⟩⟩, ⟨#[]⟩⟩ : Ce)]) key dl).Client)] [.int .i64 ((floD (C ++ [(⟨⟨key, ⟨⟨t.Count, t.Client⟩, true, false, ⟨none, 0, 0⟩⟩⟩, ⟨#[]⟩⟩ : Ce)]) key dl).Count), .int .i64 ((floD (C ++ [(⟨⟨key, ⟨⟨t.Count, t.Client⟩, true, false, ⟨none, 0, 0⟩⟩⟩, ⟨#[]⟩⟩ : Ce)]) key dl).Client)] (by kernel_rfl) (fun w73 hp74 => ?_))
    refine OPS.nil ?_
    refine thn_n ?_
    refine WP.seq ?_
    refine WP.pure {} [] [0, 1, 7, 8] [.pointer (some ⟨sb, 0, none⟩), .string key, .pointer (some ⟨g72, 0, none⟩), .slice none 0 0] .nil (by kernel_rfl) (fun b75 => ?_)
    refine thn_n ?_
    refine WP.seq ?_
    refine WP.seq ?_
    refine WP.pure {} [.slice a49 (n + 1) c50] [0, 1, 7, 8, 49, 50, 51] [.pointer (some ⟨sb, 0, none⟩), .string key, .pointer (some ⟨g72, 0, none⟩), .slice none 0 0, .slice a49 (n + 1) c50, .int .i64 ((n + 1 : Nat) : Int), .int .i64 0] (.cons (Ld.row1 (P := Try.prog) (t := 27) (o := 1) (v := .slice a49 (n + 1) c50) hp74.get1 (by kernel_rfl)) .nil) (by kernel_rfl) (fun b76 => ?_)
    refine thn_n ?_
    refine WP.block ?_
    have hp77 := (show Hp w0 Non (Res.own 66 6 (.slice none 0 0) 0 (List.flatMap cC ([] : List Ce)) :: Res.row g72 [.int .i64 ((floD (C ++ [(⟨⟨key, ⟨⟨t.Count, t.Client⟩, true, false, ⟨none, 0, 0⟩⟩⟩, ⟨#[]⟩⟩ : Ce)]) key dl).Count), .int .i64 ((floD (C ++ [(⟨⟨key, ⟨⟨t.Count, t.Client⟩, true, false, ⟨none, 0, 0⟩⟩⟩, ⟨#[]⟩⟩ : Ce)]) key dl).Client)] 31 :: Res.row sb [.int .i64 ((dl : Nat) : Int), .slice a49 (n + 1) c50] 29 :: Res.own 66 6 (.slice a49 (n + 1) c50) (n + 1) (List.flatMap cC (C ++ [(⟨⟨key, ⟨⟨t.Count, t.Client⟩, true, false, ⟨none, 0, 0⟩⟩⟩, ⟨#[]⟩⟩ : Ce)])) :: Res.row g46 [.string key, .int .i64 t.Count, .int .i64 t.Client, .bool true, .bool false, .slice none 0 0] 66 :: Res.row g3 [.int .i64 t.Count, .int .i64 t.Client] 31 :: Res.dat F D :: L) w73 from hp74.nilOwn 66 6)
    have hlc := own_flat (f := cC) (sz := 6) (fun _ => rfl) (by decide) hp77.get3
    refine WP.loop (fun mz_ e78 w79 => ∃ (i : Nat) (xs : List Ce) (ao : Option Addr) (no : Nat) (co : Nat), mz_ = (C ++ [(⟨⟨key, ⟨⟨t.Count, t.Client⟩, true, false, ⟨none, 0, 0⟩⟩⟩, ⟨#[]⟩⟩ : Ce)]).length - i ∧ (i ≤ (C ++ [(⟨⟨key, ⟨⟨t.Count, t.Client⟩, true, false, ⟨none, 0, 0⟩⟩⟩, ⟨#[]⟩⟩ : Ce)]).length ∧ xs.length ≤ i ∧ xs = leftC ((C ++ [(⟨⟨key, ⟨⟨t.Count, t.Client⟩, true, false, ⟨none, 0, 0⟩⟩⟩, ⟨#[]⟩⟩ : Ce)]).take i) key (floD (C ++ [(⟨⟨key, ⟨⟨t.Count, t.Client⟩, true, false, ⟨none, 0, 0⟩⟩⟩, ⟨#[]⟩⟩ : Ce)]) key dl)) ∧ List.map e78 [0, 1, 7, 8, 49, 50, 51] = [.pointer (some ⟨sb, 0, none⟩), .string key, .pointer (some ⟨g72, 0, none⟩), .slice ao no co, .slice a49 (n + 1) c50, .int .i64 ((n + 1 : Nat) : Int), .int .i64 (i : Int)] ∧ Hp w0 Non (Res.own 66 6 (.slice ao no co) no (List.flatMap cC xs) :: Res.row g72 [.int .i64 ((floD (C ++ [(⟨⟨key, ⟨⟨t.Count, t.Client⟩, true, false, ⟨none, 0, 0⟩⟩⟩, ⟨#[]⟩⟩ : Ce)]) key dl).Count), .int .i64 ((floD (C ++ [(⟨⟨key, ⟨⟨t.Count, t.Client⟩, true, false, ⟨none, 0, 0⟩⟩⟩, ⟨#[]⟩⟩ : Ce)]) key dl).Client)] 31 :: Res.row sb [.int .i64 ((dl : Nat) : Int), .slice a49 (n + 1) c50] 29 :: Res.own 66 6 (.slice a49 (n + 1) c50) (n + 1) (List.flatMap cC (C ++ [(⟨⟨key, ⟨⟨t.Count, t.Client⟩, true, false, ⟨none, 0, 0⟩⟩⟩, ⟨#[]⟩⟩ : Ce)])) :: Res.row g46 [.string key, .int .i64 t.Count, .int .i64 t.Client, .bool true, .bool false, .slice none 0 0] 66 :: Res.row g3 [.int .i64 t.Count, .int .i64 t.Client] 31 :: Res.dat F D :: L) w79) ((C ++ [(⟨⟨key, ⟨⟨t.Count, t.Client⟩, true, false, ⟨none, 0, 0⟩⟩⟩, ⟨#[]⟩⟩ : Ce)]).length - (0)) ⟨0, [], none, 0, 0, rfl, ⟨Nat.zero_le _, Nat.le_refl _, rfl⟩, by kernel_rfl, hp77⟩ ?_
    rintro _ e78 w79 ⟨i, xs, ao, no, co, rfl, hI81, hE82, hp80⟩
    obtain ⟨b83, rfl⟩ := toMk hE82
    clear hE82
    obtain ⟨pa, pb, pc⟩ := hI81
    have pe := own_flat (f := cC) (sz := 6) (fun _ => rfl) (by decide) hp80.get0
    refine WP.seq ?_
    refine WP.pure {} [] [0, 1, 7, 8, 49, 50, 51, 52] [.pointer (some ⟨sb, 0, none⟩), .string key, .pointer (some ⟨g72, 0, none⟩), .slice ao no co, .slice a49 (n + 1) c50, .int .i64 ((n + 1 : Nat) : Int), .int .i64 (i : Int), .bool (decide ((i : Int) < ((n + 1 : Nat) : Int)))] .nil (by kernel_rfl) (fun b84 => ?_)
    refine thn_n ?_
    refine WP.seq ?_
    refine WP.test (p := (i : Int) < ((n + 1 : Nat) : Int)) rfl Bp.dec (fun h85 => ?_) (fun h85 => ?_)
    · refine WP.skip ?_
      refine thn_n ?_
      refine WP.seq ?_
      refine WP.block ?_
      refine WP.seq ?_
      refine WP.region _ rfl (by kernel_rfl) ?_
      have := own_flat (sz := 6) (fun _ => rfl) (by decide) hp80.get3
      have hy89 : (C ++ [(⟨⟨key, ⟨⟨t.Count, t.Client⟩, true, false, ⟨none, 0, 0⟩⟩⟩, ⟨#[]⟩⟩ : Ce)])[i]? = some (C ++ [(⟨⟨key, ⟨⟨t.Count, t.Client⟩, true, false, ⟨none, 0, 0⟩⟩⟩, ⟨#[]⟩⟩ : Ce)])[i]! := get_bang (by first | (omega) | (simp only [List.length_append, List.length_cons, List.length_nil]; omega) | (simp only [List.length_take, List.length_append, List.length_cons, List.length_nil]; omega))
      refine OPS.batch 2 {} [Gsherdtop_cell.val ((C ++ [(⟨⟨key, ⟨⟨t.Count, t.Client⟩, true, false, ⟨none, 0, 0⟩⟩⟩, ⟨#[]⟩⟩ : Ce)])[i]!.c)] [0, 1, 7, 8, 49, 50, 51, 54] [.pointer (some ⟨sb, 0, none⟩), .string key, .pointer (some ⟨g72, 0, none⟩), .slice ao no co, .slice a49 (n + 1) c50, .int .i64 ((n + 1 : Nat) : Int), .int .i64 (i : Int), Gsherdtop_cell.val ((C ++ [(⟨⟨key, ⟨⟨t.Count, t.Client⟩, true, false, ⟨none, 0, 0⟩⟩⟩, ⟨#[]⟩⟩ : Ce)])[i]!.c)] (.cons (show InB ((i : Int)) (n + 1) from ⟨by omega, by omega⟩) (.cons ((SlR.own (hp80.get3)).some (by omega)) (.cons (Ld.add0 (Ld.elN (P := Try.prog) (t := 66) (SlR.own (hp80.get3)).rd 6 (fun _ => rfl) hy89 (o := 0) (cs := [.string ((C ++ [(⟨⟨key, ⟨⟨t.Count, t.Client⟩, true, false, ⟨none, 0, 0⟩⟩⟩, ⟨#[]⟩⟩ : Ce)])[i]!.c.key), .int .i64 ((C ++ [(⟨⟨key, ⟨⟨t.Count, t.Client⟩, true, false, ⟨none, 0, 0⟩⟩⟩, ⟨#[]⟩⟩ : Ce)])[i]!.c.e.Tag.Count), .int .i64 ((C ++ [(⟨⟨key, ⟨⟨t.Count, t.Client⟩, true, false, ⟨none, 0, 0⟩⟩⟩, ⟨#[]⟩⟩ : Ce)])[i]!.c.e.Tag.Client), .bool ((C ++ [(⟨⟨key, ⟨⟨t.Count, t.Client⟩, true, false, ⟨none, 0, 0⟩⟩⟩, ⟨#[]⟩⟩ : Ce)])[i]!.c.e.Fin), .bool ((C ++ [(⟨⟨key, ⟨⟨t.Count, t.Client⟩, true, false, ⟨none, 0, 0⟩⟩⟩, ⟨#[]⟩⟩ : Ce)])[i]!.c.e.Has), .slice ((C ++ [(⟨⟨key, ⟨⟨t.Count, t.Client⟩, true, false, ⟨none, 0, 0⟩⟩⟩, ⟨#[]⟩⟩ : Ce)])[i]!.c.e.Data.a) ((C ++ [(⟨⟨key, ⟨⟨t.Count, t.Client⟩, true, false, ⟨none, 0, 0⟩⟩⟩, ⟨#[]⟩⟩ : Ce)])[i]!.c.e.Data.n) ((C ++ [(⟨⟨key, ⟨⟨t.Count, t.Client⟩, true, false, ⟨none, 0, 0⟩⟩⟩, ⟨#[]⟩⟩ : Ce)])[i]!.c.e.Data.c)]) (by kernel_rfl))) .nil))) (by kernel_rfl) (fun b90 => ?_)
      refine OPS.cons (opStep.alloc hp80 [.string ByteArray.empty, .int .i64 0, .int .i64 0, .bool false, .bool false, .slice none 0 0] (by kernel_rfl) (fun g93 w91 hp92 => ?_))
      refine OPS.cons (opStep.store0 hp92 rfl [.string ((C ++ [(⟨⟨key, ⟨⟨t.Count, t.Client⟩, true, false, ⟨none, 0, 0⟩⟩⟩, ⟨#[]⟩⟩ : Ce)])[i]!.c.key), .int .i64 ((C ++ [(⟨⟨key, ⟨⟨t.Count, t.Client⟩, true, false, ⟨none, 0, 0⟩⟩⟩, ⟨#[]⟩⟩ : Ce)])[i]!.c.e.Tag.Count), .int .i64 ((C ++ [(⟨⟨key, ⟨⟨t.Count, t.Client⟩, true, false, ⟨none, 0, 0⟩⟩⟩, ⟨#[]⟩⟩ : Ce)])[i]!.c.e.Tag.Client), .bool ((C ++ [(⟨⟨key, ⟨⟨t.Count, t.Client⟩, true, false, ⟨none, 0, 0⟩⟩⟩, ⟨#[]⟩⟩ : Ce)])[i]!.c.e.Fin), .bool ((C ++ [(⟨⟨key, ⟨⟨t.Count, t.Client⟩, true, false, ⟨none, 0, 0⟩⟩⟩, ⟨#[]⟩⟩ : Ce)])[i]!.c.e.Has), .slice ((C ++ [(⟨⟨key, ⟨⟨t.Count, t.Client⟩, true, false, ⟨none, 0, 0⟩⟩⟩, ⟨#[]⟩⟩ : Ce)])[i]!.c.e.Data.a) ((C ++ [(⟨⟨key, ⟨⟨t.Count, t.Client⟩, true, false, ⟨none, 0, 0⟩⟩⟩, ⟨#[]⟩⟩ : Ce)])[i]!.c.e.Data.n) ((C ++ [(⟨⟨key, ⟨⟨t.Count, t.Client⟩, true, false, ⟨none, 0, 0⟩⟩⟩, ⟨#[]⟩⟩ : Ce)])[i]!.c.e.Data.c)] [.string ((C ++ [(⟨⟨key, ⟨⟨t.Count, t.Client⟩, true, false, ⟨none, 0, 0⟩⟩⟩, ⟨#[]⟩⟩ : Ce)])[i]!.c.key), .int .i64 ((C ++ [(⟨⟨key, ⟨⟨t.Count, t.Client⟩, true, false, ⟨none, 0, 0⟩⟩⟩, ⟨#[]⟩⟩ : Ce)])[i]!.c.e.Tag.Count), .int .i64 ((C ++ [(⟨⟨key, ⟨⟨t.Count, t.Client⟩, true, false, ⟨none, 0, 0⟩⟩⟩, ⟨#[]⟩⟩ : Ce)])[i]!.c.e.Tag.Client), .bool ((C ++ [(⟨⟨key, ⟨⟨t.Count, t.Client⟩, true, false, ⟨none, 0, 0⟩⟩⟩, ⟨#[]⟩⟩ : Ce)])[i]!.c.e.Fin), .bool ((C ++ [(⟨⟨key, ⟨⟨t.Count, t.Client⟩, true, false, ⟨none, 0, 0⟩⟩⟩, ⟨#[]⟩⟩ : Ce)])[i]!.c.e.Has), .slice ((C ++ [(⟨⟨key, ⟨⟨t.Count, t.Client⟩, true, false, ⟨none, 0, 0⟩⟩⟩, ⟨#[]⟩⟩ : Ce)])[i]!.c.e.Data.a) ((C ++ [(⟨⟨key, ⟨⟨t.Count, t.Client⟩, true, false, ⟨none, 0, 0⟩⟩⟩, ⟨#[]⟩⟩ : Ce)])[i]!.c.e.Data.n) ((C ++ [(⟨⟨key, ⟨⟨t.Count, t.Client⟩, true, false, ⟨none, 0, 0⟩⟩⟩, ⟨#[]⟩⟩ : Ce)])[i]!.c.e.Data.c)] (by kernel_rfl) (fun w94 hp95 => ?_))
      refine OPS.nil ?_
      refine thn_n ?_
      refine WP.cut (fun e113 w114 => ∃ (x111 : Bool), (True) ∧ Bp x111 (((¬ (((C ++ [(⟨⟨key, ⟨⟨t.Count, t.Client⟩, true, false, ⟨none, 0, 0⟩⟩⟩, ⟨#[]⟩⟩ : Ce)])[i]!.c.key) = key))) ∨ ((((C ++ [(⟨⟨key, ⟨⟨t.Count, t.Client⟩, true, false, ⟨none, 0, 0⟩⟩⟩, ⟨#[]⟩⟩ : Ce)])[i]!.c.key) = key) ∧ (¬ (tlt (C ++ [(⟨⟨key, ⟨⟨t.Count, t.Client⟩, true, false, ⟨none, 0, 0⟩⟩⟩, ⟨#[]⟩⟩ : Ce)])[i]!.c.e.Tag (floD (C ++ [(⟨⟨key, ⟨⟨t.Count, t.Client⟩, true, false, ⟨none, 0, 0⟩⟩⟩, ⟨#[]⟩⟩ : Ce)]) key dl))))) ∧ List.map e113 [0, 1, 7, 8, 10, 49, 50, 51, 66] = [.pointer (some ⟨sb, 0, none⟩), .string key, .pointer (some ⟨g72, 0, none⟩), .slice ao no co, .pointer (some ⟨g93, 0, none⟩), .slice a49 (n + 1) c50, .int .i64 ((n + 1 : Nat) : Int), .int .i64 (i : Int), .bool x111] ∧ Hp w0 Non (Res.row g93 [.string ((C ++ [(⟨⟨key, ⟨⟨t.Count, t.Client⟩, true, false, ⟨none, 0, 0⟩⟩⟩, ⟨#[]⟩⟩ : Ce)])[i]!.c.key), .int .i64 ((C ++ [(⟨⟨key, ⟨⟨t.Count, t.Client⟩, true, false, ⟨none, 0, 0⟩⟩⟩, ⟨#[]⟩⟩ : Ce)])[i]!.c.e.Tag.Count), .int .i64 ((C ++ [(⟨⟨key, ⟨⟨t.Count, t.Client⟩, true, false, ⟨none, 0, 0⟩⟩⟩, ⟨#[]⟩⟩ : Ce)])[i]!.c.e.Tag.Client), .bool ((C ++ [(⟨⟨key, ⟨⟨t.Count, t.Client⟩, true, false, ⟨none, 0, 0⟩⟩⟩, ⟨#[]⟩⟩ : Ce)])[i]!.c.e.Fin), .bool ((C ++ [(⟨⟨key, ⟨⟨t.Count, t.Client⟩, true, false, ⟨none, 0, 0⟩⟩⟩, ⟨#[]⟩⟩ : Ce)])[i]!.c.e.Has), .slice ((C ++ [(⟨⟨key, ⟨⟨t.Count, t.Client⟩, true, false, ⟨none, 0, 0⟩⟩⟩, ⟨#[]⟩⟩ : Ce)])[i]!.c.e.Data.a) ((C ++ [(⟨⟨key, ⟨⟨t.Count, t.Client⟩, true, false, ⟨none, 0, 0⟩⟩⟩, ⟨#[]⟩⟩ : Ce)])[i]!.c.e.Data.n) ((C ++ [(⟨⟨key, ⟨⟨t.Count, t.Client⟩, true, false, ⟨none, 0, 0⟩⟩⟩, ⟨#[]⟩⟩ : Ce)])[i]!.c.e.Data.c)] 66 :: Res.own 66 6 (.slice ao no co) no (List.flatMap cC xs) :: Res.row g72 [.int .i64 ((floD (C ++ [(⟨⟨key, ⟨⟨t.Count, t.Client⟩, true, false, ⟨none, 0, 0⟩⟩⟩, ⟨#[]⟩⟩ : Ce)]) key dl).Count), .int .i64 ((floD (C ++ [(⟨⟨key, ⟨⟨t.Count, t.Client⟩, true, false, ⟨none, 0, 0⟩⟩⟩, ⟨#[]⟩⟩ : Ce)]) key dl).Client)] 31 :: Res.row sb [.int .i64 ((dl : Nat) : Int), .slice a49 (n + 1) c50] 29 :: Res.own 66 6 (.slice a49 (n + 1) c50) (n + 1) (List.flatMap cC (C ++ [(⟨⟨key, ⟨⟨t.Count, t.Client⟩, true, false, ⟨none, 0, 0⟩⟩⟩, ⟨#[]⟩⟩ : Ce)])) :: Res.row g46 [.string key, .int .i64 t.Count, .int .i64 t.Client, .bool true, .bool false, .slice none 0 0] 66 :: Res.row g3 [.int .i64 t.Count, .int .i64 t.Client] 31 :: Res.dat F D :: L) w114) ?_ ?_
      · refine WP.region _ rfl (by kernel_rfl) ?_
        refine OPS.batch 5 {} [.string ((C ++ [(⟨⟨key, ⟨⟨t.Count, t.Client⟩, true, false, ⟨none, 0, 0⟩⟩⟩, ⟨#[]⟩⟩ : Ce)])[i]!.c.key)] [0, 1, 7, 8, 10, 49, 50, 51, 59] [.pointer (some ⟨sb, 0, none⟩), .string key, .pointer (some ⟨g72, 0, none⟩), .slice ao no co, .pointer (some ⟨g93, 0, none⟩), .slice a49 (n + 1) c50, .int .i64 ((n + 1 : Nat) : Int), .int .i64 (i : Int), .bool (decide (¬ (((C ++ [(⟨⟨key, ⟨⟨t.Count, t.Client⟩, true, false, ⟨none, 0, 0⟩⟩⟩, ⟨#[]⟩⟩ : Ce)])[i]!.c.key) = key)))] (.cons (Ld.row1 (P := Try.prog) (t := 9) (o := 0) (v := .string ((C ++ [(⟨⟨key, ⟨⟨t.Count, t.Client⟩, true, false, ⟨none, 0, 0⟩⟩⟩, ⟨#[]⟩⟩ : Ce)])[i]!.c.key)) hp95.get0 (by kernel_rfl)) .nil) (by kernel_rfl) (fun b97 => ?_)
        by_cases h98 : ((C ++ [(⟨⟨key, ⟨⟨t.Count, t.Client⟩, true, false, ⟨none, 0, 0⟩⟩⟩, ⟨#[]⟩⟩ : Ce)])[i]!.c.key) = key
        · refine OPS.batch 0 {} [] [0, 1, 7, 8, 10, 49, 50, 51, 59] [.pointer (some ⟨sb, 0, none⟩), .string key, .pointer (some ⟨g72, 0, none⟩), .slice ao no co, .pointer (some ⟨g93, 0, none⟩), .slice a49 (n + 1) c50, .int .i64 ((n + 1 : Nat) : Int), .int .i64 (i : Int), .bool (decide (¬ (((C ++ [(⟨⟨key, ⟨⟨t.Count, t.Client⟩, true, false, ⟨none, 0, 0⟩⟩⟩, ⟨#[]⟩⟩ : Ce)])[i]!.c.key) = key)))] .nil (by kernel_rfl) (fun b101 => ?_)
          refine OPS.re [.pointer (some ⟨sb, 0, none⟩), .string key, .pointer (some ⟨g72, 0, none⟩), .slice ao no co, .pointer (some ⟨g93, 0, none⟩), .slice a49 (n + 1) c50, .int .i64 ((n + 1 : Nat) : Int), .int .i64 (i : Int), .bool false] (by rw [show (decide (¬ (((C ++ [(⟨⟨key, ⟨⟨t.Count, t.Client⟩, true, false, ⟨none, 0, 0⟩⟩⟩, ⟨#[]⟩⟩ : Ce)])[i]!.c.key) = key))) = false from Bp.dec.ff (fun k => k h98)]) ?_
          refine OPS.batch 4 {} [.agg #[.int .i64 ((C ++ [(⟨⟨key, ⟨⟨t.Count, t.Client⟩, true, false, ⟨none, 0, 0⟩⟩⟩, ⟨#[]⟩⟩ : Ce)])[i]!.c.e.Tag.Count), .int .i64 ((C ++ [(⟨⟨key, ⟨⟨t.Count, t.Client⟩, true, false, ⟨none, 0, 0⟩⟩⟩, ⟨#[]⟩⟩ : Ce)])[i]!.c.e.Tag.Client)], GTag.val (floD (C ++ [(⟨⟨key, ⟨⟨t.Count, t.Client⟩, true, false, ⟨none, 0, 0⟩⟩⟩, ⟨#[]⟩⟩ : Ce)]) key dl)] [0, 1, 7, 8, 10, 49, 50, 51, 59, 62, 63] [.pointer (some ⟨sb, 0, none⟩), .string key, .pointer (some ⟨g72, 0, none⟩), .slice ao no co, .pointer (some ⟨g93, 0, none⟩), .slice a49 (n + 1) c50, .int .i64 ((n + 1 : Nat) : Int), .int .i64 (i : Int), .bool false, .agg #[.int .i64 ((C ++ [(⟨⟨key, ⟨⟨t.Count, t.Client⟩, true, false, ⟨none, 0, 0⟩⟩⟩, ⟨#[]⟩⟩ : Ce)])[i]!.c.e.Tag.Count), .int .i64 ((C ++ [(⟨⟨key, ⟨⟨t.Count, t.Client⟩, true, false, ⟨none, 0, 0⟩⟩⟩, ⟨#[]⟩⟩ : Ce)])[i]!.c.e.Tag.Client)], GTag.val (floD (C ++ [(⟨⟨key, ⟨⟨t.Count, t.Client⟩, true, false, ⟨none, 0, 0⟩⟩⟩, ⟨#[]⟩⟩ : Ce)]) key dl)] (.cons (show Ld Try.prog w94 31 ⟨g93, 1, none⟩ (.agg #[.int .i64 ((C ++ [(⟨⟨key, ⟨⟨t.Count, t.Client⟩, true, false, ⟨none, 0, 0⟩⟩⟩, ⟨#[]⟩⟩ : Ce)])[i]!.c.e.Tag.Count), .int .i64 ((C ++ [(⟨⟨key, ⟨⟨t.Count, t.Client⟩, true, false, ⟨none, 0, 0⟩⟩⟩, ⟨#[]⟩⟩ : Ce)])[i]!.c.e.Tag.Client)]) from Ld.rowN (cs := [.int .i64 ((C ++ [(⟨⟨key, ⟨⟨t.Count, t.Client⟩, true, false, ⟨none, 0, 0⟩⟩⟩, ⟨#[]⟩⟩ : Ce)])[i]!.c.e.Tag.Count), .int .i64 ((C ++ [(⟨⟨key, ⟨⟨t.Count, t.Client⟩, true, false, ⟨none, 0, 0⟩⟩⟩, ⟨#[]⟩⟩ : Ce)])[i]!.c.e.Tag.Client)]) hp95.get0 (by kernel_rfl)) (.cons (show Ld Try.prog w94 31 ⟨g72, 0, none⟩ (GTag.val (floD (C ++ [(⟨⟨key, ⟨⟨t.Count, t.Client⟩, true, false, ⟨none, 0, 0⟩⟩⟩, ⟨#[]⟩⟩ : Ce)]) key dl)) from Ld.rowN (cs := [.int .i64 ((floD (C ++ [(⟨⟨key, ⟨⟨t.Count, t.Client⟩, true, false, ⟨none, 0, 0⟩⟩⟩, ⟨#[]⟩⟩ : Ce)]) key dl).Count), .int .i64 ((floD (C ++ [(⟨⟨key, ⟨⟨t.Count, t.Client⟩, true, false, ⟨none, 0, 0⟩⟩⟩, ⟨#[]⟩⟩ : Ce)]) key dl).Client)]) hp95.get2 (by kernel_rfl)) .nil)) (by kernel_rfl) (fun b102 => ?_)
          refine OPS.want (by kernel_rfl) ?_
          refine OPS.cons (opStep.call (some 64) [.agg #[.int .i64 ((C ++ [(⟨⟨key, ⟨⟨t.Count, t.Client⟩, true, false, ⟨none, 0, 0⟩⟩⟩, ⟨#[]⟩⟩ : Ce)])[i]!.c.e.Tag.Count), .int .i64 ((C ++ [(⟨⟨key, ⟨⟨t.Count, t.Client⟩, true, false, ⟨none, 0, 0⟩⟩⟩, ⟨#[]⟩⟩ : Ce)])[i]!.c.e.Tag.Client)], GTag.val (floD (C ++ [(⟨⟨key, ⟨⟨t.Count, t.Client⟩, true, false, ⟨none, 0, 0⟩⟩⟩, ⟨#[]⟩⟩ : Ce)]) key dl)] (by kernel_rfl) (before_c (C ++ [(⟨⟨key, ⟨⟨t.Count, t.Client⟩, true, false, ⟨none, 0, 0⟩⟩⟩, ⟨#[]⟩⟩ : Ce)])[i]!.c.e.Tag (floD (C ++ [(⟨⟨key, ⟨⟨t.Count, t.Client⟩, true, false, ⟨none, 0, 0⟩⟩⟩, ⟨#[]⟩⟩ : Ce)]) key dl) _) ?_)
          rintro _ w105 ⟨b108, rfl, hb109, hf106⟩
          refine ⟨_, rfl, ?_⟩
          have hp107 := hp95.step hf106
          refine OPS.batch 2 { wraps := [66] } [] [0, 1, 7, 8, 10, 49, 50, 51, 66] [.pointer (some ⟨sb, 0, none⟩), .string key, .pointer (some ⟨g72, 0, none⟩), .slice ao no co, .pointer (some ⟨g93, 0, none⟩), .slice a49 (n + 1) c50, .int .i64 ((n + 1 : Nat) : Int), .int .i64 (i : Int), .bool (!b108)] .nil (by kernel_rfl) (fun b110 => ?_)
          refine OPS.nil ?_
          refine thn_n ?_
          exact ⟨!b108, trivial, Bp.of (Bp.not hb109) (by first | (simp only [h98, iff_false, false_iff, iff_true, true_iff, Classical.not_not, and_true, true_and, and_false, false_and, or_true, true_or, or_false, false_or, not_true_eq_false, not_false_eq_true, and_self, or_self, iff_self]; done) | (simp [h98]; done) | grind | (simp_all; done)), by kernel_rfl, hp107⟩
        · refine OPS.batch 0 {} [] [0, 1, 7, 8, 10, 49, 50, 51, 59] [.pointer (some ⟨sb, 0, none⟩), .string key, .pointer (some ⟨g72, 0, none⟩), .slice ao no co, .pointer (some ⟨g93, 0, none⟩), .slice a49 (n + 1) c50, .int .i64 ((n + 1 : Nat) : Int), .int .i64 (i : Int), .bool (decide (¬ (((C ++ [(⟨⟨key, ⟨⟨t.Count, t.Client⟩, true, false, ⟨none, 0, 0⟩⟩⟩, ⟨#[]⟩⟩ : Ce)])[i]!.c.key) = key)))] .nil (by kernel_rfl) (fun b99 => ?_)
          refine OPS.re [.pointer (some ⟨sb, 0, none⟩), .string key, .pointer (some ⟨g72, 0, none⟩), .slice ao no co, .pointer (some ⟨g93, 0, none⟩), .slice a49 (n + 1) c50, .int .i64 ((n + 1 : Nat) : Int), .int .i64 (i : Int), .bool true] (by rw [show (decide (¬ (((C ++ [(⟨⟨key, ⟨⟨t.Count, t.Client⟩, true, false, ⟨none, 0, 0⟩⟩⟩, ⟨#[]⟩⟩ : Ce)])[i]!.c.key) = key))) = true from Bp.dec.tt h98]) ?_
          refine OPS.batch 7 { wraps := [66] } [] [0, 1, 7, 8, 10, 49, 50, 51, 66] [.pointer (some ⟨sb, 0, none⟩), .string key, .pointer (some ⟨g72, 0, none⟩), .slice ao no co, .pointer (some ⟨g93, 0, none⟩), .slice a49 (n + 1) c50, .int .i64 ((n + 1 : Nat) : Int), .int .i64 (i : Int), .bool true] .nil (by kernel_rfl) (fun b100 => ?_)
          refine OPS.nil ?_
          refine thn_n ?_
          exact ⟨true, trivial, Bp.of Bp.t (by first | (simp only [h98, iff_false, false_iff, iff_true, true_iff, Classical.not_not, and_true, true_and, and_false, false_and, or_true, true_or, or_false, false_or, not_true_eq_false, not_false_eq_true, and_self, or_self, iff_self]; done) | (simp [h98]; done) | grind | (simp_all; done)), by kernel_rfl, hp95⟩
      rintro e113 w114 ⟨x111, hd116, hb112, hE117, hp115⟩
      obtain ⟨b118, rfl⟩ := toMk hE117
      clear hE117
      clear hd116
      refine WP.test (p := ((¬ (((C ++ [(⟨⟨key, ⟨⟨t.Count, t.Client⟩, true, false, ⟨none, 0, 0⟩⟩⟩, ⟨#[]⟩⟩ : Ce)])[i]!.c.key) = key))) ∨ ((((C ++ [(⟨⟨key, ⟨⟨t.Count, t.Client⟩, true, false, ⟨none, 0, 0⟩⟩⟩, ⟨#[]⟩⟩ : Ce)])[i]!.c.key) = key) ∧ (¬ (tlt (C ++ [(⟨⟨key, ⟨⟨t.Count, t.Client⟩, true, false, ⟨none, 0, 0⟩⟩⟩, ⟨#[]⟩⟩ : Ce)])[i]!.c.e.Tag (floD (C ++ [(⟨⟨key, ⟨⟨t.Count, t.Client⟩, true, false, ⟨none, 0, 0⟩⟩⟩, ⟨#[]⟩⟩ : Ce)]) key dl))))) rfl hb112 (fun h119 => ?_) (fun h119 => ?_)
      · refine WP.region _ rfl (by kernel_rfl) ?_
        refine OPS.batch 2 {} [Gsherdtop_cell.val ((C ++ [(⟨⟨key, ⟨⟨t.Count, t.Client⟩, true, false, ⟨none, 0, 0⟩⟩⟩, ⟨#[]⟩⟩ : Ce)])[i]!.c)] [0, 1, 7, 49, 50, 51, 67, 68] [.pointer (some ⟨sb, 0, none⟩), .string key, .pointer (some ⟨g72, 0, none⟩), .slice a49 (n + 1) c50, .int .i64 ((n + 1 : Nat) : Int), .int .i64 (i : Int), .slice ao no co, Gsherdtop_cell.val ((C ++ [(⟨⟨key, ⟨⟨t.Count, t.Client⟩, true, false, ⟨none, 0, 0⟩⟩⟩, ⟨#[]⟩⟩ : Ce)])[i]!.c)] (.cons (show Ld Try.prog w114 66 ⟨g93, 0, none⟩ (Gsherdtop_cell.val ((C ++ [(⟨⟨key, ⟨⟨t.Count, t.Client⟩, true, false, ⟨none, 0, 0⟩⟩⟩, ⟨#[]⟩⟩ : Ce)])[i]!.c)) from Ld.rowN (cs := [.string ((C ++ [(⟨⟨key, ⟨⟨t.Count, t.Client⟩, true, false, ⟨none, 0, 0⟩⟩⟩, ⟨#[]⟩⟩ : Ce)])[i]!.c.key), .int .i64 ((C ++ [(⟨⟨key, ⟨⟨t.Count, t.Client⟩, true, false, ⟨none, 0, 0⟩⟩⟩, ⟨#[]⟩⟩ : Ce)])[i]!.c.e.Tag.Count), .int .i64 ((C ++ [(⟨⟨key, ⟨⟨t.Count, t.Client⟩, true, false, ⟨none, 0, 0⟩⟩⟩, ⟨#[]⟩⟩ : Ce)])[i]!.c.e.Tag.Client), .bool ((C ++ [(⟨⟨key, ⟨⟨t.Count, t.Client⟩, true, false, ⟨none, 0, 0⟩⟩⟩, ⟨#[]⟩⟩ : Ce)])[i]!.c.e.Fin), .bool ((C ++ [(⟨⟨key, ⟨⟨t.Count, t.Client⟩, true, false, ⟨none, 0, 0⟩⟩⟩, ⟨#[]⟩⟩ : Ce)])[i]!.c.e.Has), .slice ((C ++ [(⟨⟨key, ⟨⟨t.Count, t.Client⟩, true, false, ⟨none, 0, 0⟩⟩⟩, ⟨#[]⟩⟩ : Ce)])[i]!.c.e.Data.a) ((C ++ [(⟨⟨key, ⟨⟨t.Count, t.Client⟩, true, false, ⟨none, 0, 0⟩⟩⟩, ⟨#[]⟩⟩ : Ce)])[i]!.c.e.Data.n) ((C ++ [(⟨⟨key, ⟨⟨t.Count, t.Client⟩, true, false, ⟨none, 0, 0⟩⟩⟩, ⟨#[]⟩⟩ : Ce)])[i]!.c.e.Data.c)]) hp115.get0 (by kernel_rfl)) .nil) (by kernel_rfl) (fun b120 => ?_)
        refine OPS.cons (opStep.buildSlice (E := 66) hp115 [.string ((C ++ [(⟨⟨key, ⟨⟨t.Count, t.Client⟩, true, false, ⟨none, 0, 0⟩⟩⟩, ⟨#[]⟩⟩ : Ce)])[i]!.c.key), .int .i64 ((C ++ [(⟨⟨key, ⟨⟨t.Count, t.Client⟩, true, false, ⟨none, 0, 0⟩⟩⟩, ⟨#[]⟩⟩ : Ce)])[i]!.c.e.Tag.Count), .int .i64 ((C ++ [(⟨⟨key, ⟨⟨t.Count, t.Client⟩, true, false, ⟨none, 0, 0⟩⟩⟩, ⟨#[]⟩⟩ : Ce)])[i]!.c.e.Tag.Client), .bool ((C ++ [(⟨⟨key, ⟨⟨t.Count, t.Client⟩, true, false, ⟨none, 0, 0⟩⟩⟩, ⟨#[]⟩⟩ : Ce)])[i]!.c.e.Fin), .bool ((C ++ [(⟨⟨key, ⟨⟨t.Count, t.Client⟩, true, false, ⟨none, 0, 0⟩⟩⟩, ⟨#[]⟩⟩ : Ce)])[i]!.c.e.Has), .slice ((C ++ [(⟨⟨key, ⟨⟨t.Count, t.Client⟩, true, false, ⟨none, 0, 0⟩⟩⟩, ⟨#[]⟩⟩ : Ce)])[i]!.c.e.Data.a) ((C ++ [(⟨⟨key, ⟨⟨t.Count, t.Client⟩, true, false, ⟨none, 0, 0⟩⟩⟩, ⟨#[]⟩⟩ : Ce)])[i]!.c.e.Data.n) ((C ++ [(⟨⟨key, ⟨⟨t.Count, t.Client⟩, true, false, ⟨none, 0, 0⟩⟩⟩, ⟨#[]⟩⟩ : Ce)])[i]!.c.e.Data.c)] (by kernel_rfl) (fun g123 w121 hp122 => ?_))
        have hrd131 := (SlR.row (n := 1) hp122.get0 rfl).rd
        refine OPS.cons (opStep.append2 _ hp122 64 (by kernel_rfl) rfl rfl rfl hrd131 (List.all_eq_true.1 (by kernel_rfl)) (by decide) (by omega) (by omega) (fun a126 c127 w128 hp129 hn130 => ?_))
        rw [(show List.flatMap cC xs ++ [.string ((C ++ [(⟨⟨key, ⟨⟨t.Count, t.Client⟩, true, false, ⟨none, 0, 0⟩⟩⟩, ⟨#[]⟩⟩ : Ce)])[i]!.c.key), .int .i64 ((C ++ [(⟨⟨key, ⟨⟨t.Count, t.Client⟩, true, false, ⟨none, 0, 0⟩⟩⟩, ⟨#[]⟩⟩ : Ce)])[i]!.c.e.Tag.Count), .int .i64 ((C ++ [(⟨⟨key, ⟨⟨t.Count, t.Client⟩, true, false, ⟨none, 0, 0⟩⟩⟩, ⟨#[]⟩⟩ : Ce)])[i]!.c.e.Tag.Client), .bool ((C ++ [(⟨⟨key, ⟨⟨t.Count, t.Client⟩, true, false, ⟨none, 0, 0⟩⟩⟩, ⟨#[]⟩⟩ : Ce)])[i]!.c.e.Fin), .bool ((C ++ [(⟨⟨key, ⟨⟨t.Count, t.Client⟩, true, false, ⟨none, 0, 0⟩⟩⟩, ⟨#[]⟩⟩ : Ce)])[i]!.c.e.Has), .slice ((C ++ [(⟨⟨key, ⟨⟨t.Count, t.Client⟩, true, false, ⟨none, 0, 0⟩⟩⟩, ⟨#[]⟩⟩ : Ce)])[i]!.c.e.Data.a) ((C ++ [(⟨⟨key, ⟨⟨t.Count, t.Client⟩, true, false, ⟨none, 0, 0⟩⟩⟩, ⟨#[]⟩⟩ : Ce)])[i]!.c.e.Data.n) ((C ++ [(⟨⟨key, ⟨⟨t.Count, t.Client⟩, true, false, ⟨none, 0, 0⟩⟩⟩, ⟨#[]⟩⟩ : Ce)])[i]!.c.e.Data.c)] = List.flatMap cC (xs ++ [(⟨⟨(C ++ [(⟨⟨key, ⟨⟨t.Count, t.Client⟩, true, false, ⟨none, 0, 0⟩⟩⟩, ⟨#[]⟩⟩ : Ce)])[i]!.c.key, ⟨⟨(C ++ [(⟨⟨key, ⟨⟨t.Count, t.Client⟩, true, false, ⟨none, 0, 0⟩⟩⟩, ⟨#[]⟩⟩ : Ce)])[i]!.c.e.Tag.Count, (C ++ [(⟨⟨key, ⟨⟨t.Count, t.Client⟩, true, false, ⟨none, 0, 0⟩⟩⟩, ⟨#[]⟩⟩ : Ce)])[i]!.c.e.Tag.Client⟩, (C ++ [(⟨⟨key, ⟨⟨t.Count, t.Client⟩, true, false, ⟨none, 0, 0⟩⟩⟩, ⟨#[]⟩⟩ : Ce)])[i]!.c.e.Fin, (C ++ [(⟨⟨key, ⟨⟨t.Count, t.Client⟩, true, false, ⟨none, 0, 0⟩⟩⟩, ⟨#[]⟩⟩ : Ce)])[i]!.c.e.Has, ⟨(C ++ [(⟨⟨key, ⟨⟨t.Count, t.Client⟩, true, false, ⟨none, 0, 0⟩⟩⟩, ⟨#[]⟩⟩ : Ce)])[i]!.c.e.Data.a, (C ++ [(⟨⟨key, ⟨⟨t.Count, t.Client⟩, true, false, ⟨none, 0, 0⟩⟩⟩, ⟨#[]⟩⟩ : Ce)])[i]!.c.e.Data.n, (C ++ [(⟨⟨key, ⟨⟨t.Count, t.Client⟩, true, false, ⟨none, 0, 0⟩⟩⟩, ⟨#[]⟩⟩ : Ce)])[i]!.c.e.Data.c⟩⟩⟩, (C ++ [(⟨⟨key, ⟨⟨t.Count, t.Client⟩, true, false, ⟨none, 0, 0⟩⟩⟩, ⟨#[]⟩⟩ : Ce)])[i]!.d⟩ : Ce)]) from (List.flatMap_append (xs := xs) (ys := [(⟨⟨(C ++ [(⟨⟨key, ⟨⟨t.Count, t.Client⟩, true, false, ⟨none, 0, 0⟩⟩⟩, ⟨#[]⟩⟩ : Ce)])[i]!.c.key, ⟨⟨(C ++ [(⟨⟨key, ⟨⟨t.Count, t.Client⟩, true, false, ⟨none, 0, 0⟩⟩⟩, ⟨#[]⟩⟩ : Ce)])[i]!.c.e.Tag.Count, (C ++ [(⟨⟨key, ⟨⟨t.Count, t.Client⟩, true, false, ⟨none, 0, 0⟩⟩⟩, ⟨#[]⟩⟩ : Ce)])[i]!.c.e.Tag.Client⟩, (C ++ [(⟨⟨key, ⟨⟨t.Count, t.Client⟩, true, false, ⟨none, 0, 0⟩⟩⟩, ⟨#[]⟩⟩ : Ce)])[i]!.c.e.Fin, (C ++ [(⟨⟨key, ⟨⟨t.Count, t.Client⟩, true, false, ⟨none, 0, 0⟩⟩⟩, ⟨#[]⟩⟩ : Ce)])[i]!.c.e.Has, ⟨(C ++ [(⟨⟨key, ⟨⟨t.Count, t.Client⟩, true, false, ⟨none, 0, 0⟩⟩⟩, ⟨#[]⟩⟩ : Ce)])[i]!.c.e.Data.a, (C ++ [(⟨⟨key, ⟨⟨t.Count, t.Client⟩, true, false, ⟨none, 0, 0⟩⟩⟩, ⟨#[]⟩⟩ : Ce)])[i]!.c.e.Data.n, (C ++ [(⟨⟨key, ⟨⟨t.Count, t.Client⟩, true, false, ⟨none, 0, 0⟩⟩⟩, ⟨#[]⟩⟩ : Ce)])[i]!.c.e.Data.c⟩⟩⟩, (C ++ [(⟨⟨key, ⟨⟨t.Count, t.Client⟩, true, false, ⟨none, 0, 0⟩⟩⟩, ⟨#[]⟩⟩ : Ce)])[i]!.d⟩ : Ce)])).symm)] at hp129
        refine OPS.batch 1 {} [] [0, 1, 7, 8, 49, 50, 51] [.pointer (some ⟨sb, 0, none⟩), .string key, .pointer (some ⟨g72, 0, none⟩), .slice a126 (no + 1) c127, .slice a49 (n + 1) c50, .int .i64 ((n + 1 : Nat) : Int), .int .i64 (i : Int)] .nil (by kernel_rfl) (fun b132 => ?_)
        refine OPS.nil ?_
        refine blk_n ?_
        refine thn_n ?_
        refine WP.pure {} [] [0, 1, 7, 8, 49, 50, 51] [.pointer (some ⟨sb, 0, none⟩), .string key, .pointer (some ⟨g72, 0, none⟩), .slice a126 (no + 1) c127, .slice a49 (n + 1) c50, .int .i64 ((n + 1 : Nat) : Int), .int .i64 ((i : Int) + 1)] (.cons (show Rng .i64 ((i : Int) + 1) from Rng.i64 (by omega)) .nil) (by kernel_rfl) (fun b133 => ?_)
        refine thn_n ?_
        exact ⟨(C ++ [(⟨⟨key, ⟨⟨t.Count, t.Client⟩, true, false, ⟨none, 0, 0⟩⟩⟩, ⟨#[]⟩⟩ : Ce)]).length - (i + 1), (by omega), i + 1, xs ++ [(⟨⟨(C ++ [(⟨⟨key, ⟨⟨t.Count, t.Client⟩, true, false, ⟨none, 0, 0⟩⟩⟩, ⟨#[]⟩⟩ : Ce)])[i]!.c.key, ⟨⟨(C ++ [(⟨⟨key, ⟨⟨t.Count, t.Client⟩, true, false, ⟨none, 0, 0⟩⟩⟩, ⟨#[]⟩⟩ : Ce)])[i]!.c.e.Tag.Count, (C ++ [(⟨⟨key, ⟨⟨t.Count, t.Client⟩, true, false, ⟨none, 0, 0⟩⟩⟩, ⟨#[]⟩⟩ : Ce)])[i]!.c.e.Tag.Client⟩, (C ++ [(⟨⟨key, ⟨⟨t.Count, t.Client⟩, true, false, ⟨none, 0, 0⟩⟩⟩, ⟨#[]⟩⟩ : Ce)])[i]!.c.e.Fin, (C ++ [(⟨⟨key, ⟨⟨t.Count, t.Client⟩, true, false, ⟨none, 0, 0⟩⟩⟩, ⟨#[]⟩⟩ : Ce)])[i]!.c.e.Has, ⟨(C ++ [(⟨⟨key, ⟨⟨t.Count, t.Client⟩, true, false, ⟨none, 0, 0⟩⟩⟩, ⟨#[]⟩⟩ : Ce)])[i]!.c.e.Data.a, (C ++ [(⟨⟨key, ⟨⟨t.Count, t.Client⟩, true, false, ⟨none, 0, 0⟩⟩⟩, ⟨#[]⟩⟩ : Ce)])[i]!.c.e.Data.n, (C ++ [(⟨⟨key, ⟨⟨t.Count, t.Client⟩, true, false, ⟨none, 0, 0⟩⟩⟩, ⟨#[]⟩⟩ : Ce)])[i]!.c.e.Data.c⟩⟩⟩, (C ++ [(⟨⟨key, ⟨⟨t.Count, t.Client⟩, true, false, ⟨none, 0, 0⟩⟩⟩, ⟨#[]⟩⟩ : Ce)])[i]!.d⟩ : Ce)], a126, no + 1, c127, rfl, ⟨by omega, by rw [List.length_append, List.length_singleton]; omega, (congrArg (fun z => z ++ [(C ++ [(⟨⟨key, ⟨⟨t.Count, t.Client⟩, true, false, ⟨none, 0, 0⟩⟩⟩, ⟨#[]⟩⟩ : Ce)])[i]!]) pc).trans (left_keep (by omega) (by have h_ := h119; first | exact h_ | (simpa using h_) | grind | (simp_all; done)))⟩, by kernel_rfl, (hp129.sub (.cons _ (.cons _ (.cons_cons _ (.cons_cons _ (.cons_cons _ (.cons_cons _ (.cons_cons _ (.cons_cons _ (.cons_cons _ (.refl _)))))))))))⟩
      · refine WP.skip ?_
        refine blk_n ?_
        refine thn_n ?_
        refine WP.pure {} [] [0, 1, 7, 8, 49, 50, 51] [.pointer (some ⟨sb, 0, none⟩), .string key, .pointer (some ⟨g72, 0, none⟩), .slice ao no co, .slice a49 (n + 1) c50, .int .i64 ((n + 1 : Nat) : Int), .int .i64 ((i : Int) + 1)] (.cons (show Rng .i64 ((i : Int) + 1) from Rng.i64 (by omega)) .nil) (by kernel_rfl) (fun b134 => ?_)
        refine thn_n ?_
        exact ⟨(C ++ [(⟨⟨key, ⟨⟨t.Count, t.Client⟩, true, false, ⟨none, 0, 0⟩⟩⟩, ⟨#[]⟩⟩ : Ce)]).length - (i + 1), (by omega), i + 1, xs, ao, no, co, rfl, ⟨by omega, by omega, pc.trans (left_drop (by omega) (by have h_ := h119; first | exact h_ | (simpa using h_) | grind | (simp_all; done)))⟩, by kernel_rfl, (hp115.sub (.cons _ (.cons_cons _ (.cons_cons _ (.cons_cons _ (.cons_cons _ (.cons_cons _ (.cons_cons _ (.cons_cons _ (.refl _))))))))))⟩
    · refine WP.exit ?_
      refine thn_x ?_
      refine thn_x ?_
      refine blk_hit ?_
      refine thn_n ?_
      refine WP.region _ rfl (by kernel_rfl) ?_
      refine OPS.batch 4 {} [] [73, 75] [.slice ao no co, .pointer (some ⟨sb, 1, none⟩)] .nil (by kernel_rfl) (fun b135 => ?_)
      refine OPS.cons (opStep.store2 hp80 rfl [.slice ao no co] [.int .i64 ((dl : Nat) : Int), .slice ao no co] (by kernel_rfl) (fun w136 hp137 => ?_))
      refine OPS.nil ?_
      refine bodyQ.ofN ?_
      refine bodyQ.of _ rfl [] trivial ?_
      have hp138 := hp137.pull6
      have hp139 := hp138.pull1
      have hp140 := hp139.pull3
      exact ⟨_, _, _, _, rfl, .inr ⟨h23, _, rfl, pc.trans (left_all (by omega))⟩, (hp140.sub (.cons_cons _ (.cons_cons _ (.cons_cons _ (.cons _ (.cons _ (.cons _ (.cons _ (.refl _)))))))))⟩

theorem shfin_at (w0 w : World) (L : List Res) (sb dl : Nat) (a : Option Addr) (n c : Nat) (C : List Ce) (F : Nat → Prop) (D : List (SlH × ByteArray)) (hdl : dl ≤ 4611686018427387903) (hb : C.length ≤ 1048599) (key : ByteArray) (t : GTag) (k : Nat) (hat0 : AtR C key t (k : Int)) (hk : k < C.length) (hp0 : Hp w0 Non (Res.row sb [.int .i64 (dl : Int), .slice a n c] 29 :: Res.own 66 6 (.slice a n c) n (C.flatMap cC) :: Res.dat F D :: L) w) :
    Calls Try.prog 27 #[.pointer (some ⟨sb, 0, none⟩), .string key, GTag.val t] w (fun r_ w' => ∃ a2 n2 c2 C2, r_ = .returned (.tuple #[]) ∧ FinK C key t dl k C2 ∧ Hp w0 Non (Res.row sb [.int .i64 (dl : Int), .slice a2 n2 c2] 29 :: Res.own 66 6 (.slice a2 n2 c2) n2 (C2.flatMap cC) :: Res.dat F D :: L) w') := by
  have hle := own_flat (f := cC) (sz := 6) (fun _ => rfl) (by decide) hp0.get1
  refine calls_of Try.func27 rfl 76 rfl (by simp) ?_
  have he0 : List.map (env0 [.pointer (some ⟨sb, 0, none⟩), .string key, GTag.val t]) [0, 1, 2] = [.pointer (some ⟨sb, 0, none⟩), .string key, GTag.val t] := by kernel_rfl
  obtain ⟨b0, he0⟩ := toMk he0
  rw [he0]
  clear he0
  refine WP.seq ?_
  refine WP.region _ rfl (by kernel_rfl) ?_
  refine OPS.cons (opStep.box hp0 [.int .i64 t.Count, .int .i64 t.Client] (by kernel_rfl) (fun g3 w1 hp2 => ?_))
  refine OPS.nil ?_
  refine thn_n ?_
  refine WP.seq ?_
  refine WP.seq ?_
  have hp4 := hp2.drew
  refine WP.held (fun w5 => Ld Try.prog w5 31 ⟨g3, 0, none⟩ (GTag.val t) ∧ True) [] [(0, true), (1, true), (2, true), (3, false), (4, false)] (np_thn (np_thn np_body)) (by kernel_rfl) ?_
  refine HOPS.take 3 {} [GTag.val t] [0, 1, 5, 11, 12, 13] [.pointer (some ⟨sb, 0, none⟩), .string key, .pointer (some ⟨g3, 0, none⟩), GTag.val t, .pointer (some ⟨sb, 0, none⟩), .string key] (by kernel_rfl) ⟨(show Ld Try.prog w1.drew 31 ⟨g3, 0, none⟩ (GTag.val t) from Ld.rowN (cs := [.int .i64 t.Count, .int .i64 t.Client]) hp4.get0 (by kernel_rfl)), trivial⟩ (fun w6 hS7 => QB.mk (.cons (hS7.1) .nil) (by kernel_rfl)) (fun b8 => ?_)
  have hp11 := hp4.pull2
  have hp12 := hp11.pull2
  have hlq : (C).length ≤ 1048600 := by first | omega | (simp only [List.length_append, List.length_cons, List.length_nil, List.length_set]; omega)
  refine HOPS.eff _ rfl (opStep.call (some 14) [.pointer (some ⟨sb, 0, none⟩), .string key] (by kernel_rfl) (floD_c sb dl a n c C _ (ShH.of hp12) (by first | assumption | omega) key hdl) ?_)
  rintro _ w13 ⟨rfl, hf15⟩
  refine ⟨_, rfl, ?_⟩
  have hp14 := hp12.step hf15
  refine ⟨.inr ⟨(show Ld Try.prog w13 31 ⟨g3, 0, none⟩ (GTag.val t) from Ld.rowN (cs := [.int .i64 t.Count, .int .i64 t.Client]) hp14.get2 (by kernel_rfl)), trivial⟩, ?_⟩
  refine HOPS.eff _ rfl (opStep.call (some 15) [GTag.val t, GTag.val (floD C key dl)] (by kernel_rfl) (before_c t (floD C key dl) _) ?_)
  rintro _ w18 ⟨b21, rfl, hb22, hf19⟩
  refine ⟨_, rfl, ?_⟩
  have hp20 := hp14.step hf19
  refine ⟨.inr ⟨(show Ld Try.prog w18 31 ⟨g3, 0, none⟩ (GTag.val t) from Ld.rowN (cs := [.int .i64 t.Count, .int .i64 t.Client]) hp20.get2 (by kernel_rfl)), trivial⟩, ?_⟩
  refine HOPS.nil ?_
  refine thn_n ?_
  refine WP.test (p := tlt t (floD C key dl)) rfl hb22 (fun h23 => ?_) (fun h23 => ?_)
  · refine WP.ret ?_
    refine thn_r ?_
    refine bodyQ.of _ rfl [] trivial ?_
    have hp24 := hp20.pull3
    have hp25 := hp24.pull2
    have hp26 := hp25.pull2
    exact ⟨_, _, _, C, rfl, .inl ⟨h23, rfl⟩, (hp26.sub (.cons_cons _ (.cons_cons _ (.cons_cons _ (.cons _ (.refl _))))))⟩
  · refine WP.skip ?_
    refine thn_n ?_
    refine WP.seq ?_
    refine WP.region _ rfl (by kernel_rfl) ?_
    refine OPS.batch 3 {} [GTag.val t] [0, 1, 5, 16, 17, 18] [.pointer (some ⟨sb, 0, none⟩), .string key, .pointer (some ⟨g3, 0, none⟩), .pointer (some ⟨sb, 0, none⟩), .string key, GTag.val t] (.cons (show Ld Try.prog w18 31 ⟨g3, 0, none⟩ (GTag.val t) from Ld.rowN (cs := [.int .i64 t.Count, .int .i64 t.Client]) hp20.get2 (by kernel_rfl)) .nil) (by kernel_rfl) (fun b27 => ?_)
    have hp30 := hp20.pull1
    have hp31 := hp30.pull1
    have hlq : (C).length ≤ 1048600 := by first | omega | (simp only [List.length_append, List.length_cons, List.length_nil, List.length_set]; omega)
    refine OPS.cons (opStep.call (some 19) [.pointer (some ⟨sb, 0, none⟩), .string key, GTag.val t] (by kernel_rfl) (at_c sb dl a n c C _ (ShH.of hp31) (by first | assumption | omega) key t) ?_)
    rintro _ w32 ⟨i35, rfl, hat36, hf34⟩
    obtain rfl := hat0.one hat36
    refine ⟨_, rfl, ?_⟩
    have hp33 := hp31.step hf34
    refine OPS.batch 1 {} [] [0, 1, 5, 6] [.pointer (some ⟨sb, 0, none⟩), .string key, .pointer (some ⟨g3, 0, none⟩), .int .i64 ((k : Nat) : Int)] .nil (by kernel_rfl) (fun b37 => ?_)
    refine OPS.nil ?_
    refine thn_n ?_
    refine WP.seq ?_
    refine WP.seq ?_
    refine WP.pure {} [] [0, 1, 5, 6, 21] [.pointer (some ⟨sb, 0, none⟩), .string key, .pointer (some ⟨g3, 0, none⟩), .int .i64 ((k : Nat) : Int), .bool (decide (((k : Nat) : Int) < 0))] .nil (by kernel_rfl) (fun b38 => ?_)
    refine thn_n ?_
    refine WP.test (p := ((k : Nat) : Int) < 0) rfl Bp.dec (fun h39 => ?_) (fun h39 => ?_)
    · have hp40 := hp33.drew
      refine WP.held (fun w41 => Ld Try.prog w41 27 ⟨sb, 1, none⟩ (.slice a n c) ∧ Ld Try.prog w41 31 ⟨g3, 0, none⟩ (GTag.val t) ∧ True) [13] [(0, true), (1, true), (2, true), (3, true), (4, true), (5, true), (6, true), (7, true), (8, true), (9, false), (10, false), (11, false), (12, true), (13, false)] (np_thn np_body) (by kernel_rfl) ?_
      refine HOPS.take 9 {} [.slice a n c, GTag.val t] [0, 1, 22, 26, 30] [.pointer (some ⟨sb, 0, none⟩), .string key, .pointer (some ⟨sb, 0, none⟩), .slice a n c, .agg #[.string key, .int .i64 t.Count, .int .i64 t.Client, .bool true, .bool false, .slice none 0 0]] (by kernel_rfl) ⟨(show Ld Try.prog w32.drew 27 ⟨sb, 1, none⟩ (.slice a n c) from (Ld.row1 (P := Try.prog) (t := 27) (o := 1) (v := .slice a n c) hp40.get0 (by kernel_rfl))), (show Ld Try.prog w32.drew 31 ⟨g3, 0, none⟩ (GTag.val t) from Ld.rowN (cs := [.int .i64 t.Count, .int .i64 t.Client]) hp40.get2 (by kernel_rfl)), trivial⟩ (fun w42 hS43 => QB.mk (.cons (hS43.1) (.cons (hS43.2.1) .nil)) (by kernel_rfl)) (fun b44 => ?_)
      refine HOPS.eff _ rfl (opStep.buildSlice (E := 66) hp40 [.string key, .int .i64 t.Count, .int .i64 t.Client, .bool true, .bool false, .slice none 0 0] (by kernel_rfl) (fun g47 w45 hp46 => ?_))
      refine ⟨.inr ⟨(show Ld Try.prog w45 27 ⟨sb, 1, none⟩ (.slice a n c) from (Ld.row1 (P := Try.prog) (t := 27) (o := 1) (v := .slice a n c) hp46.get1 (by kernel_rfl))), (show Ld Try.prog w45 31 ⟨g3, 0, none⟩ (GTag.val t) from Ld.rowN (cs := [.int .i64 t.Count, .int .i64 t.Client]) hp46.get3 (by kernel_rfl)), trivial⟩, ?_⟩
      refine HOPS.eff _ rfl (opStep.append2 [.string key, .int .i64 t.Count, .int .i64 t.Client, .bool true, .bool false, .slice none 0 0] hp46 64 (by kernel_rfl) rfl rfl rfl (SlR.row (n := 1) hp46.get0 rfl).rd (List.all_eq_true.1 (by kernel_rfl)) (by decide) (by omega) (by omega) (fun a50 c51 w52 hp53 hn54 => ?_))
      rw [(show List.flatMap cC C ++ [.string key, .int .i64 t.Count, .int .i64 t.Client, .bool true, .bool false, .slice none 0 0] = List.flatMap cC (C ++ [(⟨⟨key, ⟨⟨t.Count, t.Client⟩, true, false, ⟨none, 0, 0⟩⟩⟩, ⟨#[]⟩⟩ : Ce)]) from (List.flatMap_append (xs := C) (ys := [(⟨⟨key, ⟨⟨t.Count, t.Client⟩, true, false, ⟨none, 0, 0⟩⟩⟩, ⟨#[]⟩⟩ : Ce)])).symm)] at hp53
      refine ⟨.inr ⟨(show Ld Try.prog w52 27 ⟨sb, 1, none⟩ (.slice a n c) from (Ld.row1 (P := Try.prog) (t := 27) (o := 1) (v := .slice a n c) hp53.get1 (by kernel_rfl))), (show Ld Try.prog w52 31 ⟨g3, 0, none⟩ (GTag.val t) from Ld.rowN (cs := [.int .i64 t.Count, .int .i64 t.Client]) hp53.get3 (by kernel_rfl)), trivial⟩, ?_⟩
      refine HOPS.one _ rfl {} [] [0, 1, 32, 33] [.pointer (some ⟨sb, 0, none⟩), .string key, .slice a50 (n + 1) c51, .pointer (some ⟨sb, 0, none⟩)] .nil (by kernel_rfl) ⟨(show Ld Try.prog w52 27 ⟨sb, 1, none⟩ (.slice a n c) from (Ld.row1 (P := Try.prog) (t := 27) (o := 1) (v := .slice a n c) hp53.get1 (by kernel_rfl))), (show Ld Try.prog w52 31 ⟨g3, 0, none⟩ (GTag.val t) from Ld.rowN (cs := [.int .i64 t.Count, .int .i64 t.Client]) hp53.get3 (by kernel_rfl)), trivial⟩ (fun b57 => ?_)
      refine HOPS.take 1 {} [] [0, 1, 32, 34] [.pointer (some ⟨sb, 0, none⟩), .string key, .slice a50 (n + 1) c51, .pointer (some ⟨sb, 1, none⟩)] (by kernel_rfl) ⟨(show Ld Try.prog w52 27 ⟨sb, 1, none⟩ (.slice a n c) from (Ld.row1 (P := Try.prog) (t := 27) (o := 1) (v := .slice a n c) hp53.get1 (by kernel_rfl))), (show Ld Try.prog w52 31 ⟨g3, 0, none⟩ (GTag.val t) from Ld.rowN (cs := [.int .i64 t.Count, .int .i64 t.Client]) hp53.get3 (by kernel_rfl)), trivial⟩ (fun w58 hS59 => QB.mk .nil (by kernel_rfl)) (fun b60 => ?_)
      refine HOPS.eff _ rfl (opStep.store1 hp53 rfl [.slice a50 (n + 1) c51] [.int .i64 ((dl : Nat) : Int), .slice a50 (n + 1) c51] (by kernel_rfl) (fun w61 hp62 => ?_))
      refine ⟨.inl rfl, ?_⟩
      refine HOPS.nil ?_
      refine thn_n ?_
      refine WP.seq ?_
      refine WP.region _ rfl (by kernel_rfl) ?_
      refine OPS.batch 2 {} [] [0, 1, 43, 44] [.pointer (some ⟨sb, 0, none⟩), .string key, .pointer (some ⟨sb, 0, none⟩), .string key] .nil (by kernel_rfl) (fun b63 => ?_)
      have hp66 := hp62.pull2
      have hp67 := hp66.pull2
      have hlq : (C ++ [(⟨⟨key, ⟨⟨t.Count, t.Client⟩, true, false, ⟨none, 0, 0⟩⟩⟩, ⟨#[]⟩⟩ : Ce)]).length ≤ 1048600 := by first | omega | (simp only [List.length_append, List.length_cons, List.length_nil, List.length_set]; omega)
      refine OPS.cons (opStep.call (some 45) [.pointer (some ⟨sb, 0, none⟩), .string key] (by kernel_rfl) (floD_c sb dl a50 (n + 1) c51 (C ++ [(⟨⟨key, ⟨⟨t.Count, t.Client⟩, true, false, ⟨none, 0, 0⟩⟩⟩, ⟨#[]⟩⟩ : Ce)]) _ (ShH.of hp67) (by first | assumption | omega) key hdl) ?_)
      rintro _ w68 ⟨rfl, hf70⟩
      refine ⟨_, rfl, ?_⟩
      have hp69 := hp67.step hf70
      refine OPS.cons (opStep.alloc hp69 [.int .i64 0, .int .i64 0] (by kernel_rfl) (fun g73 w71 hp72 => ?_))
      refine OPS.cons (opStep.store0 hp72 rfl [.int .i64 ((floD (C ++ [(⟨⟨key, ⟨⟨t.Count, t.Client⟩, true, false, ⟨none, 0, 0⟩⟩⟩, ⟨#[]⟩⟩ : Ce)]) key dl).Count), .int .i64 ((floD (C ++ [(⟨⟨key, ⟨⟨t.Count, t.Client⟩, true, false, ⟨none, 0, 0⟩⟩⟩, ⟨#[]⟩⟩ : Ce)]) key dl).Client)] [.int .i64 ((floD (C ++ [(⟨⟨key, ⟨⟨t.Count, t.Client⟩, true, false, ⟨none, 0, 0⟩⟩⟩, ⟨#[]⟩⟩ : Ce)]) key dl).Count), .int .i64 ((floD (C ++ [(⟨⟨key, ⟨⟨t.Count, t.Client⟩, true, false, ⟨none, 0, 0⟩⟩⟩, ⟨#[]⟩⟩ : Ce)]) key dl).Client)] (by kernel_rfl) (fun w74 hp75 => ?_))
      refine OPS.nil ?_
      refine thn_n ?_
      refine WP.seq ?_
      refine WP.pure {} [] [0, 1, 7, 8] [.pointer (some ⟨sb, 0, none⟩), .string key, .pointer (some ⟨g73, 0, none⟩), .slice none 0 0] .nil (by kernel_rfl) (fun b76 => ?_)
      refine thn_n ?_
      refine WP.seq ?_
      refine WP.seq ?_
      refine WP.pure {} [.slice a50 (n + 1) c51] [0, 1, 7, 8, 49, 50, 51] [.pointer (some ⟨sb, 0, none⟩), .string key, .pointer (some ⟨g73, 0, none⟩), .slice none 0 0, .slice a50 (n + 1) c51, .int .i64 ((n + 1 : Nat) : Int), .int .i64 0] (.cons (Ld.row1 (P := Try.prog) (t := 27) (o := 1) (v := .slice a50 (n + 1) c51) hp75.get1 (by kernel_rfl)) .nil) (by kernel_rfl) (fun b77 => ?_)
      refine thn_n ?_
      refine WP.block ?_
      have hp78 := (show Hp w0 Non (Res.own 66 6 (.slice none 0 0) 0 (List.flatMap cC ([] : List Ce)) :: Res.row g73 [.int .i64 ((floD (C ++ [(⟨⟨key, ⟨⟨t.Count, t.Client⟩, true, false, ⟨none, 0, 0⟩⟩⟩, ⟨#[]⟩⟩ : Ce)]) key dl).Count), .int .i64 ((floD (C ++ [(⟨⟨key, ⟨⟨t.Count, t.Client⟩, true, false, ⟨none, 0, 0⟩⟩⟩, ⟨#[]⟩⟩ : Ce)]) key dl).Client)] 31 :: Res.row sb [.int .i64 ((dl : Nat) : Int), .slice a50 (n + 1) c51] 29 :: Res.own 66 6 (.slice a50 (n + 1) c51) (n + 1) (List.flatMap cC (C ++ [(⟨⟨key, ⟨⟨t.Count, t.Client⟩, true, false, ⟨none, 0, 0⟩⟩⟩, ⟨#[]⟩⟩ : Ce)])) :: Res.row g47 [.string key, .int .i64 t.Count, .int .i64 t.Client, .bool true, .bool false, .slice none 0 0] 66 :: Res.row g3 [.int .i64 t.Count, .int .i64 t.Client] 31 :: Res.dat F D :: L) w74 from hp75.nilOwn 66 6)
      have hlc := own_flat (f := cC) (sz := 6) (fun _ => rfl) (by decide) hp78.get3
      refine WP.loop (fun mz_ e79 w80 => ∃ (i : Nat) (xs : List Ce) (ao : Option Addr) (no : Nat) (co : Nat), mz_ = (C ++ [(⟨⟨key, ⟨⟨t.Count, t.Client⟩, true, false, ⟨none, 0, 0⟩⟩⟩, ⟨#[]⟩⟩ : Ce)]).length - i ∧ (i ≤ (C ++ [(⟨⟨key, ⟨⟨t.Count, t.Client⟩, true, false, ⟨none, 0, 0⟩⟩⟩, ⟨#[]⟩⟩ : Ce)]).length ∧ xs.length ≤ i ∧ xs = leftC ((C ++ [(⟨⟨key, ⟨⟨t.Count, t.Client⟩, true, false, ⟨none, 0, 0⟩⟩⟩, ⟨#[]⟩⟩ : Ce)]).take i) key (floD (C ++ [(⟨⟨key, ⟨⟨t.Count, t.Client⟩, true, false, ⟨none, 0, 0⟩⟩⟩, ⟨#[]⟩⟩ : Ce)]) key dl)) ∧ List.map e79 [0, 1, 7, 8, 49, 50, 51] = [.pointer (some ⟨sb, 0, none⟩), .string key, .pointer (some ⟨g73, 0, none⟩), .slice ao no co, .slice a50 (n + 1) c51, .int .i64 ((n + 1 : Nat) : Int), .int .i64 (i : Int)] ∧ Hp w0 Non (Res.own 66 6 (.slice ao no co) no (List.flatMap cC xs) :: Res.row g73 [.int .i64 ((floD (C ++ [(⟨⟨key, ⟨⟨t.Count, t.Client⟩, true, false, ⟨none, 0, 0⟩⟩⟩, ⟨#[]⟩⟩ : Ce)]) key dl).Count), .int .i64 ((floD (C ++ [(⟨⟨key, ⟨⟨t.Count, t.Client⟩, true, false, ⟨none, 0, 0⟩⟩⟩, ⟨#[]⟩⟩ : Ce)]) key dl).Client)] 31 :: Res.row sb [.int .i64 ((dl : Nat) : Int), .slice a50 (n + 1) c51] 29 :: Res.own 66 6 (.slice a50 (n + 1) c51) (n + 1) (List.flatMap cC (C ++ [(⟨⟨key, ⟨⟨t.Count, t.Client⟩, true, false, ⟨none, 0, 0⟩⟩⟩, ⟨#[]⟩⟩ : Ce)])) :: Res.row g47 [.string key, .int .i64 t.Count, .int .i64 t.Client, .bool true, .bool false, .slice none 0 0] 66 :: Res.row g3 [.int .i64 t.Count, .int .i64 t.Client] 31 :: Res.dat F D :: L) w80) ((C ++ [(⟨⟨key, ⟨⟨t.Count, t.Client⟩, true, false, ⟨none, 0, 0⟩⟩⟩, ⟨#[]⟩⟩ : Ce)]).length - (0)) ⟨0, [], none, 0, 0, rfl, ⟨Nat.zero_le _, Nat.le_refl _, rfl⟩, by kernel_rfl, hp78⟩ ?_
      rintro _ e79 w80 ⟨i, xs, ao, no, co, rfl, hI82, hE83, hp81⟩
      obtain ⟨b84, rfl⟩ := toMk hE83
      clear hE83
      obtain ⟨pa, pb, pc⟩ := hI82
      have pe := own_flat (f := cC) (sz := 6) (fun _ => rfl) (by decide) hp81.get0
      refine WP.seq ?_
      refine WP.pure {} [] [0, 1, 7, 8, 49, 50, 51, 52] [.pointer (some ⟨sb, 0, none⟩), .string key, .pointer (some ⟨g73, 0, none⟩), .slice ao no co, .slice a50 (n + 1) c51, .int .i64 ((n + 1 : Nat) : Int), .int .i64 (i : Int), .bool (decide ((i : Int) < ((n + 1 : Nat) : Int)))] .nil (by kernel_rfl) (fun b85 => ?_)
      refine thn_n ?_
      refine WP.seq ?_
      refine WP.test (p := (i : Int) < ((n + 1 : Nat) : Int)) rfl Bp.dec (fun h86 => ?_) (fun h86 => ?_)
      · refine WP.skip ?_
        refine thn_n ?_
        refine WP.seq ?_
        refine WP.block ?_
        refine WP.seq ?_
        refine WP.region _ rfl (by kernel_rfl) ?_
        have := own_flat (sz := 6) (fun _ => rfl) (by decide) hp81.get3
        have hy90 : (C ++ [(⟨⟨key, ⟨⟨t.Count, t.Client⟩, true, false, ⟨none, 0, 0⟩⟩⟩, ⟨#[]⟩⟩ : Ce)])[i]? = some (C ++ [(⟨⟨key, ⟨⟨t.Count, t.Client⟩, true, false, ⟨none, 0, 0⟩⟩⟩, ⟨#[]⟩⟩ : Ce)])[i]! := get_bang (by first | (omega) | (simp only [List.length_append, List.length_cons, List.length_nil]; omega) | (simp only [List.length_take, List.length_append, List.length_cons, List.length_nil]; omega))
        refine OPS.batch 2 {} [Gsherdtop_cell.val ((C ++ [(⟨⟨key, ⟨⟨t.Count, t.Client⟩, true, false, ⟨none, 0, 0⟩⟩⟩, ⟨#[]⟩⟩ : Ce)])[i]!.c)] [0, 1, 7, 8, 49, 50, 51, 54] [.pointer (some ⟨sb, 0, none⟩), .string key, .pointer (some ⟨g73, 0, none⟩), .slice ao no co, .slice a50 (n + 1) c51, .int .i64 ((n + 1 : Nat) : Int), .int .i64 (i : Int), Gsherdtop_cell.val ((C ++ [(⟨⟨key, ⟨⟨t.Count, t.Client⟩, true, false, ⟨none, 0, 0⟩⟩⟩, ⟨#[]⟩⟩ : Ce)])[i]!.c)] (.cons (show InB ((i : Int)) (n + 1) from ⟨by omega, by omega⟩) (.cons ((SlR.own (hp81.get3)).some (by omega)) (.cons (Ld.add0 (Ld.elN (P := Try.prog) (t := 66) (SlR.own (hp81.get3)).rd 6 (fun _ => rfl) hy90 (o := 0) (cs := [.string ((C ++ [(⟨⟨key, ⟨⟨t.Count, t.Client⟩, true, false, ⟨none, 0, 0⟩⟩⟩, ⟨#[]⟩⟩ : Ce)])[i]!.c.key), .int .i64 ((C ++ [(⟨⟨key, ⟨⟨t.Count, t.Client⟩, true, false, ⟨none, 0, 0⟩⟩⟩, ⟨#[]⟩⟩ : Ce)])[i]!.c.e.Tag.Count), .int .i64 ((C ++ [(⟨⟨key, ⟨⟨t.Count, t.Client⟩, true, false, ⟨none, 0, 0⟩⟩⟩, ⟨#[]⟩⟩ : Ce)])[i]!.c.e.Tag.Client), .bool ((C ++ [(⟨⟨key, ⟨⟨t.Count, t.Client⟩, true, false, ⟨none, 0, 0⟩⟩⟩, ⟨#[]⟩⟩ : Ce)])[i]!.c.e.Fin), .bool ((C ++ [(⟨⟨key, ⟨⟨t.Count, t.Client⟩, true, false, ⟨none, 0, 0⟩⟩⟩, ⟨#[]⟩⟩ : Ce)])[i]!.c.e.Has), .slice ((C ++ [(⟨⟨key, ⟨⟨t.Count, t.Client⟩, true, false, ⟨none, 0, 0⟩⟩⟩, ⟨#[]⟩⟩ : Ce)])[i]!.c.e.Data.a) ((C ++ [(⟨⟨key, ⟨⟨t.Count, t.Client⟩, true, false, ⟨none, 0, 0⟩⟩⟩, ⟨#[]⟩⟩ : Ce)])[i]!.c.e.Data.n) ((C ++ [(⟨⟨key, ⟨⟨t.Count, t.Client⟩, true, false, ⟨none, 0, 0⟩⟩⟩, ⟨#[]⟩⟩ : Ce)])[i]!.c.e.Data.c)]) (by kernel_rfl))) .nil))) (by kernel_rfl) (fun b91 => ?_)
        refine OPS.cons (opStep.alloc hp81 [.string ByteArray.empty, .int .i64 0, .int .i64 0, .bool false, .bool false, .slice none 0 0] (by kernel_rfl) (fun g94 w92 hp93 => ?_))
        refine OPS.cons (opStep.store0 hp93 rfl [.string ((C ++ [(⟨⟨key, ⟨⟨t.Count, t.Client⟩, true, false, ⟨none, 0, 0⟩⟩⟩, ⟨#[]⟩⟩ : Ce)])[i]!.c.key), .int .i64 ((C ++ [(⟨⟨key, ⟨⟨t.Count, t.Client⟩, true, false, ⟨none, 0, 0⟩⟩⟩, ⟨#[]⟩⟩ : Ce)])[i]!.c.e.Tag.Count), .int .i64 ((C ++ [(⟨⟨key, ⟨⟨t.Count, t.Client⟩, true, false, ⟨none, 0, 0⟩⟩⟩, ⟨#[]⟩⟩ : Ce)])[i]!.c.e.Tag.Client), .bool ((C ++ [(⟨⟨key, ⟨⟨t.Count, t.Client⟩, true, false, ⟨none, 0, 0⟩⟩⟩, ⟨#[]⟩⟩ : Ce)])[i]!.c.e.Fin), .bool ((C ++ [(⟨⟨key, ⟨⟨t.Count, t.Client⟩, true, false, ⟨none, 0, 0⟩⟩⟩, ⟨#[]⟩⟩ : Ce)])[i]!.c.e.Has), .slice ((C ++ [(⟨⟨key, ⟨⟨t.Count, t.Client⟩, true, false, ⟨none, 0, 0⟩⟩⟩, ⟨#[]⟩⟩ : Ce)])[i]!.c.e.Data.a) ((C ++ [(⟨⟨key, ⟨⟨t.Count, t.Client⟩, true, false, ⟨none, 0, 0⟩⟩⟩, ⟨#[]⟩⟩ : Ce)])[i]!.c.e.Data.n) ((C ++ [(⟨⟨key, ⟨⟨t.Count, t.Client⟩, true, false, ⟨none, 0, 0⟩⟩⟩, ⟨#[]⟩⟩ : Ce)])[i]!.c.e.Data.c)] [.string ((C ++ [(⟨⟨key, ⟨⟨t.Count, t.Client⟩, true, false, ⟨none, 0, 0⟩⟩⟩, ⟨#[]⟩⟩ : Ce)])[i]!.c.key), .int .i64 ((C ++ [(⟨⟨key, ⟨⟨t.Count, t.Client⟩, true, false, ⟨none, 0, 0⟩⟩⟩, ⟨#[]⟩⟩ : Ce)])[i]!.c.e.Tag.Count), .int .i64 ((C ++ [(⟨⟨key, ⟨⟨t.Count, t.Client⟩, true, false, ⟨none, 0, 0⟩⟩⟩, ⟨#[]⟩⟩ : Ce)])[i]!.c.e.Tag.Client), .bool ((C ++ [(⟨⟨key, ⟨⟨t.Count, t.Client⟩, true, false, ⟨none, 0, 0⟩⟩⟩, ⟨#[]⟩⟩ : Ce)])[i]!.c.e.Fin), .bool ((C ++ [(⟨⟨key, ⟨⟨t.Count, t.Client⟩, true, false, ⟨none, 0, 0⟩⟩⟩, ⟨#[]⟩⟩ : Ce)])[i]!.c.e.Has), .slice ((C ++ [(⟨⟨key, ⟨⟨t.Count, t.Client⟩, true, false, ⟨none, 0, 0⟩⟩⟩, ⟨#[]⟩⟩ : Ce)])[i]!.c.e.Data.a) ((C ++ [(⟨⟨key, ⟨⟨t.Count, t.Client⟩, true, false, ⟨none, 0, 0⟩⟩⟩, ⟨#[]⟩⟩ : Ce)])[i]!.c.e.Data.n) ((C ++ [(⟨⟨key, ⟨⟨t.Count, t.Client⟩, true, false, ⟨none, 0, 0⟩⟩⟩, ⟨#[]⟩⟩ : Ce)])[i]!.c.e.Data.c)] (by kernel_rfl) (fun w95 hp96 => ?_))
        refine OPS.nil ?_
        refine thn_n ?_
        refine WP.cut (fun e114 w115 => ∃ (x112 : Bool), (True) ∧ Bp x112 (((¬ (((C ++ [(⟨⟨key, ⟨⟨t.Count, t.Client⟩, true, false, ⟨none, 0, 0⟩⟩⟩, ⟨#[]⟩⟩ : Ce)])[i]!.c.key) = key))) ∨ ((((C ++ [(⟨⟨key, ⟨⟨t.Count, t.Client⟩, true, false, ⟨none, 0, 0⟩⟩⟩, ⟨#[]⟩⟩ : Ce)])[i]!.c.key) = key) ∧ (¬ (tlt (C ++ [(⟨⟨key, ⟨⟨t.Count, t.Client⟩, true, false, ⟨none, 0, 0⟩⟩⟩, ⟨#[]⟩⟩ : Ce)])[i]!.c.e.Tag (floD (C ++ [(⟨⟨key, ⟨⟨t.Count, t.Client⟩, true, false, ⟨none, 0, 0⟩⟩⟩, ⟨#[]⟩⟩ : Ce)]) key dl))))) ∧ List.map e114 [0, 1, 7, 8, 10, 49, 50, 51, 66] = [.pointer (some ⟨sb, 0, none⟩), .string key, .pointer (some ⟨g73, 0, none⟩), .slice ao no co, .pointer (some ⟨g94, 0, none⟩), .slice a50 (n + 1) c51, .int .i64 ((n + 1 : Nat) : Int), .int .i64 (i : Int), .bool x112] ∧ Hp w0 Non (Res.row g94 [.string ((C ++ [(⟨⟨key, ⟨⟨t.Count, t.Client⟩, true, false, ⟨none, 0, 0⟩⟩⟩, ⟨#[]⟩⟩ : Ce)])[i]!.c.key), .int .i64 ((C ++ [(⟨⟨key, ⟨⟨t.Count, t.Client⟩, true, false, ⟨none, 0, 0⟩⟩⟩, ⟨#[]⟩⟩ : Ce)])[i]!.c.e.Tag.Count), .int .i64 ((C ++ [(⟨⟨key, ⟨⟨t.Count, t.Client⟩, true, false, ⟨none, 0, 0⟩⟩⟩, ⟨#[]⟩⟩ : Ce)])[i]!.c.e.Tag.Client), .bool ((C ++ [(⟨⟨key, ⟨⟨t.Count, t.Client⟩, true, false, ⟨none, 0, 0⟩⟩⟩, ⟨#[]⟩⟩ : Ce)])[i]!.c.e.Fin), .bool ((C ++ [(⟨⟨key, ⟨⟨t.Count, t.Client⟩, true, false, ⟨none, 0, 0⟩⟩⟩, ⟨#[]⟩⟩ : Ce)])[i]!.c.e.Has), .slice ((C ++ [(⟨⟨key, ⟨⟨t.Count, t.Client⟩, true, false, ⟨none, 0, 0⟩⟩⟩, ⟨#[]⟩⟩ : Ce)])[i]!.c.e.Data.a) ((C ++ [(⟨⟨key, ⟨⟨t.Count, t.Client⟩, true, false, ⟨none, 0, 0⟩⟩⟩, ⟨#[]⟩⟩ : Ce)])[i]!.c.e.Data.n) ((C ++ [(⟨⟨key, ⟨⟨t.Count, t.Client⟩, true, false, ⟨none, 0, 0⟩⟩⟩, ⟨#[]⟩⟩ : Ce)])[i]!.c.e.Data.c)] 66 :: Res.own 66 6 (.slice ao no co) no (List.flatMap cC xs) :: Res.row g73 [.int .i64 ((floD (C ++ [(⟨⟨key, ⟨⟨t.Count, t.Client⟩, true, false, ⟨none, 0, 0⟩⟩⟩, ⟨#[]⟩⟩ : Ce)]) key dl).Count), .int .i64 ((floD (C ++ [(⟨⟨key, ⟨⟨t.Count, t.Client⟩, true, false, ⟨none, 0, 0⟩⟩⟩, ⟨#[]⟩⟩ : Ce)]) key dl).Client)] 31 :: Res.row sb [.int .i64 ((dl : Nat) : Int), .slice a50 (n + 1) c51] 29 :: Res.own 66 6 (.slice a50 (n + 1) c51) (n + 1) (List.flatMap cC (C ++ [(⟨⟨key, ⟨⟨t.Count, t.Client⟩, true, false, ⟨none, 0, 0⟩⟩⟩, ⟨#[]⟩⟩ : Ce)])) :: Res.row g47 [.string key, .int .i64 t.Count, .int .i64 t.Client, .bool true, .bool false, .slice none 0 0] 66 :: Res.row g3 [.int .i64 t.Count, .int .i64 t.Client] 31 :: Res.dat F D :: L) w115) ?_ ?_
        · refine WP.region _ rfl (by kernel_rfl) ?_
          refine OPS.batch 5 {} [.string ((C ++ [(⟨⟨key, ⟨⟨t.Count, t.Client⟩, true, false, ⟨none, 0, 0⟩⟩⟩, ⟨#[]⟩⟩ : Ce)])[i]!.c.key)] [0, 1, 7, 8, 10, 49, 50, 51, 59] [.pointer (some ⟨sb, 0, none⟩), .string key, .pointer (some ⟨g73, 0, none⟩), .slice ao no co, .pointer (some ⟨g94, 0, none⟩), .slice a50 (n + 1) c51, .int .i64 ((n + 1 : Nat) : Int), .int .i64 (i : Int), .bool (decide (¬ (((C ++ [(⟨⟨key, ⟨⟨t.Count, t.Client⟩, true, false, ⟨none, 0, 0⟩⟩⟩, ⟨#[]⟩⟩ : Ce)])[i]!.c.key) = key)))] (.cons (Ld.row1 (P := Try.prog) (t := 9) (o := 0) (v := .string ((C ++ [(⟨⟨key, ⟨⟨t.Count, t.Client⟩, true, false, ⟨none, 0, 0⟩⟩⟩, ⟨#[]⟩⟩ : Ce)])[i]!.c.key)) hp96.get0 (by kernel_rfl)) .nil) (by kernel_rfl) (fun b98 => ?_)
          by_cases h99 : ((C ++ [(⟨⟨key, ⟨⟨t.Count, t.Client⟩, true, false, ⟨none, 0, 0⟩⟩⟩, ⟨#[]⟩⟩ : Ce)])[i]!.c.key) = key
          · refine OPS.batch 0 {} [] [0, 1, 7, 8, 10, 49, 50, 51, 59] [.pointer (some ⟨sb, 0, none⟩), .string key, .pointer (some ⟨g73, 0, none⟩), .slice ao no co, .pointer (some ⟨g94, 0, none⟩), .slice a50 (n + 1) c51, .int .i64 ((n + 1 : Nat) : Int), .int .i64 (i : Int), .bool (decide (¬ (((C ++ [(⟨⟨key, ⟨⟨t.Count, t.Client⟩, true, false, ⟨none, 0, 0⟩⟩⟩, ⟨#[]⟩⟩ : Ce)])[i]!.c.key) = key)))] .nil (by kernel_rfl) (fun b102 => ?_)
            refine OPS.re [.pointer (some ⟨sb, 0, none⟩), .string key, .pointer (some ⟨g73, 0, none⟩), .slice ao no co, .pointer (some ⟨g94, 0, none⟩), .slice a50 (n + 1) c51, .int .i64 ((n + 1 : Nat) : Int), .int .i64 (i : Int), .bool false] (by rw [show (decide (¬ (((C ++ [(⟨⟨key, ⟨⟨t.Count, t.Client⟩, true, false, ⟨none, 0, 0⟩⟩⟩, ⟨#[]⟩⟩ : Ce)])[i]!.c.key) = key))) = false from Bp.dec.ff (fun k => k h99)]) ?_
            refine OPS.batch 4 {} [.agg #[.int .i64 ((C ++ [(⟨⟨key, ⟨⟨t.Count, t.Client⟩, true, false, ⟨none, 0, 0⟩⟩⟩, ⟨#[]⟩⟩ : Ce)])[i]!.c.e.Tag.Count), .int .i64 ((C ++ [(⟨⟨key, ⟨⟨t.Count, t.Client⟩, true, false, ⟨none, 0, 0⟩⟩⟩, ⟨#[]⟩⟩ : Ce)])[i]!.c.e.Tag.Client)], GTag.val (floD (C ++ [(⟨⟨key, ⟨⟨t.Count, t.Client⟩, true, false, ⟨none, 0, 0⟩⟩⟩, ⟨#[]⟩⟩ : Ce)]) key dl)] [0, 1, 7, 8, 10, 49, 50, 51, 59, 62, 63] [.pointer (some ⟨sb, 0, none⟩), .string key, .pointer (some ⟨g73, 0, none⟩), .slice ao no co, .pointer (some ⟨g94, 0, none⟩), .slice a50 (n + 1) c51, .int .i64 ((n + 1 : Nat) : Int), .int .i64 (i : Int), .bool false, .agg #[.int .i64 ((C ++ [(⟨⟨key, ⟨⟨t.Count, t.Client⟩, true, false, ⟨none, 0, 0⟩⟩⟩, ⟨#[]⟩⟩ : Ce)])[i]!.c.e.Tag.Count), .int .i64 ((C ++ [(⟨⟨key, ⟨⟨t.Count, t.Client⟩, true, false, ⟨none, 0, 0⟩⟩⟩, ⟨#[]⟩⟩ : Ce)])[i]!.c.e.Tag.Client)], GTag.val (floD (C ++ [(⟨⟨key, ⟨⟨t.Count, t.Client⟩, true, false, ⟨none, 0, 0⟩⟩⟩, ⟨#[]⟩⟩ : Ce)]) key dl)] (.cons (show Ld Try.prog w95 31 ⟨g94, 1, none⟩ (.agg #[.int .i64 ((C ++ [(⟨⟨key, ⟨⟨t.Count, t.Client⟩, true, false, ⟨none, 0, 0⟩⟩⟩, ⟨#[]⟩⟩ : Ce)])[i]!.c.e.Tag.Count), .int .i64 ((C ++ [(⟨⟨key, ⟨⟨t.Count, t.Client⟩, true, false, ⟨none, 0, 0⟩⟩⟩, ⟨#[]⟩⟩ : Ce)])[i]!.c.e.Tag.Client)]) from Ld.rowN (cs := [.int .i64 ((C ++ [(⟨⟨key, ⟨⟨t.Count, t.Client⟩, true, false, ⟨none, 0, 0⟩⟩⟩, ⟨#[]⟩⟩ : Ce)])[i]!.c.e.Tag.Count), .int .i64 ((C ++ [(⟨⟨key, ⟨⟨t.Count, t.Client⟩, true, false, ⟨none, 0, 0⟩⟩⟩, ⟨#[]⟩⟩ : Ce)])[i]!.c.e.Tag.Client)]) hp96.get0 (by kernel_rfl)) (.cons (show Ld Try.prog w95 31 ⟨g73, 0, none⟩ (GTag.val (floD (C ++ [(⟨⟨key, ⟨⟨t.Count, t.Client⟩, true, false, ⟨none, 0, 0⟩⟩⟩, ⟨#[]⟩⟩ : Ce)]) key dl)) from Ld.rowN (cs := [.int .i64 ((floD (C ++ [(⟨⟨key, ⟨⟨t.Count, t.Client⟩, true, false, ⟨none, 0, 0⟩⟩⟩, ⟨#[]⟩⟩ : Ce)]) key dl).Count), .int .i64 ((floD (C ++ [(⟨⟨key, ⟨⟨t.Count, t.Client⟩, true, false, ⟨none, 0, 0⟩⟩⟩, ⟨#[]⟩⟩ : Ce)]) key dl).Client)]) hp96.get2 (by kernel_rfl)) .nil)) (by kernel_rfl) (fun b103 => ?_)
            refine OPS.want (by kernel_rfl) ?_
            refine OPS.cons (opStep.call (some 64) [.agg #[.int .i64 ((C ++ [(⟨⟨key, ⟨⟨t.Count, t.Client⟩, true, false, ⟨none, 0, 0⟩⟩⟩, ⟨#[]⟩⟩ : Ce)])[i]!.c.e.Tag.Count), .int .i64 ((C ++ [(⟨⟨key, ⟨⟨t.Count, t.Client⟩, true, false, ⟨none, 0, 0⟩⟩⟩, ⟨#[]⟩⟩ : Ce)])[i]!.c.e.Tag.Client)], GTag.val (floD (C ++ [(⟨⟨key, ⟨⟨t.Count, t.Client⟩, true, false, ⟨none, 0, 0⟩⟩⟩, ⟨#[]⟩⟩ : Ce)]) key dl)] (by kernel_rfl) (before_c (C ++ [(⟨⟨key, ⟨⟨t.Count, t.Client⟩, true, false, ⟨none, 0, 0⟩⟩⟩, ⟨#[]⟩⟩ : Ce)])[i]!.c.e.Tag (floD (C ++ [(⟨⟨key, ⟨⟨t.Count, t.Client⟩, true, false, ⟨none, 0, 0⟩⟩⟩, ⟨#[]⟩⟩ : Ce)]) key dl) _) ?_)
            rintro _ w106 ⟨b109, rfl, hb110, hf107⟩
            refine ⟨_, rfl, ?_⟩
            have hp108 := hp96.step hf107
            refine OPS.batch 2 { wraps := [66] } [] [0, 1, 7, 8, 10, 49, 50, 51, 66] [.pointer (some ⟨sb, 0, none⟩), .string key, .pointer (some ⟨g73, 0, none⟩), .slice ao no co, .pointer (some ⟨g94, 0, none⟩), .slice a50 (n + 1) c51, .int .i64 ((n + 1 : Nat) : Int), .int .i64 (i : Int), .bool (!b109)] .nil (by kernel_rfl) (fun b111 => ?_)
            refine OPS.nil ?_
            refine thn_n ?_
            exact ⟨!b109, trivial, Bp.of (Bp.not hb110) (by first | (simp only [h99, iff_false, false_iff, iff_true, true_iff, Classical.not_not, and_true, true_and, and_false, false_and, or_true, true_or, or_false, false_or, not_true_eq_false, not_false_eq_true, and_self, or_self, iff_self]; done) | (simp [h99]; done) | grind | (simp_all; done)), by kernel_rfl, hp108⟩
          · refine OPS.batch 0 {} [] [0, 1, 7, 8, 10, 49, 50, 51, 59] [.pointer (some ⟨sb, 0, none⟩), .string key, .pointer (some ⟨g73, 0, none⟩), .slice ao no co, .pointer (some ⟨g94, 0, none⟩), .slice a50 (n + 1) c51, .int .i64 ((n + 1 : Nat) : Int), .int .i64 (i : Int), .bool (decide (¬ (((C ++ [(⟨⟨key, ⟨⟨t.Count, t.Client⟩, true, false, ⟨none, 0, 0⟩⟩⟩, ⟨#[]⟩⟩ : Ce)])[i]!.c.key) = key)))] .nil (by kernel_rfl) (fun b100 => ?_)
            refine OPS.re [.pointer (some ⟨sb, 0, none⟩), .string key, .pointer (some ⟨g73, 0, none⟩), .slice ao no co, .pointer (some ⟨g94, 0, none⟩), .slice a50 (n + 1) c51, .int .i64 ((n + 1 : Nat) : Int), .int .i64 (i : Int), .bool true] (by rw [show (decide (¬ (((C ++ [(⟨⟨key, ⟨⟨t.Count, t.Client⟩, true, false, ⟨none, 0, 0⟩⟩⟩, ⟨#[]⟩⟩ : Ce)])[i]!.c.key) = key))) = true from Bp.dec.tt h99]) ?_
            refine OPS.batch 7 { wraps := [66] } [] [0, 1, 7, 8, 10, 49, 50, 51, 66] [.pointer (some ⟨sb, 0, none⟩), .string key, .pointer (some ⟨g73, 0, none⟩), .slice ao no co, .pointer (some ⟨g94, 0, none⟩), .slice a50 (n + 1) c51, .int .i64 ((n + 1 : Nat) : Int), .int .i64 (i : Int), .bool true] .nil (by kernel_rfl) (fun b101 => ?_)
            refine OPS.nil ?_
            refine thn_n ?_
            exact ⟨true, trivial, Bp.of Bp.t (by first | (simp only [h99, iff_false, false_iff, iff_true, true_iff, Classical.not_not, and_true, true_and, and_false, false_and, or_true, true_or, or_false, false_or, not_true_eq_false, not_false_eq_true, and_self, or_self, iff_self]; done) | (simp [h99]; done) | grind | (simp_all; done)), by kernel_rfl, hp96⟩
        rintro e114 w115 ⟨x112, hd117, hb113, hE118, hp116⟩
        obtain ⟨b119, rfl⟩ := toMk hE118
        clear hE118
        clear hd117
        refine WP.test (p := ((¬ (((C ++ [(⟨⟨key, ⟨⟨t.Count, t.Client⟩, true, false, ⟨none, 0, 0⟩⟩⟩, ⟨#[]⟩⟩ : Ce)])[i]!.c.key) = key))) ∨ ((((C ++ [(⟨⟨key, ⟨⟨t.Count, t.Client⟩, true, false, ⟨none, 0, 0⟩⟩⟩, ⟨#[]⟩⟩ : Ce)])[i]!.c.key) = key) ∧ (¬ (tlt (C ++ [(⟨⟨key, ⟨⟨t.Count, t.Client⟩, true, false, ⟨none, 0, 0⟩⟩⟩, ⟨#[]⟩⟩ : Ce)])[i]!.c.e.Tag (floD (C ++ [(⟨⟨key, ⟨⟨t.Count, t.Client⟩, true, false, ⟨none, 0, 0⟩⟩⟩, ⟨#[]⟩⟩ : Ce)]) key dl))))) rfl hb113 (fun h120 => ?_) (fun h120 => ?_)
        · refine WP.region _ rfl (by kernel_rfl) ?_
          refine OPS.batch 2 {} [Gsherdtop_cell.val ((C ++ [(⟨⟨key, ⟨⟨t.Count, t.Client⟩, true, false, ⟨none, 0, 0⟩⟩⟩, ⟨#[]⟩⟩ : Ce)])[i]!.c)] [0, 1, 7, 49, 50, 51, 67, 68] [.pointer (some ⟨sb, 0, none⟩), .string key, .pointer (some ⟨g73, 0, none⟩), .slice a50 (n + 1) c51, .int .i64 ((n + 1 : Nat) : Int), .int .i64 (i : Int), .slice ao no co, Gsherdtop_cell.val ((C ++ [(⟨⟨key, ⟨⟨t.Count, t.Client⟩, true, false, ⟨none, 0, 0⟩⟩⟩, ⟨#[]⟩⟩ : Ce)])[i]!.c)] (.cons (show Ld Try.prog w115 66 ⟨g94, 0, none⟩ (Gsherdtop_cell.val ((C ++ [(⟨⟨key, ⟨⟨t.Count, t.Client⟩, true, false, ⟨none, 0, 0⟩⟩⟩, ⟨#[]⟩⟩ : Ce)])[i]!.c)) from Ld.rowN (cs := [.string ((C ++ [(⟨⟨key, ⟨⟨t.Count, t.Client⟩, true, false, ⟨none, 0, 0⟩⟩⟩, ⟨#[]⟩⟩ : Ce)])[i]!.c.key), .int .i64 ((C ++ [(⟨⟨key, ⟨⟨t.Count, t.Client⟩, true, false, ⟨none, 0, 0⟩⟩⟩, ⟨#[]⟩⟩ : Ce)])[i]!.c.e.Tag.Count), .int .i64 ((C ++ [(⟨⟨key, ⟨⟨t.Count, t.Client⟩, true, false, ⟨none, 0, 0⟩⟩⟩, ⟨#[]⟩⟩ : Ce)])[i]!.c.e.Tag.Client), .bool ((C ++ [(⟨⟨key, ⟨⟨t.Count, t.Client⟩, true, false, ⟨none, 0, 0⟩⟩⟩, ⟨#[]⟩⟩ : Ce)])[i]!.c.e.Fin), .bool ((C ++ [(⟨⟨key, ⟨⟨t.Count, t.Client⟩, true, false, ⟨none, 0, 0⟩⟩⟩, ⟨#[]⟩⟩ : Ce)])[i]!.c.e.Has), .slice ((C ++ [(⟨⟨key, ⟨⟨t.Count, t.Client⟩, true, false, ⟨none, 0, 0⟩⟩⟩, ⟨#[]⟩⟩ : Ce)])[i]!.c.e.Data.a) ((C ++ [(⟨⟨key, ⟨⟨t.Count, t.Client⟩, true, false, ⟨none, 0, 0⟩⟩⟩, ⟨#[]⟩⟩ : Ce)])[i]!.c.e.Data.n) ((C ++ [(⟨⟨key, ⟨⟨t.Count, t.Client⟩, true, false, ⟨none, 0, 0⟩⟩⟩, ⟨#[]⟩⟩ : Ce)])[i]!.c.e.Data.c)]) hp116.get0 (by kernel_rfl)) .nil) (by kernel_rfl) (fun b121 => ?_)
          refine OPS.cons (opStep.buildSlice (E := 66) hp116 [.string ((C ++ [(⟨⟨key, ⟨⟨t.Count, t.Client⟩, true, false, ⟨none, 0, 0⟩⟩⟩, ⟨#[]⟩⟩ : Ce)])[i]!.c.key), .int .i64 ((C ++ [(⟨⟨key, ⟨⟨t.Count, t.Client⟩, true, false, ⟨none, 0, 0⟩⟩⟩, ⟨#[]⟩⟩ : Ce)])[i]!.c.e.Tag.Count), .int .i64 ((C ++ [(⟨⟨key, ⟨⟨t.Count, t.Client⟩, true, false, ⟨none, 0, 0⟩⟩⟩, ⟨#[]⟩⟩ : Ce)])[i]!.c.e.Tag.Client), .bool ((C ++ [(⟨⟨key, ⟨⟨t.Count, t.Client⟩, true, false, ⟨none, 0, 0⟩⟩⟩, ⟨#[]⟩⟩ : Ce)])[i]!.c.e.Fin), .bool ((C ++ [(⟨⟨key, ⟨⟨t.Count, t.Client⟩, true, false, ⟨none, 0, 0⟩⟩⟩, ⟨#[]⟩⟩ : Ce)])[i]!.c.e.Has), .slice ((C ++ [(⟨⟨key, ⟨⟨t.Count, t.Client⟩, true, false, ⟨none, 0, 0⟩⟩⟩, ⟨#[]⟩⟩ : Ce)])[i]!.c.e.Data.a) ((C ++ [(⟨⟨key, ⟨⟨t.Count, t.Client⟩, true, false, ⟨none, 0, 0⟩⟩⟩, ⟨#[]⟩⟩ : Ce)])[i]!.c.e.Data.n) ((C ++ [(⟨⟨key, ⟨⟨t.Count, t.Client⟩, true, false, ⟨none, 0, 0⟩⟩⟩, ⟨#[]⟩⟩ : Ce)])[i]!.c.e.Data.c)] (by kernel_rfl) (fun g124 w122 hp123 => ?_))
          have hrd132 := (SlR.row (n := 1) hp123.get0 rfl).rd
          refine OPS.cons (opStep.append2 _ hp123 64 (by kernel_rfl) rfl rfl rfl hrd132 (List.all_eq_true.1 (by kernel_rfl)) (by decide) (by omega) (by omega) (fun a127 c128 w129 hp130 hn131 => ?_))
          rw [(show List.flatMap cC xs ++ [.string ((C ++ [(⟨⟨key, ⟨⟨t.Count, t.Client⟩, true, false, ⟨none, 0, 0⟩⟩⟩, ⟨#[]⟩⟩ : Ce)])[i]!.c.key), .int .i64 ((C ++ [(⟨⟨key, ⟨⟨t.Count, t.Client⟩, true, false, ⟨none, 0, 0⟩⟩⟩, ⟨#[]⟩⟩ : Ce)])[i]!.c.e.Tag.Count), .int .i64 ((C ++ [(⟨⟨key, ⟨⟨t.Count, t.Client⟩, true, false, ⟨none, 0, 0⟩⟩⟩, ⟨#[]⟩⟩ : Ce)])[i]!.c.e.Tag.Client), .bool ((C ++ [(⟨⟨key, ⟨⟨t.Count, t.Client⟩, true, false, ⟨none, 0, 0⟩⟩⟩, ⟨#[]⟩⟩ : Ce)])[i]!.c.e.Fin), .bool ((C ++ [(⟨⟨key, ⟨⟨t.Count, t.Client⟩, true, false, ⟨none, 0, 0⟩⟩⟩, ⟨#[]⟩⟩ : Ce)])[i]!.c.e.Has), .slice ((C ++ [(⟨⟨key, ⟨⟨t.Count, t.Client⟩, true, false, ⟨none, 0, 0⟩⟩⟩, ⟨#[]⟩⟩ : Ce)])[i]!.c.e.Data.a) ((C ++ [(⟨⟨key, ⟨⟨t.Count, t.Client⟩, true, false, ⟨none, 0, 0⟩⟩⟩, ⟨#[]⟩⟩ : Ce)])[i]!.c.e.Data.n) ((C ++ [(⟨⟨key, ⟨⟨t.Count, t.Client⟩, true, false, ⟨none, 0, 0⟩⟩⟩, ⟨#[]⟩⟩ : Ce)])[i]!.c.e.Data.c)] = List.flatMap cC (xs ++ [(⟨⟨(C ++ [(⟨⟨key, ⟨⟨t.Count, t.Client⟩, true, false, ⟨none, 0, 0⟩⟩⟩, ⟨#[]⟩⟩ : Ce)])[i]!.c.key, ⟨⟨(C ++ [(⟨⟨key, ⟨⟨t.Count, t.Client⟩, true, false, ⟨none, 0, 0⟩⟩⟩, ⟨#[]⟩⟩ : Ce)])[i]!.c.e.Tag.Count, (C ++ [(⟨⟨key, ⟨⟨t.Count, t.Client⟩, true, false, ⟨none, 0, 0⟩⟩⟩, ⟨#[]⟩⟩ : Ce)])[i]!.c.e.Tag.Client⟩, (C ++ [(⟨⟨key, ⟨⟨t.Count, t.Client⟩, true, false, ⟨none, 0, 0⟩⟩⟩, ⟨#[]⟩⟩ : Ce)])[i]!.c.e.Fin, (C ++ [(⟨⟨key, ⟨⟨t.Count, t.Client⟩, true, false, ⟨none, 0, 0⟩⟩⟩, ⟨#[]⟩⟩ : Ce)])[i]!.c.e.Has, ⟨(C ++ [(⟨⟨key, ⟨⟨t.Count, t.Client⟩, true, false, ⟨none, 0, 0⟩⟩⟩, ⟨#[]⟩⟩ : Ce)])[i]!.c.e.Data.a, (C ++ [(⟨⟨key, ⟨⟨t.Count, t.Client⟩, true, false, ⟨none, 0, 0⟩⟩⟩, ⟨#[]⟩⟩ : Ce)])[i]!.c.e.Data.n, (C ++ [(⟨⟨key, ⟨⟨t.Count, t.Client⟩, true, false, ⟨none, 0, 0⟩⟩⟩, ⟨#[]⟩⟩ : Ce)])[i]!.c.e.Data.c⟩⟩⟩, (C ++ [(⟨⟨key, ⟨⟨t.Count, t.Client⟩, true, false, ⟨none, 0, 0⟩⟩⟩, ⟨#[]⟩⟩ : Ce)])[i]!.d⟩ : Ce)]) from (List.flatMap_append (xs := xs) (ys := [(⟨⟨(C ++ [(⟨⟨key, ⟨⟨t.Count, t.Client⟩, true, false, ⟨none, 0, 0⟩⟩⟩, ⟨#[]⟩⟩ : Ce)])[i]!.c.key, ⟨⟨(C ++ [(⟨⟨key, ⟨⟨t.Count, t.Client⟩, true, false, ⟨none, 0, 0⟩⟩⟩, ⟨#[]⟩⟩ : Ce)])[i]!.c.e.Tag.Count, (C ++ [(⟨⟨key, ⟨⟨t.Count, t.Client⟩, true, false, ⟨none, 0, 0⟩⟩⟩, ⟨#[]⟩⟩ : Ce)])[i]!.c.e.Tag.Client⟩, (C ++ [(⟨⟨key, ⟨⟨t.Count, t.Client⟩, true, false, ⟨none, 0, 0⟩⟩⟩, ⟨#[]⟩⟩ : Ce)])[i]!.c.e.Fin, (C ++ [(⟨⟨key, ⟨⟨t.Count, t.Client⟩, true, false, ⟨none, 0, 0⟩⟩⟩, ⟨#[]⟩⟩ : Ce)])[i]!.c.e.Has, ⟨(C ++ [(⟨⟨key, ⟨⟨t.Count, t.Client⟩, true, false, ⟨none, 0, 0⟩⟩⟩, ⟨#[]⟩⟩ : Ce)])[i]!.c.e.Data.a, (C ++ [(⟨⟨key, ⟨⟨t.Count, t.Client⟩, true, false, ⟨none, 0, 0⟩⟩⟩, ⟨#[]⟩⟩ : Ce)])[i]!.c.e.Data.n, (C ++ [(⟨⟨key, ⟨⟨t.Count, t.Client⟩, true, false, ⟨none, 0, 0⟩⟩⟩, ⟨#[]⟩⟩ : Ce)])[i]!.c.e.Data.c⟩⟩⟩, (C ++ [(⟨⟨key, ⟨⟨t.Count, t.Client⟩, true, false, ⟨none, 0, 0⟩⟩⟩, ⟨#[]⟩⟩ : Ce)])[i]!.d⟩ : Ce)])).symm)] at hp130
          refine OPS.batch 1 {} [] [0, 1, 7, 8, 49, 50, 51] [.pointer (some ⟨sb, 0, none⟩), .string key, .pointer (some ⟨g73, 0, none⟩), .slice a127 (no + 1) c128, .slice a50 (n + 1) c51, .int .i64 ((n + 1 : Nat) : Int), .int .i64 (i : Int)] .nil (by kernel_rfl) (fun b133 => ?_)
          refine OPS.nil ?_
          refine blk_n ?_
          refine thn_n ?_
          refine WP.pure {} [] [0, 1, 7, 8, 49, 50, 51] [.pointer (some ⟨sb, 0, none⟩), .string key, .pointer (some ⟨g73, 0, none⟩), .slice a127 (no + 1) c128, .slice a50 (n + 1) c51, .int .i64 ((n + 1 : Nat) : Int), .int .i64 ((i : Int) + 1)] (.cons (show Rng .i64 ((i : Int) + 1) from Rng.i64 (by omega)) .nil) (by kernel_rfl) (fun b134 => ?_)
          refine thn_n ?_
          exact ⟨(C ++ [(⟨⟨key, ⟨⟨t.Count, t.Client⟩, true, false, ⟨none, 0, 0⟩⟩⟩, ⟨#[]⟩⟩ : Ce)]).length - (i + 1), (by omega), i + 1, xs ++ [(⟨⟨(C ++ [(⟨⟨key, ⟨⟨t.Count, t.Client⟩, true, false, ⟨none, 0, 0⟩⟩⟩, ⟨#[]⟩⟩ : Ce)])[i]!.c.key, ⟨⟨(C ++ [(⟨⟨key, ⟨⟨t.Count, t.Client⟩, true, false, ⟨none, 0, 0⟩⟩⟩, ⟨#[]⟩⟩ : Ce)])[i]!.c.e.Tag.Count, (C ++ [(⟨⟨key, ⟨⟨t.Count, t.Client⟩, true, false, ⟨none, 0, 0⟩⟩⟩, ⟨#[]⟩⟩ : Ce)])[i]!.c.e.Tag.Client⟩, (C ++ [(⟨⟨key, ⟨⟨t.Count, t.Client⟩, true, false, ⟨none, 0, 0⟩⟩⟩, ⟨#[]⟩⟩ : Ce)])[i]!.c.e.Fin, (C ++ [(⟨⟨key, ⟨⟨t.Count, t.Client⟩, true, false, ⟨none, 0, 0⟩⟩⟩, ⟨#[]⟩⟩ : Ce)])[i]!.c.e.Has, ⟨(C ++ [(⟨⟨key, ⟨⟨t.Count, t.Client⟩, true, false, ⟨none, 0, 0⟩⟩⟩, ⟨#[]⟩⟩ : Ce)])[i]!.c.e.Data.a, (C ++ [(⟨⟨key, ⟨⟨t.Count, t.Client⟩, true, false, ⟨none, 0, 0⟩⟩⟩, ⟨#[]⟩⟩ : Ce)])[i]!.c.e.Data.n, (C ++ [(⟨⟨key, ⟨⟨t.Count, t.Client⟩, true, false, ⟨none, 0, 0⟩⟩⟩, ⟨#[]⟩⟩ : Ce)])[i]!.c.e.Data.c⟩⟩⟩, (C ++ [(⟨⟨key, ⟨⟨t.Count, t.Client⟩, true, false, ⟨none, 0, 0⟩⟩⟩, ⟨#[]⟩⟩ : Ce)])[i]!.d⟩ : Ce)], a127, no + 1, c128, rfl, ⟨by omega, by rw [List.length_append, List.length_singleton]; omega, (congrArg (fun z => z ++ [(C ++ [(⟨⟨key, ⟨⟨t.Count, t.Client⟩, true, false, ⟨none, 0, 0⟩⟩⟩, ⟨#[]⟩⟩ : Ce)])[i]!]) pc).trans (left_keep (by omega) (by have h_ := h120; first | exact h_ | (simpa using h_) | grind | (simp_all; done)))⟩, by kernel_rfl, (hp130.sub (.cons _ (.cons _ (.cons_cons _ (.cons_cons _ (.cons_cons _ (.cons_cons _ (.cons_cons _ (.cons_cons _ (.cons_cons _ (.refl _)))))))))))⟩
        · refine WP.skip ?_
          refine blk_n ?_
          refine thn_n ?_
          refine WP.pure {} [] [0, 1, 7, 8, 49, 50, 51] [.pointer (some ⟨sb, 0, none⟩), .string key, .pointer (some ⟨g73, 0, none⟩), .slice ao no co, .slice a50 (n + 1) c51, .int .i64 ((n + 1 : Nat) : Int), .int .i64 ((i : Int) + 1)] (.cons (show Rng .i64 ((i : Int) + 1) from Rng.i64 (by omega)) .nil) (by kernel_rfl) (fun b135 => ?_)
          refine thn_n ?_
          exact ⟨(C ++ [(⟨⟨key, ⟨⟨t.Count, t.Client⟩, true, false, ⟨none, 0, 0⟩⟩⟩, ⟨#[]⟩⟩ : Ce)]).length - (i + 1), (by omega), i + 1, xs, ao, no, co, rfl, ⟨by omega, by omega, pc.trans (left_drop (by omega) (by have h_ := h120; first | exact h_ | (simpa using h_) | grind | (simp_all; done)))⟩, by kernel_rfl, (hp116.sub (.cons _ (.cons_cons _ (.cons_cons _ (.cons_cons _ (.cons_cons _ (.cons_cons _ (.cons_cons _ (.cons_cons _ (.refl _))))))))))⟩
      · refine WP.exit ?_
        refine thn_x ?_
        refine thn_x ?_
        refine blk_hit ?_
        refine thn_n ?_
        refine WP.region _ rfl (by kernel_rfl) ?_
        refine OPS.batch 4 {} [] [73, 75] [.slice ao no co, .pointer (some ⟨sb, 1, none⟩)] .nil (by kernel_rfl) (fun b136 => ?_)
        refine OPS.cons (opStep.store2 hp81 rfl [.slice ao no co] [.int .i64 ((dl : Nat) : Int), .slice ao no co] (by kernel_rfl) (fun w137 hp138 => ?_))
        refine OPS.nil ?_
        refine bodyQ.ofN ?_
        refine bodyQ.of _ rfl [] trivial ?_
        exfalso
        omega
    · refine WP.region _ rfl (by kernel_rfl) ?_
      refine OPS.batch 8 {} [.slice a n c] [0, 1, 42] [.pointer (some ⟨sb, 0, none⟩), .string key, .pointer (some ((((adr a).add (k * 6)).add 1).add 2))] (.cons (Ld.row1 (P := Try.prog) (t := 27) (o := 1) (v := .slice a n c) hp33.get0 (by kernel_rfl)) (.cons (show InB (((k : Nat) : Int)) (n) from ⟨by omega, by omega⟩) (.cons ((SlR.own (hp33.get1)).some (by omega)) .nil))) (by kernel_rfl) (fun b139 => ?_)
      have := own_flat (sz := 6) (fun _ => rfl) (by decide) hp33.get1
      try simp only [List.length_set] at this
      refine OPS.cons (opStep.storeOwn1 (k * 6 + 3) hp33 (by exact congrArg (fun z => Value.pointer (some z)) (addr_add2 (adr a) (k * 6) 3)) [.bool true] (by kernel_rfl) (by simp) (show k * 6 + 3 + 1 ≤ n * 6 by omega) (fun w140 hp141 => ?_))
      have hp144 := hp141
      rw [show ow (List.flatMap cC C) (k * 6 + 3) [.bool true] = List.flatMap cC (C.set k (⟨⟨C[k]!.c.key, ⟨⟨C[k]!.c.e.Tag.Count, C[k]!.c.e.Tag.Client⟩, true, C[k]!.c.e.Has, ⟨C[k]!.c.e.Data.a, C[k]!.c.e.Data.n, C[k]!.c.e.Data.c⟩⟩⟩, C[k]!.d⟩ : Ce)) from ow_flat_part (sz := 6) (fun _ => rfl) (show 3 + 1 ≤ 6 by decide) (by first | (omega) | (simp only [List.length_set]; omega)) (⟨⟨C[k]!.c.key, ⟨⟨C[k]!.c.e.Tag.Count, C[k]!.c.e.Tag.Client⟩, true, C[k]!.c.e.Has, ⟨C[k]!.c.e.Data.a, C[k]!.c.e.Data.n, C[k]!.c.e.Data.c⟩⟩⟩, C[k]!.d⟩ : Ce) (by first | rfl | (rw [set_get (by omega), if_pos rfl]; rfl))] at hp144
      refine OPS.nil ?_
      refine thn_n ?_
      refine WP.seq ?_
      refine WP.region _ rfl (by kernel_rfl) ?_
      refine OPS.batch 2 {} [] [0, 1, 43, 44] [.pointer (some ⟨sb, 0, none⟩), .string key, .pointer (some ⟨sb, 0, none⟩), .string key] .nil (by kernel_rfl) (fun b145 => ?_)
      have hp148 := hp144.pull1
      have hp149 := hp148.pull1
      have hlq : (C.set k (⟨⟨C[k]!.c.key, ⟨⟨C[k]!.c.e.Tag.Count, C[k]!.c.e.Tag.Client⟩, true, C[k]!.c.e.Has, ⟨C[k]!.c.e.Data.a, C[k]!.c.e.Data.n, C[k]!.c.e.Data.c⟩⟩⟩, C[k]!.d⟩ : Ce)).length ≤ 1048600 := by first | omega | (simp only [List.length_append, List.length_cons, List.length_nil, List.length_set]; omega)
      refine OPS.cons (opStep.call (some 45) [.pointer (some ⟨sb, 0, none⟩), .string key] (by kernel_rfl) (floD_c sb dl a n c (C.set k (⟨⟨C[k]!.c.key, ⟨⟨C[k]!.c.e.Tag.Count, C[k]!.c.e.Tag.Client⟩, true, C[k]!.c.e.Has, ⟨C[k]!.c.e.Data.a, C[k]!.c.e.Data.n, C[k]!.c.e.Data.c⟩⟩⟩, C[k]!.d⟩ : Ce)) _ (ShH.of hp149) (by first | assumption | omega) key hdl) ?_)
      rintro _ w150 ⟨rfl, hf152⟩
      refine ⟨_, rfl, ?_⟩
      have hp151 := hp149.step hf152
      refine OPS.cons (opStep.alloc hp151 [.int .i64 0, .int .i64 0] (by kernel_rfl) (fun g155 w153 hp154 => ?_))
      refine OPS.cons (opStep.store0 hp154 rfl [.int .i64 ((floD (C.set k (⟨⟨C[k]!.c.key, ⟨⟨C[k]!.c.e.Tag.Count, C[k]!.c.e.Tag.Client⟩, true, C[k]!.c.e.Has, ⟨C[k]!.c.e.Data.a, C[k]!.c.e.Data.n, C[k]!.c.e.Data.c⟩⟩⟩, C[k]!.d⟩ : Ce)) key dl).Count), .int .i64 ((floD (C.set k (⟨⟨C[k]!.c.key, ⟨⟨C[k]!.c.e.Tag.Count, C[k]!.c.e.Tag.Client⟩, true, C[k]!.c.e.Has, ⟨C[k]!.c.e.Data.a, C[k]!.c.e.Data.n, C[k]!.c.e.Data.c⟩⟩⟩, C[k]!.d⟩ : Ce)) key dl).Client)] [.int .i64 ((floD (C.set k (⟨⟨C[k]!.c.key, ⟨⟨C[k]!.c.e.Tag.Count, C[k]!.c.e.Tag.Client⟩, true, C[k]!.c.e.Has, ⟨C[k]!.c.e.Data.a, C[k]!.c.e.Data.n, C[k]!.c.e.Data.c⟩⟩⟩, C[k]!.d⟩ : Ce)) key dl).Count), .int .i64 ((floD (C.set k (⟨⟨C[k]!.c.key, ⟨⟨C[k]!.c.e.Tag.Count, C[k]!.c.e.Tag.Client⟩, true, C[k]!.c.e.Has, ⟨C[k]!.c.e.Data.a, C[k]!.c.e.Data.n, C[k]!.c.e.Data.c⟩⟩⟩, C[k]!.d⟩ : Ce)) key dl).Client)] (by kernel_rfl) (fun w156 hp157 => ?_))
      refine OPS.nil ?_
      refine thn_n ?_
      refine WP.seq ?_
      refine WP.pure {} [] [0, 1, 7, 8] [.pointer (some ⟨sb, 0, none⟩), .string key, .pointer (some ⟨g155, 0, none⟩), .slice none 0 0] .nil (by kernel_rfl) (fun b158 => ?_)
      refine thn_n ?_
      refine WP.seq ?_
      refine WP.seq ?_
      refine WP.pure {} [.slice a n c] [0, 1, 7, 8, 49, 50, 51] [.pointer (some ⟨sb, 0, none⟩), .string key, .pointer (some ⟨g155, 0, none⟩), .slice none 0 0, .slice a n c, .int .i64 ((n : Nat) : Int), .int .i64 0] (.cons (Ld.row1 (P := Try.prog) (t := 27) (o := 1) (v := .slice a n c) hp157.get1 (by kernel_rfl)) .nil) (by kernel_rfl) (fun b159 => ?_)
      refine thn_n ?_
      refine WP.block ?_
      have hp160 := (show Hp w0 Non (Res.own 66 6 (.slice none 0 0) 0 (List.flatMap cC ([] : List Ce)) :: Res.row g155 [.int .i64 ((floD (C.set k (⟨⟨C[k]!.c.key, ⟨⟨C[k]!.c.e.Tag.Count, C[k]!.c.e.Tag.Client⟩, true, C[k]!.c.e.Has, ⟨C[k]!.c.e.Data.a, C[k]!.c.e.Data.n, C[k]!.c.e.Data.c⟩⟩⟩, C[k]!.d⟩ : Ce)) key dl).Count), .int .i64 ((floD (C.set k (⟨⟨C[k]!.c.key, ⟨⟨C[k]!.c.e.Tag.Count, C[k]!.c.e.Tag.Client⟩, true, C[k]!.c.e.Has, ⟨C[k]!.c.e.Data.a, C[k]!.c.e.Data.n, C[k]!.c.e.Data.c⟩⟩⟩, C[k]!.d⟩ : Ce)) key dl).Client)] 31 :: Res.row sb [.int .i64 ((dl : Nat) : Int), .slice a n c] 29 :: Res.own 66 6 (.slice a n c) n (List.flatMap cC (C.set k (⟨⟨C[k]!.c.key, ⟨⟨C[k]!.c.e.Tag.Count, C[k]!.c.e.Tag.Client⟩, true, C[k]!.c.e.Has, ⟨C[k]!.c.e.Data.a, C[k]!.c.e.Data.n, C[k]!.c.e.Data.c⟩⟩⟩, C[k]!.d⟩ : Ce))) :: Res.row g3 [.int .i64 t.Count, .int .i64 t.Client] 31 :: Res.dat F D :: L) w156 from hp157.nilOwn 66 6)
      have hlc := own_flat (f := cC) (sz := 6) (fun _ => rfl) (by decide) hp160.get3
      refine WP.loop (fun mz_ e161 w162 => ∃ (i : Nat) (xs : List Ce) (ao : Option Addr) (no : Nat) (co : Nat), mz_ = (C.set k (⟨⟨C[k]!.c.key, ⟨⟨C[k]!.c.e.Tag.Count, C[k]!.c.e.Tag.Client⟩, true, C[k]!.c.e.Has, ⟨C[k]!.c.e.Data.a, C[k]!.c.e.Data.n, C[k]!.c.e.Data.c⟩⟩⟩, C[k]!.d⟩ : Ce)).length - i ∧ (i ≤ (C.set k (⟨⟨C[k]!.c.key, ⟨⟨C[k]!.c.e.Tag.Count, C[k]!.c.e.Tag.Client⟩, true, C[k]!.c.e.Has, ⟨C[k]!.c.e.Data.a, C[k]!.c.e.Data.n, C[k]!.c.e.Data.c⟩⟩⟩, C[k]!.d⟩ : Ce)).length ∧ xs.length ≤ i ∧ xs = leftC ((C.set k (⟨⟨C[k]!.c.key, ⟨⟨C[k]!.c.e.Tag.Count, C[k]!.c.e.Tag.Client⟩, true, C[k]!.c.e.Has, ⟨C[k]!.c.e.Data.a, C[k]!.c.e.Data.n, C[k]!.c.e.Data.c⟩⟩⟩, C[k]!.d⟩ : Ce)).take i) key (floD (C.set k (⟨⟨C[k]!.c.key, ⟨⟨C[k]!.c.e.Tag.Count, C[k]!.c.e.Tag.Client⟩, true, C[k]!.c.e.Has, ⟨C[k]!.c.e.Data.a, C[k]!.c.e.Data.n, C[k]!.c.e.Data.c⟩⟩⟩, C[k]!.d⟩ : Ce)) key dl)) ∧ List.map e161 [0, 1, 7, 8, 49, 50, 51] = [.pointer (some ⟨sb, 0, none⟩), .string key, .pointer (some ⟨g155, 0, none⟩), .slice ao no co, .slice a n c, .int .i64 ((n : Nat) : Int), .int .i64 (i : Int)] ∧ Hp w0 Non (Res.own 66 6 (.slice ao no co) no (List.flatMap cC xs) :: Res.row g155 [.int .i64 ((floD (C.set k (⟨⟨C[k]!.c.key, ⟨⟨C[k]!.c.e.Tag.Count, C[k]!.c.e.Tag.Client⟩, true, C[k]!.c.e.Has, ⟨C[k]!.c.e.Data.a, C[k]!.c.e.Data.n, C[k]!.c.e.Data.c⟩⟩⟩, C[k]!.d⟩ : Ce)) key dl).Count), .int .i64 ((floD (C.set k (⟨⟨C[k]!.c.key, ⟨⟨C[k]!.c.e.Tag.Count, C[k]!.c.e.Tag.Client⟩, true, C[k]!.c.e.Has, ⟨C[k]!.c.e.Data.a, C[k]!.c.e.Data.n, C[k]!.c.e.Data.c⟩⟩⟩, C[k]!.d⟩ : Ce)) key dl).Client)] 31 :: Res.row sb [.int .i64 ((dl : Nat) : Int), .slice a n c] 29 :: Res.own 66 6 (.slice a n c) n (List.flatMap cC (C.set k (⟨⟨C[k]!.c.key, ⟨⟨C[k]!.c.e.Tag.Count, C[k]!.c.e.Tag.Client⟩, true, C[k]!.c.e.Has, ⟨C[k]!.c.e.Data.a, C[k]!.c.e.Data.n, C[k]!.c.e.Data.c⟩⟩⟩, C[k]!.d⟩ : Ce))) :: Res.row g3 [.int .i64 t.Count, .int .i64 t.Client] 31 :: Res.dat F D :: L) w162) ((C.set k (⟨⟨C[k]!.c.key, ⟨⟨C[k]!.c.e.Tag.Count, C[k]!.c.e.Tag.Client⟩, true, C[k]!.c.e.Has, ⟨C[k]!.c.e.Data.a, C[k]!.c.e.Data.n, C[k]!.c.e.Data.c⟩⟩⟩, C[k]!.d⟩ : Ce)).length - (0)) ⟨0, [], none, 0, 0, rfl, ⟨Nat.zero_le _, Nat.le_refl _, rfl⟩, by kernel_rfl, hp160⟩ ?_
      rintro _ e161 w162 ⟨i, xs, ao, no, co, rfl, hI164, hE165, hp163⟩
      obtain ⟨b166, rfl⟩ := toMk hE165
      clear hE165
      obtain ⟨pa, pb, pc⟩ := hI164
      have pe := own_flat (f := cC) (sz := 6) (fun _ => rfl) (by decide) hp163.get0
      refine WP.seq ?_
      refine WP.pure {} [] [0, 1, 7, 8, 49, 50, 51, 52] [.pointer (some ⟨sb, 0, none⟩), .string key, .pointer (some ⟨g155, 0, none⟩), .slice ao no co, .slice a n c, .int .i64 ((n : Nat) : Int), .int .i64 (i : Int), .bool (decide ((i : Int) < ((n : Nat) : Int)))] .nil (by kernel_rfl) (fun b167 => ?_)
      refine thn_n ?_
      refine WP.seq ?_
      refine WP.test (p := (i : Int) < ((n : Nat) : Int)) rfl Bp.dec (fun h168 => ?_) (fun h168 => ?_)
      · refine WP.skip ?_
        refine thn_n ?_
        refine WP.seq ?_
        refine WP.block ?_
        refine WP.seq ?_
        refine WP.region _ rfl (by kernel_rfl) ?_
        have := own_flat (sz := 6) (fun _ => rfl) (by decide) hp163.get3
        have hy172 : (C.set k (⟨⟨C[k]!.c.key, ⟨⟨C[k]!.c.e.Tag.Count, C[k]!.c.e.Tag.Client⟩, true, C[k]!.c.e.Has, ⟨C[k]!.c.e.Data.a, C[k]!.c.e.Data.n, C[k]!.c.e.Data.c⟩⟩⟩, C[k]!.d⟩ : Ce))[i]? = some (C.set k (⟨⟨C[k]!.c.key, ⟨⟨C[k]!.c.e.Tag.Count, C[k]!.c.e.Tag.Client⟩, true, C[k]!.c.e.Has, ⟨C[k]!.c.e.Data.a, C[k]!.c.e.Data.n, C[k]!.c.e.Data.c⟩⟩⟩, C[k]!.d⟩ : Ce))[i]! := get_bang (by first | (omega) | (simp only [List.length_append, List.length_cons, List.length_nil]; omega) | (simp only [List.length_take, List.length_append, List.length_cons, List.length_nil]; omega))
        refine OPS.batch 2 {} [Gsherdtop_cell.val ((C.set k (⟨⟨C[k]!.c.key, ⟨⟨C[k]!.c.e.Tag.Count, C[k]!.c.e.Tag.Client⟩, true, C[k]!.c.e.Has, ⟨C[k]!.c.e.Data.a, C[k]!.c.e.Data.n, C[k]!.c.e.Data.c⟩⟩⟩, C[k]!.d⟩ : Ce))[i]!.c)] [0, 1, 7, 8, 49, 50, 51, 54] [.pointer (some ⟨sb, 0, none⟩), .string key, .pointer (some ⟨g155, 0, none⟩), .slice ao no co, .slice a n c, .int .i64 ((n : Nat) : Int), .int .i64 (i : Int), Gsherdtop_cell.val ((C.set k (⟨⟨C[k]!.c.key, ⟨⟨C[k]!.c.e.Tag.Count, C[k]!.c.e.Tag.Client⟩, true, C[k]!.c.e.Has, ⟨C[k]!.c.e.Data.a, C[k]!.c.e.Data.n, C[k]!.c.e.Data.c⟩⟩⟩, C[k]!.d⟩ : Ce))[i]!.c)] (.cons (show InB ((i : Int)) (n) from ⟨by omega, by omega⟩) (.cons ((SlR.own (hp163.get3)).some (by omega)) (.cons (Ld.add0 (Ld.elN (P := Try.prog) (t := 66) (SlR.own (hp163.get3)).rd 6 (fun _ => rfl) hy172 (o := 0) (cs := [.string ((C.set k (⟨⟨C[k]!.c.key, ⟨⟨C[k]!.c.e.Tag.Count, C[k]!.c.e.Tag.Client⟩, true, C[k]!.c.e.Has, ⟨C[k]!.c.e.Data.a, C[k]!.c.e.Data.n, C[k]!.c.e.Data.c⟩⟩⟩, C[k]!.d⟩ : Ce))[i]!.c.key), .int .i64 ((C.set k (⟨⟨C[k]!.c.key, ⟨⟨C[k]!.c.e.Tag.Count, C[k]!.c.e.Tag.Client⟩, true, C[k]!.c.e.Has, ⟨C[k]!.c.e.Data.a, C[k]!.c.e.Data.n, C[k]!.c.e.Data.c⟩⟩⟩, C[k]!.d⟩ : Ce))[i]!.c.e.Tag.Count), .int .i64 ((C.set k (⟨⟨C[k]!.c.key, ⟨⟨C[k]!.c.e.Tag.Count, C[k]!.c.e.Tag.Client⟩, true, C[k]!.c.e.Has, ⟨C[k]!.c.e.Data.a, C[k]!.c.e.Data.n, C[k]!.c.e.Data.c⟩⟩⟩, C[k]!.d⟩ : Ce))[i]!.c.e.Tag.Client), .bool ((C.set k (⟨⟨C[k]!.c.key, ⟨⟨C[k]!.c.e.Tag.Count, C[k]!.c.e.Tag.Client⟩, true, C[k]!.c.e.Has, ⟨C[k]!.c.e.Data.a, C[k]!.c.e.Data.n, C[k]!.c.e.Data.c⟩⟩⟩, C[k]!.d⟩ : Ce))[i]!.c.e.Fin), .bool ((C.set k (⟨⟨C[k]!.c.key, ⟨⟨C[k]!.c.e.Tag.Count, C[k]!.c.e.Tag.Client⟩, true, C[k]!.c.e.Has, ⟨C[k]!.c.e.Data.a, C[k]!.c.e.Data.n, C[k]!.c.e.Data.c⟩⟩⟩, C[k]!.d⟩ : Ce))[i]!.c.e.Has), .slice ((C.set k (⟨⟨C[k]!.c.key, ⟨⟨C[k]!.c.e.Tag.Count, C[k]!.c.e.Tag.Client⟩, true, C[k]!.c.e.Has, ⟨C[k]!.c.e.Data.a, C[k]!.c.e.Data.n, C[k]!.c.e.Data.c⟩⟩⟩, C[k]!.d⟩ : Ce))[i]!.c.e.Data.a) ((C.set k (⟨⟨C[k]!.c.key, ⟨⟨C[k]!.c.e.Tag.Count, C[k]!.c.e.Tag.Client⟩, true, C[k]!.c.e.Has, ⟨C[k]!.c.e.Data.a, C[k]!.c.e.Data.n, C[k]!.c.e.Data.c⟩⟩⟩, C[k]!.d⟩ : Ce))[i]!.c.e.Data.n) ((C.set k (⟨⟨C[k]!.c.key, ⟨⟨C[k]!.c.e.Tag.Count, C[k]!.c.e.Tag.Client⟩, true, C[k]!.c.e.Has, ⟨C[k]!.c.e.Data.a, C[k]!.c.e.Data.n, C[k]!.c.e.Data.c⟩⟩⟩, C[k]!.d⟩ : Ce))[i]!.c.e.Data.c)]) (by kernel_rfl))) .nil))) (by kernel_rfl) (fun b173 => ?_)
        refine OPS.cons (opStep.alloc hp163 [.string ByteArray.empty, .int .i64 0, .int .i64 0, .bool false, .bool false, .slice none 0 0] (by kernel_rfl) (fun g176 w174 hp175 => ?_))
        refine OPS.cons (opStep.store0 hp175 rfl [.string ((C.set k (⟨⟨C[k]!.c.key, ⟨⟨C[k]!.c.e.Tag.Count, C[k]!.c.e.Tag.Client⟩, true, C[k]!.c.e.Has, ⟨C[k]!.c.e.Data.a, C[k]!.c.e.Data.n, C[k]!.c.e.Data.c⟩⟩⟩, C[k]!.d⟩ : Ce))[i]!.c.key), .int .i64 ((C.set k (⟨⟨C[k]!.c.key, ⟨⟨C[k]!.c.e.Tag.Count, C[k]!.c.e.Tag.Client⟩, true, C[k]!.c.e.Has, ⟨C[k]!.c.e.Data.a, C[k]!.c.e.Data.n, C[k]!.c.e.Data.c⟩⟩⟩, C[k]!.d⟩ : Ce))[i]!.c.e.Tag.Count), .int .i64 ((C.set k (⟨⟨C[k]!.c.key, ⟨⟨C[k]!.c.e.Tag.Count, C[k]!.c.e.Tag.Client⟩, true, C[k]!.c.e.Has, ⟨C[k]!.c.e.Data.a, C[k]!.c.e.Data.n, C[k]!.c.e.Data.c⟩⟩⟩, C[k]!.d⟩ : Ce))[i]!.c.e.Tag.Client), .bool ((C.set k (⟨⟨C[k]!.c.key, ⟨⟨C[k]!.c.e.Tag.Count, C[k]!.c.e.Tag.Client⟩, true, C[k]!.c.e.Has, ⟨C[k]!.c.e.Data.a, C[k]!.c.e.Data.n, C[k]!.c.e.Data.c⟩⟩⟩, C[k]!.d⟩ : Ce))[i]!.c.e.Fin), .bool ((C.set k (⟨⟨C[k]!.c.key, ⟨⟨C[k]!.c.e.Tag.Count, C[k]!.c.e.Tag.Client⟩, true, C[k]!.c.e.Has, ⟨C[k]!.c.e.Data.a, C[k]!.c.e.Data.n, C[k]!.c.e.Data.c⟩⟩⟩, C[k]!.d⟩ : Ce))[i]!.c.e.Has), .slice ((C.set k (⟨⟨C[k]!.c.key, ⟨⟨C[k]!.c.e.Tag.Count, C[k]!.c.e.Tag.Client⟩, true, C[k]!.c.e.Has, ⟨C[k]!.c.e.Data.a, C[k]!.c.e.Data.n, C[k]!.c.e.Data.c⟩⟩⟩, C[k]!.d⟩ : Ce))[i]!.c.e.Data.a) ((C.set k (⟨⟨C[k]!.c.key, ⟨⟨C[k]!.c.e.Tag.Count, C[k]!.c.e.Tag.Client⟩, true, C[k]!.c.e.Has, ⟨C[k]!.c.e.Data.a, C[k]!.c.e.Data.n, C[k]!.c.e.Data.c⟩⟩⟩, C[k]!.d⟩ : Ce))[i]!.c.e.Data.n) ((C.set k (⟨⟨C[k]!.c.key, ⟨⟨C[k]!.c.e.Tag.Count, C[k]!.c.e.Tag.Client⟩, true, C[k]!.c.e.Has, ⟨C[k]!.c.e.Data.a, C[k]!.c.e.Data.n, C[k]!.c.e.Data.c⟩⟩⟩, C[k]!.d⟩ : Ce))[i]!.c.e.Data.c)] [.string ((C.set k (⟨⟨C[k]!.c.key, ⟨⟨C[k]!.c.e.Tag.Count, C[k]!.c.e.Tag.Client⟩, true, C[k]!.c.e.Has, ⟨C[k]!.c.e.Data.a, C[k]!.c.e.Data.n, C[k]!.c.e.Data.c⟩⟩⟩, C[k]!.d⟩ : Ce))[i]!.c.key), .int .i64 ((C.set k (⟨⟨C[k]!.c.key, ⟨⟨C[k]!.c.e.Tag.Count, C[k]!.c.e.Tag.Client⟩, true, C[k]!.c.e.Has, ⟨C[k]!.c.e.Data.a, C[k]!.c.e.Data.n, C[k]!.c.e.Data.c⟩⟩⟩, C[k]!.d⟩ : Ce))[i]!.c.e.Tag.Count), .int .i64 ((C.set k (⟨⟨C[k]!.c.key, ⟨⟨C[k]!.c.e.Tag.Count, C[k]!.c.e.Tag.Client⟩, true, C[k]!.c.e.Has, ⟨C[k]!.c.e.Data.a, C[k]!.c.e.Data.n, C[k]!.c.e.Data.c⟩⟩⟩, C[k]!.d⟩ : Ce))[i]!.c.e.Tag.Client), .bool ((C.set k (⟨⟨C[k]!.c.key, ⟨⟨C[k]!.c.e.Tag.Count, C[k]!.c.e.Tag.Client⟩, true, C[k]!.c.e.Has, ⟨C[k]!.c.e.Data.a, C[k]!.c.e.Data.n, C[k]!.c.e.Data.c⟩⟩⟩, C[k]!.d⟩ : Ce))[i]!.c.e.Fin), .bool ((C.set k (⟨⟨C[k]!.c.key, ⟨⟨C[k]!.c.e.Tag.Count, C[k]!.c.e.Tag.Client⟩, true, C[k]!.c.e.Has, ⟨C[k]!.c.e.Data.a, C[k]!.c.e.Data.n, C[k]!.c.e.Data.c⟩⟩⟩, C[k]!.d⟩ : Ce))[i]!.c.e.Has), .slice ((C.set k (⟨⟨C[k]!.c.key, ⟨⟨C[k]!.c.e.Tag.Count, C[k]!.c.e.Tag.Client⟩, true, C[k]!.c.e.Has, ⟨C[k]!.c.e.Data.a, C[k]!.c.e.Data.n, C[k]!.c.e.Data.c⟩⟩⟩, C[k]!.d⟩ : Ce))[i]!.c.e.Data.a) ((C.set k (⟨⟨C[k]!.c.key, ⟨⟨C[k]!.c.e.Tag.Count, C[k]!.c.e.Tag.Client⟩, true, C[k]!.c.e.Has, ⟨C[k]!.c.e.Data.a, C[k]!.c.e.Data.n, C[k]!.c.e.Data.c⟩⟩⟩, C[k]!.d⟩ : Ce))[i]!.c.e.Data.n) ((C.set k (⟨⟨C[k]!.c.key, ⟨⟨C[k]!.c.e.Tag.Count, C[k]!.c.e.Tag.Client⟩, true, C[k]!.c.e.Has, ⟨C[k]!.c.e.Data.a, C[k]!.c.e.Data.n, C[k]!.c.e.Data.c⟩⟩⟩, C[k]!.d⟩ : Ce))[i]!.c.e.Data.c)] (by kernel_rfl) (fun w177 hp178 => ?_))
        refine OPS.nil ?_
        refine thn_n ?_
        refine WP.cut (fun e196 w197 => ∃ (x194 : Bool), (True) ∧ Bp x194 (((¬ (((C.set k (⟨⟨C[k]!.c.key, ⟨⟨C[k]!.c.e.Tag.Count, C[k]!.c.e.Tag.Client⟩, true, C[k]!.c.e.Has, ⟨C[k]!.c.e.Data.a, C[k]!.c.e.Data.n, C[k]!.c.e.Data.c⟩⟩⟩, C[k]!.d⟩ : Ce))[i]!.c.key) = key))) ∨ ((((C.set k (⟨⟨C[k]!.c.key, ⟨⟨C[k]!.c.e.Tag.Count, C[k]!.c.e.Tag.Client⟩, true, C[k]!.c.e.Has, ⟨C[k]!.c.e.Data.a, C[k]!.c.e.Data.n, C[k]!.c.e.Data.c⟩⟩⟩, C[k]!.d⟩ : Ce))[i]!.c.key) = key) ∧ (¬ (tlt (C.set k (⟨⟨C[k]!.c.key, ⟨⟨C[k]!.c.e.Tag.Count, C[k]!.c.e.Tag.Client⟩, true, C[k]!.c.e.Has, ⟨C[k]!.c.e.Data.a, C[k]!.c.e.Data.n, C[k]!.c.e.Data.c⟩⟩⟩, C[k]!.d⟩ : Ce))[i]!.c.e.Tag (floD (C.set k (⟨⟨C[k]!.c.key, ⟨⟨C[k]!.c.e.Tag.Count, C[k]!.c.e.Tag.Client⟩, true, C[k]!.c.e.Has, ⟨C[k]!.c.e.Data.a, C[k]!.c.e.Data.n, C[k]!.c.e.Data.c⟩⟩⟩, C[k]!.d⟩ : Ce)) key dl))))) ∧ List.map e196 [0, 1, 7, 8, 10, 49, 50, 51, 66] = [.pointer (some ⟨sb, 0, none⟩), .string key, .pointer (some ⟨g155, 0, none⟩), .slice ao no co, .pointer (some ⟨g176, 0, none⟩), .slice a n c, .int .i64 ((n : Nat) : Int), .int .i64 (i : Int), .bool x194] ∧ Hp w0 Non (Res.row g176 [.string ((C.set k (⟨⟨C[k]!.c.key, ⟨⟨C[k]!.c.e.Tag.Count, C[k]!.c.e.Tag.Client⟩, true, C[k]!.c.e.Has, ⟨C[k]!.c.e.Data.a, C[k]!.c.e.Data.n, C[k]!.c.e.Data.c⟩⟩⟩, C[k]!.d⟩ : Ce))[i]!.c.key), .int .i64 ((C.set k (⟨⟨C[k]!.c.key, ⟨⟨C[k]!.c.e.Tag.Count, C[k]!.c.e.Tag.Client⟩, true, C[k]!.c.e.Has, ⟨C[k]!.c.e.Data.a, C[k]!.c.e.Data.n, C[k]!.c.e.Data.c⟩⟩⟩, C[k]!.d⟩ : Ce))[i]!.c.e.Tag.Count), .int .i64 ((C.set k (⟨⟨C[k]!.c.key, ⟨⟨C[k]!.c.e.Tag.Count, C[k]!.c.e.Tag.Client⟩, true, C[k]!.c.e.Has, ⟨C[k]!.c.e.Data.a, C[k]!.c.e.Data.n, C[k]!.c.e.Data.c⟩⟩⟩, C[k]!.d⟩ : Ce))[i]!.c.e.Tag.Client), .bool ((C.set k (⟨⟨C[k]!.c.key, ⟨⟨C[k]!.c.e.Tag.Count, C[k]!.c.e.Tag.Client⟩, true, C[k]!.c.e.Has, ⟨C[k]!.c.e.Data.a, C[k]!.c.e.Data.n, C[k]!.c.e.Data.c⟩⟩⟩, C[k]!.d⟩ : Ce))[i]!.c.e.Fin), .bool ((C.set k (⟨⟨C[k]!.c.key, ⟨⟨C[k]!.c.e.Tag.Count, C[k]!.c.e.Tag.Client⟩, true, C[k]!.c.e.Has, ⟨C[k]!.c.e.Data.a, C[k]!.c.e.Data.n, C[k]!.c.e.Data.c⟩⟩⟩, C[k]!.d⟩ : Ce))[i]!.c.e.Has), .slice ((C.set k (⟨⟨C[k]!.c.key, ⟨⟨C[k]!.c.e.Tag.Count, C[k]!.c.e.Tag.Client⟩, true, C[k]!.c.e.Has, ⟨C[k]!.c.e.Data.a, C[k]!.c.e.Data.n, C[k]!.c.e.Data.c⟩⟩⟩, C[k]!.d⟩ : Ce))[i]!.c.e.Data.a) ((C.set k (⟨⟨C[k]!.c.key, ⟨⟨C[k]!.c.e.Tag.Count, C[k]!.c.e.Tag.Client⟩, true, C[k]!.c.e.Has, ⟨C[k]!.c.e.Data.a, C[k]!.c.e.Data.n, C[k]!.c.e.Data.c⟩⟩⟩, C[k]!.d⟩ : Ce))[i]!.c.e.Data.n) ((C.set k (⟨⟨C[k]!.c.key, ⟨⟨C[k]!.c.e.Tag.Count, C[k]!.c.e.Tag.Client⟩, true, C[k]!.c.e.Has, ⟨C[k]!.c.e.Data.a, C[k]!.c.e.Data.n, C[k]!.c.e.Data.c⟩⟩⟩, C[k]!.d⟩ : Ce))[i]!.c.e.Data.c)] 66 :: Res.own 66 6 (.slice ao no co) no (List.flatMap cC xs) :: Res.row g155 [.int .i64 ((floD (C.set k (⟨⟨C[k]!.c.key, ⟨⟨C[k]!.c.e.Tag.Count, C[k]!.c.e.Tag.Client⟩, true, C[k]!.c.e.Has, ⟨C[k]!.c.e.Data.a, C[k]!.c.e.Data.n, C[k]!.c.e.Data.c⟩⟩⟩, C[k]!.d⟩ : Ce)) key dl).Count), .int .i64 ((floD (C.set k (⟨⟨C[k]!.c.key, ⟨⟨C[k]!.c.e.Tag.Count, C[k]!.c.e.Tag.Client⟩, true, C[k]!.c.e.Has, ⟨C[k]!.c.e.Data.a, C[k]!.c.e.Data.n, C[k]!.c.e.Data.c⟩⟩⟩, C[k]!.d⟩ : Ce)) key dl).Client)] 31 :: Res.row sb [.int .i64 ((dl : Nat) : Int), .slice a n c] 29 :: Res.own 66 6 (.slice a n c) n (List.flatMap cC (C.set k (⟨⟨C[k]!.c.key, ⟨⟨C[k]!.c.e.Tag.Count, C[k]!.c.e.Tag.Client⟩, true, C[k]!.c.e.Has, ⟨C[k]!.c.e.Data.a, C[k]!.c.e.Data.n, C[k]!.c.e.Data.c⟩⟩⟩, C[k]!.d⟩ : Ce))) :: Res.row g3 [.int .i64 t.Count, .int .i64 t.Client] 31 :: Res.dat F D :: L) w197) ?_ ?_
        · refine WP.region _ rfl (by kernel_rfl) ?_
          refine OPS.batch 5 {} [.string ((C.set k (⟨⟨C[k]!.c.key, ⟨⟨C[k]!.c.e.Tag.Count, C[k]!.c.e.Tag.Client⟩, true, C[k]!.c.e.Has, ⟨C[k]!.c.e.Data.a, C[k]!.c.e.Data.n, C[k]!.c.e.Data.c⟩⟩⟩, C[k]!.d⟩ : Ce))[i]!.c.key)] [0, 1, 7, 8, 10, 49, 50, 51, 59] [.pointer (some ⟨sb, 0, none⟩), .string key, .pointer (some ⟨g155, 0, none⟩), .slice ao no co, .pointer (some ⟨g176, 0, none⟩), .slice a n c, .int .i64 ((n : Nat) : Int), .int .i64 (i : Int), .bool (decide (¬ (((C.set k (⟨⟨C[k]!.c.key, ⟨⟨C[k]!.c.e.Tag.Count, C[k]!.c.e.Tag.Client⟩, true, C[k]!.c.e.Has, ⟨C[k]!.c.e.Data.a, C[k]!.c.e.Data.n, C[k]!.c.e.Data.c⟩⟩⟩, C[k]!.d⟩ : Ce))[i]!.c.key) = key)))] (.cons (Ld.row1 (P := Try.prog) (t := 9) (o := 0) (v := .string ((C.set k (⟨⟨C[k]!.c.key, ⟨⟨C[k]!.c.e.Tag.Count, C[k]!.c.e.Tag.Client⟩, true, C[k]!.c.e.Has, ⟨C[k]!.c.e.Data.a, C[k]!.c.e.Data.n, C[k]!.c.e.Data.c⟩⟩⟩, C[k]!.d⟩ : Ce))[i]!.c.key)) hp178.get0 (by kernel_rfl)) .nil) (by kernel_rfl) (fun b180 => ?_)
          by_cases h181 : ((C.set k (⟨⟨C[k]!.c.key, ⟨⟨C[k]!.c.e.Tag.Count, C[k]!.c.e.Tag.Client⟩, true, C[k]!.c.e.Has, ⟨C[k]!.c.e.Data.a, C[k]!.c.e.Data.n, C[k]!.c.e.Data.c⟩⟩⟩, C[k]!.d⟩ : Ce))[i]!.c.key) = key
          · refine OPS.batch 0 {} [] [0, 1, 7, 8, 10, 49, 50, 51, 59] [.pointer (some ⟨sb, 0, none⟩), .string key, .pointer (some ⟨g155, 0, none⟩), .slice ao no co, .pointer (some ⟨g176, 0, none⟩), .slice a n c, .int .i64 ((n : Nat) : Int), .int .i64 (i : Int), .bool (decide (¬ (((C.set k (⟨⟨C[k]!.c.key, ⟨⟨C[k]!.c.e.Tag.Count, C[k]!.c.e.Tag.Client⟩, true, C[k]!.c.e.Has, ⟨C[k]!.c.e.Data.a, C[k]!.c.e.Data.n, C[k]!.c.e.Data.c⟩⟩⟩, C[k]!.d⟩ : Ce))[i]!.c.key) = key)))] .nil (by kernel_rfl) (fun b184 => ?_)
            refine OPS.re [.pointer (some ⟨sb, 0, none⟩), .string key, .pointer (some ⟨g155, 0, none⟩), .slice ao no co, .pointer (some ⟨g176, 0, none⟩), .slice a n c, .int .i64 ((n : Nat) : Int), .int .i64 (i : Int), .bool false] (by rw [show (decide (¬ (((C.set k (⟨⟨C[k]!.c.key, ⟨⟨C[k]!.c.e.Tag.Count, C[k]!.c.e.Tag.Client⟩, true, C[k]!.c.e.Has, ⟨C[k]!.c.e.Data.a, C[k]!.c.e.Data.n, C[k]!.c.e.Data.c⟩⟩⟩, C[k]!.d⟩ : Ce))[i]!.c.key) = key))) = false from Bp.dec.ff (fun k => k h181)]) ?_
            refine OPS.batch 4 {} [.agg #[.int .i64 ((C.set k (⟨⟨C[k]!.c.key, ⟨⟨C[k]!.c.e.Tag.Count, C[k]!.c.e.Tag.Client⟩, true, C[k]!.c.e.Has, ⟨C[k]!.c.e.Data.a, C[k]!.c.e.Data.n, C[k]!.c.e.Data.c⟩⟩⟩, C[k]!.d⟩ : Ce))[i]!.c.e.Tag.Count), .int .i64 ((C.set k (⟨⟨C[k]!.c.key, ⟨⟨C[k]!.c.e.Tag.Count, C[k]!.c.e.Tag.Client⟩, true, C[k]!.c.e.Has, ⟨C[k]!.c.e.Data.a, C[k]!.c.e.Data.n, C[k]!.c.e.Data.c⟩⟩⟩, C[k]!.d⟩ : Ce))[i]!.c.e.Tag.Client)], GTag.val (floD (C.set k (⟨⟨C[k]!.c.key, ⟨⟨C[k]!.c.e.Tag.Count, C[k]!.c.e.Tag.Client⟩, true, C[k]!.c.e.Has, ⟨C[k]!.c.e.Data.a, C[k]!.c.e.Data.n, C[k]!.c.e.Data.c⟩⟩⟩, C[k]!.d⟩ : Ce)) key dl)] [0, 1, 7, 8, 10, 49, 50, 51, 59, 62, 63] [.pointer (some ⟨sb, 0, none⟩), .string key, .pointer (some ⟨g155, 0, none⟩), .slice ao no co, .pointer (some ⟨g176, 0, none⟩), .slice a n c, .int .i64 ((n : Nat) : Int), .int .i64 (i : Int), .bool false, .agg #[.int .i64 ((C.set k (⟨⟨C[k]!.c.key, ⟨⟨C[k]!.c.e.Tag.Count, C[k]!.c.e.Tag.Client⟩, true, C[k]!.c.e.Has, ⟨C[k]!.c.e.Data.a, C[k]!.c.e.Data.n, C[k]!.c.e.Data.c⟩⟩⟩, C[k]!.d⟩ : Ce))[i]!.c.e.Tag.Count), .int .i64 ((C.set k (⟨⟨C[k]!.c.key, ⟨⟨C[k]!.c.e.Tag.Count, C[k]!.c.e.Tag.Client⟩, true, C[k]!.c.e.Has, ⟨C[k]!.c.e.Data.a, C[k]!.c.e.Data.n, C[k]!.c.e.Data.c⟩⟩⟩, C[k]!.d⟩ : Ce))[i]!.c.e.Tag.Client)], GTag.val (floD (C.set k (⟨⟨C[k]!.c.key, ⟨⟨C[k]!.c.e.Tag.Count, C[k]!.c.e.Tag.Client⟩, true, C[k]!.c.e.Has, ⟨C[k]!.c.e.Data.a, C[k]!.c.e.Data.n, C[k]!.c.e.Data.c⟩⟩⟩, C[k]!.d⟩ : Ce)) key dl)] (.cons (show Ld Try.prog w177 31 ⟨g176, 1, none⟩ (.agg #[.int .i64 ((C.set k (⟨⟨C[k]!.c.key, ⟨⟨C[k]!.c.e.Tag.Count, C[k]!.c.e.Tag.Client⟩, true, C[k]!.c.e.Has, ⟨C[k]!.c.e.Data.a, C[k]!.c.e.Data.n, C[k]!.c.e.Data.c⟩⟩⟩, C[k]!.d⟩ : Ce))[i]!.c.e.Tag.Count), .int .i64 ((C.set k (⟨⟨C[k]!.c.key, ⟨⟨C[k]!.c.e.Tag.Count, C[k]!.c.e.Tag.Client⟩, true, C[k]!.c.e.Has, ⟨C[k]!.c.e.Data.a, C[k]!.c.e.Data.n, C[k]!.c.e.Data.c⟩⟩⟩, C[k]!.d⟩ : Ce))[i]!.c.e.Tag.Client)]) from Ld.rowN (cs := [.int .i64 ((C.set k (⟨⟨C[k]!.c.key, ⟨⟨C[k]!.c.e.Tag.Count, C[k]!.c.e.Tag.Client⟩, true, C[k]!.c.e.Has, ⟨C[k]!.c.e.Data.a, C[k]!.c.e.Data.n, C[k]!.c.e.Data.c⟩⟩⟩, C[k]!.d⟩ : Ce))[i]!.c.e.Tag.Count), .int .i64 ((C.set k (⟨⟨C[k]!.c.key, ⟨⟨C[k]!.c.e.Tag.Count, C[k]!.c.e.Tag.Client⟩, true, C[k]!.c.e.Has, ⟨C[k]!.c.e.Data.a, C[k]!.c.e.Data.n, C[k]!.c.e.Data.c⟩⟩⟩, C[k]!.d⟩ : Ce))[i]!.c.e.Tag.Client)]) hp178.get0 (by kernel_rfl)) (.cons (show Ld Try.prog w177 31 ⟨g155, 0, none⟩ (GTag.val (floD (C.set k (⟨⟨C[k]!.c.key, ⟨⟨C[k]!.c.e.Tag.Count, C[k]!.c.e.Tag.Client⟩, true, C[k]!.c.e.Has, ⟨C[k]!.c.e.Data.a, C[k]!.c.e.Data.n, C[k]!.c.e.Data.c⟩⟩⟩, C[k]!.d⟩ : Ce)) key dl)) from Ld.rowN (cs := [.int .i64 ((floD (C.set k (⟨⟨C[k]!.c.key, ⟨⟨C[k]!.c.e.Tag.Count, C[k]!.c.e.Tag.Client⟩, true, C[k]!.c.e.Has, ⟨C[k]!.c.e.Data.a, C[k]!.c.e.Data.n, C[k]!.c.e.Data.c⟩⟩⟩, C[k]!.d⟩ : Ce)) key dl).Count), .int .i64 ((floD (C.set k (⟨⟨C[k]!.c.key, ⟨⟨C[k]!.c.e.Tag.Count, C[k]!.c.e.Tag.Client⟩, true, C[k]!.c.e.Has, ⟨C[k]!.c.e.Data.a, C[k]!.c.e.Data.n, C[k]!.c.e.Data.c⟩⟩⟩, C[k]!.d⟩ : Ce)) key dl).Client)]) hp178.get2 (by kernel_rfl)) .nil)) (by kernel_rfl) (fun b185 => ?_)
            refine OPS.want (by kernel_rfl) ?_
            refine OPS.cons (opStep.call (some 64) [.agg #[.int .i64 ((C.set k (⟨⟨C[k]!.c.key, ⟨⟨C[k]!.c.e.Tag.Count, C[k]!.c.e.Tag.Client⟩, true, C[k]!.c.e.Has, ⟨C[k]!.c.e.Data.a, C[k]!.c.e.Data.n, C[k]!.c.e.Data.c⟩⟩⟩, C[k]!.d⟩ : Ce))[i]!.c.e.Tag.Count), .int .i64 ((C.set k (⟨⟨C[k]!.c.key, ⟨⟨C[k]!.c.e.Tag.Count, C[k]!.c.e.Tag.Client⟩, true, C[k]!.c.e.Has, ⟨C[k]!.c.e.Data.a, C[k]!.c.e.Data.n, C[k]!.c.e.Data.c⟩⟩⟩, C[k]!.d⟩ : Ce))[i]!.c.e.Tag.Client)], GTag.val (floD (C.set k (⟨⟨C[k]!.c.key, ⟨⟨C[k]!.c.e.Tag.Count, C[k]!.c.e.Tag.Client⟩, true, C[k]!.c.e.Has, ⟨C[k]!.c.e.Data.a, C[k]!.c.e.Data.n, C[k]!.c.e.Data.c⟩⟩⟩, C[k]!.d⟩ : Ce)) key dl)] (by kernel_rfl) (before_c (C.set k (⟨⟨C[k]!.c.key, ⟨⟨C[k]!.c.e.Tag.Count, C[k]!.c.e.Tag.Client⟩, true, C[k]!.c.e.Has, ⟨C[k]!.c.e.Data.a, C[k]!.c.e.Data.n, C[k]!.c.e.Data.c⟩⟩⟩, C[k]!.d⟩ : Ce))[i]!.c.e.Tag (floD (C.set k (⟨⟨C[k]!.c.key, ⟨⟨C[k]!.c.e.Tag.Count, C[k]!.c.e.Tag.Client⟩, true, C[k]!.c.e.Has, ⟨C[k]!.c.e.Data.a, C[k]!.c.e.Data.n, C[k]!.c.e.Data.c⟩⟩⟩, C[k]!.d⟩ : Ce)) key dl) _) ?_)
            rintro _ w188 ⟨b191, rfl, hb192, hf189⟩
            refine ⟨_, rfl, ?_⟩
            have hp190 := hp178.step hf189
            refine OPS.batch 2 { wraps := [66] } [] [0, 1, 7, 8, 10, 49, 50, 51, 66] [.pointer (some ⟨sb, 0, none⟩), .string key, .pointer (some ⟨g155, 0, none⟩), .slice ao no co, .pointer (some ⟨g176, 0, none⟩), .slice a n c, .int .i64 ((n : Nat) : Int), .int .i64 (i : Int), .bool (!b191)] .nil (by kernel_rfl) (fun b193 => ?_)
            refine OPS.nil ?_
            refine thn_n ?_
            exact ⟨!b191, trivial, Bp.of (Bp.not hb192) (by first | (simp only [h181, iff_false, false_iff, iff_true, true_iff, Classical.not_not, and_true, true_and, and_false, false_and, or_true, true_or, or_false, false_or, not_true_eq_false, not_false_eq_true, and_self, or_self, iff_self]; done) | (simp [h181]; done) | grind | (simp_all; done)), by kernel_rfl, hp190⟩
          · refine OPS.batch 0 {} [] [0, 1, 7, 8, 10, 49, 50, 51, 59] [.pointer (some ⟨sb, 0, none⟩), .string key, .pointer (some ⟨g155, 0, none⟩), .slice ao no co, .pointer (some ⟨g176, 0, none⟩), .slice a n c, .int .i64 ((n : Nat) : Int), .int .i64 (i : Int), .bool (decide (¬ (((C.set k (⟨⟨C[k]!.c.key, ⟨⟨C[k]!.c.e.Tag.Count, C[k]!.c.e.Tag.Client⟩, true, C[k]!.c.e.Has, ⟨C[k]!.c.e.Data.a, C[k]!.c.e.Data.n, C[k]!.c.e.Data.c⟩⟩⟩, C[k]!.d⟩ : Ce))[i]!.c.key) = key)))] .nil (by kernel_rfl) (fun b182 => ?_)
            refine OPS.re [.pointer (some ⟨sb, 0, none⟩), .string key, .pointer (some ⟨g155, 0, none⟩), .slice ao no co, .pointer (some ⟨g176, 0, none⟩), .slice a n c, .int .i64 ((n : Nat) : Int), .int .i64 (i : Int), .bool true] (by rw [show (decide (¬ (((C.set k (⟨⟨C[k]!.c.key, ⟨⟨C[k]!.c.e.Tag.Count, C[k]!.c.e.Tag.Client⟩, true, C[k]!.c.e.Has, ⟨C[k]!.c.e.Data.a, C[k]!.c.e.Data.n, C[k]!.c.e.Data.c⟩⟩⟩, C[k]!.d⟩ : Ce))[i]!.c.key) = key))) = true from Bp.dec.tt h181]) ?_
            refine OPS.batch 7 { wraps := [66] } [] [0, 1, 7, 8, 10, 49, 50, 51, 66] [.pointer (some ⟨sb, 0, none⟩), .string key, .pointer (some ⟨g155, 0, none⟩), .slice ao no co, .pointer (some ⟨g176, 0, none⟩), .slice a n c, .int .i64 ((n : Nat) : Int), .int .i64 (i : Int), .bool true] .nil (by kernel_rfl) (fun b183 => ?_)
            refine OPS.nil ?_
            refine thn_n ?_
            exact ⟨true, trivial, Bp.of Bp.t (by first | (simp only [h181, iff_false, false_iff, iff_true, true_iff, Classical.not_not, and_true, true_and, and_false, false_and, or_true, true_or, or_false, false_or, not_true_eq_false, not_false_eq_true, and_self, or_self, iff_self]; done) | (simp [h181]; done) | grind | (simp_all; done)), by kernel_rfl, hp178⟩
        rintro e196 w197 ⟨x194, hd199, hb195, hE200, hp198⟩
        obtain ⟨b201, rfl⟩ := toMk hE200
        clear hE200
        clear hd199
        refine WP.test (p := ((¬ (((C.set k (⟨⟨C[k]!.c.key, ⟨⟨C[k]!.c.e.Tag.Count, C[k]!.c.e.Tag.Client⟩, true, C[k]!.c.e.Has, ⟨C[k]!.c.e.Data.a, C[k]!.c.e.Data.n, C[k]!.c.e.Data.c⟩⟩⟩, C[k]!.d⟩ : Ce))[i]!.c.key) = key))) ∨ ((((C.set k (⟨⟨C[k]!.c.key, ⟨⟨C[k]!.c.e.Tag.Count, C[k]!.c.e.Tag.Client⟩, true, C[k]!.c.e.Has, ⟨C[k]!.c.e.Data.a, C[k]!.c.e.Data.n, C[k]!.c.e.Data.c⟩⟩⟩, C[k]!.d⟩ : Ce))[i]!.c.key) = key) ∧ (¬ (tlt (C.set k (⟨⟨C[k]!.c.key, ⟨⟨C[k]!.c.e.Tag.Count, C[k]!.c.e.Tag.Client⟩, true, C[k]!.c.e.Has, ⟨C[k]!.c.e.Data.a, C[k]!.c.e.Data.n, C[k]!.c.e.Data.c⟩⟩⟩, C[k]!.d⟩ : Ce))[i]!.c.e.Tag (floD (C.set k (⟨⟨C[k]!.c.key, ⟨⟨C[k]!.c.e.Tag.Count, C[k]!.c.e.Tag.Client⟩, true, C[k]!.c.e.Has, ⟨C[k]!.c.e.Data.a, C[k]!.c.e.Data.n, C[k]!.c.e.Data.c⟩⟩⟩, C[k]!.d⟩ : Ce)) key dl))))) rfl hb195 (fun h202 => ?_) (fun h202 => ?_)
        · refine WP.region _ rfl (by kernel_rfl) ?_
          refine OPS.batch 2 {} [Gsherdtop_cell.val ((C.set k (⟨⟨C[k]!.c.key, ⟨⟨C[k]!.c.e.Tag.Count, C[k]!.c.e.Tag.Client⟩, true, C[k]!.c.e.Has, ⟨C[k]!.c.e.Data.a, C[k]!.c.e.Data.n, C[k]!.c.e.Data.c⟩⟩⟩, C[k]!.d⟩ : Ce))[i]!.c)] [0, 1, 7, 49, 50, 51, 67, 68] [.pointer (some ⟨sb, 0, none⟩), .string key, .pointer (some ⟨g155, 0, none⟩), .slice a n c, .int .i64 ((n : Nat) : Int), .int .i64 (i : Int), .slice ao no co, Gsherdtop_cell.val ((C.set k (⟨⟨C[k]!.c.key, ⟨⟨C[k]!.c.e.Tag.Count, C[k]!.c.e.Tag.Client⟩, true, C[k]!.c.e.Has, ⟨C[k]!.c.e.Data.a, C[k]!.c.e.Data.n, C[k]!.c.e.Data.c⟩⟩⟩, C[k]!.d⟩ : Ce))[i]!.c)] (.cons (show Ld Try.prog w197 66 ⟨g176, 0, none⟩ (Gsherdtop_cell.val ((C.set k (⟨⟨C[k]!.c.key, ⟨⟨C[k]!.c.e.Tag.Count, C[k]!.c.e.Tag.Client⟩, true, C[k]!.c.e.Has, ⟨C[k]!.c.e.Data.a, C[k]!.c.e.Data.n, C[k]!.c.e.Data.c⟩⟩⟩, C[k]!.d⟩ : Ce))[i]!.c)) from Ld.rowN (cs := [.string ((C.set k (⟨⟨C[k]!.c.key, ⟨⟨C[k]!.c.e.Tag.Count, C[k]!.c.e.Tag.Client⟩, true, C[k]!.c.e.Has, ⟨C[k]!.c.e.Data.a, C[k]!.c.e.Data.n, C[k]!.c.e.Data.c⟩⟩⟩, C[k]!.d⟩ : Ce))[i]!.c.key), .int .i64 ((C.set k (⟨⟨C[k]!.c.key, ⟨⟨C[k]!.c.e.Tag.Count, C[k]!.c.e.Tag.Client⟩, true, C[k]!.c.e.Has, ⟨C[k]!.c.e.Data.a, C[k]!.c.e.Data.n, C[k]!.c.e.Data.c⟩⟩⟩, C[k]!.d⟩ : Ce))[i]!.c.e.Tag.Count), .int .i64 ((C.set k (⟨⟨C[k]!.c.key, ⟨⟨C[k]!.c.e.Tag.Count, C[k]!.c.e.Tag.Client⟩, true, C[k]!.c.e.Has, ⟨C[k]!.c.e.Data.a, C[k]!.c.e.Data.n, C[k]!.c.e.Data.c⟩⟩⟩, C[k]!.d⟩ : Ce))[i]!.c.e.Tag.Client), .bool ((C.set k (⟨⟨C[k]!.c.key, ⟨⟨C[k]!.c.e.Tag.Count, C[k]!.c.e.Tag.Client⟩, true, C[k]!.c.e.Has, ⟨C[k]!.c.e.Data.a, C[k]!.c.e.Data.n, C[k]!.c.e.Data.c⟩⟩⟩, C[k]!.d⟩ : Ce))[i]!.c.e.Fin), .bool ((C.set k (⟨⟨C[k]!.c.key, ⟨⟨C[k]!.c.e.Tag.Count, C[k]!.c.e.Tag.Client⟩, true, C[k]!.c.e.Has, ⟨C[k]!.c.e.Data.a, C[k]!.c.e.Data.n, C[k]!.c.e.Data.c⟩⟩⟩, C[k]!.d⟩ : Ce))[i]!.c.e.Has), .slice ((C.set k (⟨⟨C[k]!.c.key, ⟨⟨C[k]!.c.e.Tag.Count, C[k]!.c.e.Tag.Client⟩, true, C[k]!.c.e.Has, ⟨C[k]!.c.e.Data.a, C[k]!.c.e.Data.n, C[k]!.c.e.Data.c⟩⟩⟩, C[k]!.d⟩ : Ce))[i]!.c.e.Data.a) ((C.set k (⟨⟨C[k]!.c.key, ⟨⟨C[k]!.c.e.Tag.Count, C[k]!.c.e.Tag.Client⟩, true, C[k]!.c.e.Has, ⟨C[k]!.c.e.Data.a, C[k]!.c.e.Data.n, C[k]!.c.e.Data.c⟩⟩⟩, C[k]!.d⟩ : Ce))[i]!.c.e.Data.n) ((C.set k (⟨⟨C[k]!.c.key, ⟨⟨C[k]!.c.e.Tag.Count, C[k]!.c.e.Tag.Client⟩, true, C[k]!.c.e.Has, ⟨C[k]!.c.e.Data.a, C[k]!.c.e.Data.n, C[k]!.c.e.Data.c⟩⟩⟩, C[k]!.d⟩ : Ce))[i]!.c.e.Data.c)]) hp198.get0 (by kernel_rfl)) .nil) (by kernel_rfl) (fun b203 => ?_)
          refine OPS.cons (opStep.buildSlice (E := 66) hp198 [.string ((C.set k (⟨⟨C[k]!.c.key, ⟨⟨C[k]!.c.e.Tag.Count, C[k]!.c.e.Tag.Client⟩, true, C[k]!.c.e.Has, ⟨C[k]!.c.e.Data.a, C[k]!.c.e.Data.n, C[k]!.c.e.Data.c⟩⟩⟩, C[k]!.d⟩ : Ce))[i]!.c.key), .int .i64 ((C.set k (⟨⟨C[k]!.c.key, ⟨⟨C[k]!.c.e.Tag.Count, C[k]!.c.e.Tag.Client⟩, true, C[k]!.c.e.Has, ⟨C[k]!.c.e.Data.a, C[k]!.c.e.Data.n, C[k]!.c.e.Data.c⟩⟩⟩, C[k]!.d⟩ : Ce))[i]!.c.e.Tag.Count), .int .i64 ((C.set k (⟨⟨C[k]!.c.key, ⟨⟨C[k]!.c.e.Tag.Count, C[k]!.c.e.Tag.Client⟩, true, C[k]!.c.e.Has, ⟨C[k]!.c.e.Data.a, C[k]!.c.e.Data.n, C[k]!.c.e.Data.c⟩⟩⟩, C[k]!.d⟩ : Ce))[i]!.c.e.Tag.Client), .bool ((C.set k (⟨⟨C[k]!.c.key, ⟨⟨C[k]!.c.e.Tag.Count, C[k]!.c.e.Tag.Client⟩, true, C[k]!.c.e.Has, ⟨C[k]!.c.e.Data.a, C[k]!.c.e.Data.n, C[k]!.c.e.Data.c⟩⟩⟩, C[k]!.d⟩ : Ce))[i]!.c.e.Fin), .bool ((C.set k (⟨⟨C[k]!.c.key, ⟨⟨C[k]!.c.e.Tag.Count, C[k]!.c.e.Tag.Client⟩, true, C[k]!.c.e.Has, ⟨C[k]!.c.e.Data.a, C[k]!.c.e.Data.n, C[k]!.c.e.Data.c⟩⟩⟩, C[k]!.d⟩ : Ce))[i]!.c.e.Has), .slice ((C.set k (⟨⟨C[k]!.c.key, ⟨⟨C[k]!.c.e.Tag.Count, C[k]!.c.e.Tag.Client⟩, true, C[k]!.c.e.Has, ⟨C[k]!.c.e.Data.a, C[k]!.c.e.Data.n, C[k]!.c.e.Data.c⟩⟩⟩, C[k]!.d⟩ : Ce))[i]!.c.e.Data.a) ((C.set k (⟨⟨C[k]!.c.key, ⟨⟨C[k]!.c.e.Tag.Count, C[k]!.c.e.Tag.Client⟩, true, C[k]!.c.e.Has, ⟨C[k]!.c.e.Data.a, C[k]!.c.e.Data.n, C[k]!.c.e.Data.c⟩⟩⟩, C[k]!.d⟩ : Ce))[i]!.c.e.Data.n) ((C.set k (⟨⟨C[k]!.c.key, ⟨⟨C[k]!.c.e.Tag.Count, C[k]!.c.e.Tag.Client⟩, true, C[k]!.c.e.Has, ⟨C[k]!.c.e.Data.a, C[k]!.c.e.Data.n, C[k]!.c.e.Data.c⟩⟩⟩, C[k]!.d⟩ : Ce))[i]!.c.e.Data.c)] (by kernel_rfl) (fun g206 w204 hp205 => ?_))
          have hrd214 := (SlR.row (n := 1) hp205.get0 rfl).rd
          refine OPS.cons (opStep.append2 _ hp205 64 (by kernel_rfl) rfl rfl rfl hrd214 (List.all_eq_true.1 (by kernel_rfl)) (by decide) (by omega) (by omega) (fun a209 c210 w211 hp212 hn213 => ?_))
          rw [(show List.flatMap cC xs ++ [.string ((C.set k (⟨⟨C[k]!.c.key, ⟨⟨C[k]!.c.e.Tag.Count, C[k]!.c.e.Tag.Client⟩, true, C[k]!.c.e.Has, ⟨C[k]!.c.e.Data.a, C[k]!.c.e.Data.n, C[k]!.c.e.Data.c⟩⟩⟩, C[k]!.d⟩ : Ce))[i]!.c.key), .int .i64 ((C.set k (⟨⟨C[k]!.c.key, ⟨⟨C[k]!.c.e.Tag.Count, C[k]!.c.e.Tag.Client⟩, true, C[k]!.c.e.Has, ⟨C[k]!.c.e.Data.a, C[k]!.c.e.Data.n, C[k]!.c.e.Data.c⟩⟩⟩, C[k]!.d⟩ : Ce))[i]!.c.e.Tag.Count), .int .i64 ((C.set k (⟨⟨C[k]!.c.key, ⟨⟨C[k]!.c.e.Tag.Count, C[k]!.c.e.Tag.Client⟩, true, C[k]!.c.e.Has, ⟨C[k]!.c.e.Data.a, C[k]!.c.e.Data.n, C[k]!.c.e.Data.c⟩⟩⟩, C[k]!.d⟩ : Ce))[i]!.c.e.Tag.Client), .bool ((C.set k (⟨⟨C[k]!.c.key, ⟨⟨C[k]!.c.e.Tag.Count, C[k]!.c.e.Tag.Client⟩, true, C[k]!.c.e.Has, ⟨C[k]!.c.e.Data.a, C[k]!.c.e.Data.n, C[k]!.c.e.Data.c⟩⟩⟩, C[k]!.d⟩ : Ce))[i]!.c.e.Fin), .bool ((C.set k (⟨⟨C[k]!.c.key, ⟨⟨C[k]!.c.e.Tag.Count, C[k]!.c.e.Tag.Client⟩, true, C[k]!.c.e.Has, ⟨C[k]!.c.e.Data.a, C[k]!.c.e.Data.n, C[k]!.c.e.Data.c⟩⟩⟩, C[k]!.d⟩ : Ce))[i]!.c.e.Has), .slice ((C.set k (⟨⟨C[k]!.c.key, ⟨⟨C[k]!.c.e.Tag.Count, C[k]!.c.e.Tag.Client⟩, true, C[k]!.c.e.Has, ⟨C[k]!.c.e.Data.a, C[k]!.c.e.Data.n, C[k]!.c.e.Data.c⟩⟩⟩, C[k]!.d⟩ : Ce))[i]!.c.e.Data.a) ((C.set k (⟨⟨C[k]!.c.key, ⟨⟨C[k]!.c.e.Tag.Count, C[k]!.c.e.Tag.Client⟩, true, C[k]!.c.e.Has, ⟨C[k]!.c.e.Data.a, C[k]!.c.e.Data.n, C[k]!.c.e.Data.c⟩⟩⟩, C[k]!.d⟩ : Ce))[i]!.c.e.Data.n) ((C.set k (⟨⟨C[k]!.c.key, ⟨⟨C[k]!.c.e.Tag.Count, C[k]!.c.e.Tag.Client⟩, true, C[k]!.c.e.Has, ⟨C[k]!.c.e.Data.a, C[k]!.c.e.Data.n, C[k]!.c.e.Data.c⟩⟩⟩, C[k]!.d⟩ : Ce))[i]!.c.e.Data.c)] = List.flatMap cC (xs ++ [(⟨⟨(C.set k (⟨⟨C[k]!.c.key, ⟨⟨C[k]!.c.e.Tag.Count, C[k]!.c.e.Tag.Client⟩, true, C[k]!.c.e.Has, ⟨C[k]!.c.e.Data.a, C[k]!.c.e.Data.n, C[k]!.c.e.Data.c⟩⟩⟩, C[k]!.d⟩ : Ce))[i]!.c.key, ⟨⟨(C.set k (⟨⟨C[k]!.c.key, ⟨⟨C[k]!.c.e.Tag.Count, C[k]!.c.e.Tag.Client⟩, true, C[k]!.c.e.Has, ⟨C[k]!.c.e.Data.a, C[k]!.c.e.Data.n, C[k]!.c.e.Data.c⟩⟩⟩, C[k]!.d⟩ : Ce))[i]!.c.e.Tag.Count, (C.set k (⟨⟨C[k]!.c.key, ⟨⟨C[k]!.c.e.Tag.Count, C[k]!.c.e.Tag.Client⟩, true, C[k]!.c.e.Has, ⟨C[k]!.c.e.Data.a, C[k]!.c.e.Data.n, C[k]!.c.e.Data.c⟩⟩⟩, C[k]!.d⟩ : Ce))[i]!.c.e.Tag.Client⟩, (C.set k (⟨⟨C[k]!.c.key, ⟨⟨C[k]!.c.e.Tag.Count, C[k]!.c.e.Tag.Client⟩, true, C[k]!.c.e.Has, ⟨C[k]!.c.e.Data.a, C[k]!.c.e.Data.n, C[k]!.c.e.Data.c⟩⟩⟩, C[k]!.d⟩ : Ce))[i]!.c.e.Fin, (C.set k (⟨⟨C[k]!.c.key, ⟨⟨C[k]!.c.e.Tag.Count, C[k]!.c.e.Tag.Client⟩, true, C[k]!.c.e.Has, ⟨C[k]!.c.e.Data.a, C[k]!.c.e.Data.n, C[k]!.c.e.Data.c⟩⟩⟩, C[k]!.d⟩ : Ce))[i]!.c.e.Has, ⟨(C.set k (⟨⟨C[k]!.c.key, ⟨⟨C[k]!.c.e.Tag.Count, C[k]!.c.e.Tag.Client⟩, true, C[k]!.c.e.Has, ⟨C[k]!.c.e.Data.a, C[k]!.c.e.Data.n, C[k]!.c.e.Data.c⟩⟩⟩, C[k]!.d⟩ : Ce))[i]!.c.e.Data.a, (C.set k (⟨⟨C[k]!.c.key, ⟨⟨C[k]!.c.e.Tag.Count, C[k]!.c.e.Tag.Client⟩, true, C[k]!.c.e.Has, ⟨C[k]!.c.e.Data.a, C[k]!.c.e.Data.n, C[k]!.c.e.Data.c⟩⟩⟩, C[k]!.d⟩ : Ce))[i]!.c.e.Data.n, (C.set k (⟨⟨C[k]!.c.key, ⟨⟨C[k]!.c.e.Tag.Count, C[k]!.c.e.Tag.Client⟩, true, C[k]!.c.e.Has, ⟨C[k]!.c.e.Data.a, C[k]!.c.e.Data.n, C[k]!.c.e.Data.c⟩⟩⟩, C[k]!.d⟩ : Ce))[i]!.c.e.Data.c⟩⟩⟩, (C.set k (⟨⟨C[k]!.c.key, ⟨⟨C[k]!.c.e.Tag.Count, C[k]!.c.e.Tag.Client⟩, true, C[k]!.c.e.Has, ⟨C[k]!.c.e.Data.a, C[k]!.c.e.Data.n, C[k]!.c.e.Data.c⟩⟩⟩, C[k]!.d⟩ : Ce))[i]!.d⟩ : Ce)]) from (List.flatMap_append (xs := xs) (ys := [(⟨⟨(C.set k (⟨⟨C[k]!.c.key, ⟨⟨C[k]!.c.e.Tag.Count, C[k]!.c.e.Tag.Client⟩, true, C[k]!.c.e.Has, ⟨C[k]!.c.e.Data.a, C[k]!.c.e.Data.n, C[k]!.c.e.Data.c⟩⟩⟩, C[k]!.d⟩ : Ce))[i]!.c.key, ⟨⟨(C.set k (⟨⟨C[k]!.c.key, ⟨⟨C[k]!.c.e.Tag.Count, C[k]!.c.e.Tag.Client⟩, true, C[k]!.c.e.Has, ⟨C[k]!.c.e.Data.a, C[k]!.c.e.Data.n, C[k]!.c.e.Data.c⟩⟩⟩, C[k]!.d⟩ : Ce))[i]!.c.e.Tag.Count, (C.set k (⟨⟨C[k]!.c.key, ⟨⟨C[k]!.c.e.Tag.Count, C[k]!.c.e.Tag.Client⟩, true, C[k]!.c.e.Has, ⟨C[k]!.c.e.Data.a, C[k]!.c.e.Data.n, C[k]!.c.e.Data.c⟩⟩⟩, C[k]!.d⟩ : Ce))[i]!.c.e.Tag.Client⟩, (C.set k (⟨⟨C[k]!.c.key, ⟨⟨C[k]!.c.e.Tag.Count, C[k]!.c.e.Tag.Client⟩, true, C[k]!.c.e.Has, ⟨C[k]!.c.e.Data.a, C[k]!.c.e.Data.n, C[k]!.c.e.Data.c⟩⟩⟩, C[k]!.d⟩ : Ce))[i]!.c.e.Fin, (C.set k (⟨⟨C[k]!.c.key, ⟨⟨C[k]!.c.e.Tag.Count, C[k]!.c.e.Tag.Client⟩, true, C[k]!.c.e.Has, ⟨C[k]!.c.e.Data.a, C[k]!.c.e.Data.n, C[k]!.c.e.Data.c⟩⟩⟩, C[k]!.d⟩ : Ce))[i]!.c.e.Has, ⟨(C.set k (⟨⟨C[k]!.c.key, ⟨⟨C[k]!.c.e.Tag.Count, C[k]!.c.e.Tag.Client⟩, true, C[k]!.c.e.Has, ⟨C[k]!.c.e.Data.a, C[k]!.c.e.Data.n, C[k]!.c.e.Data.c⟩⟩⟩, C[k]!.d⟩ : Ce))[i]!.c.e.Data.a, (C.set k (⟨⟨C[k]!.c.key, ⟨⟨C[k]!.c.e.Tag.Count, C[k]!.c.e.Tag.Client⟩, true, C[k]!.c.e.Has, ⟨C[k]!.c.e.Data.a, C[k]!.c.e.Data.n, C[k]!.c.e.Data.c⟩⟩⟩, C[k]!.d⟩ : Ce))[i]!.c.e.Data.n, (C.set k (⟨⟨C[k]!.c.key, ⟨⟨C[k]!.c.e.Tag.Count, C[k]!.c.e.Tag.Client⟩, true, C[k]!.c.e.Has, ⟨C[k]!.c.e.Data.a, C[k]!.c.e.Data.n, C[k]!.c.e.Data.c⟩⟩⟩, C[k]!.d⟩ : Ce))[i]!.c.e.Data.c⟩⟩⟩, (C.set k (⟨⟨C[k]!.c.key, ⟨⟨C[k]!.c.e.Tag.Count, C[k]!.c.e.Tag.Client⟩, true, C[k]!.c.e.Has, ⟨C[k]!.c.e.Data.a, C[k]!.c.e.Data.n, C[k]!.c.e.Data.c⟩⟩⟩, C[k]!.d⟩ : Ce))[i]!.d⟩ : Ce)])).symm)] at hp212
          refine OPS.batch 1 {} [] [0, 1, 7, 8, 49, 50, 51] [.pointer (some ⟨sb, 0, none⟩), .string key, .pointer (some ⟨g155, 0, none⟩), .slice a209 (no + 1) c210, .slice a n c, .int .i64 ((n : Nat) : Int), .int .i64 (i : Int)] .nil (by kernel_rfl) (fun b215 => ?_)
          refine OPS.nil ?_
          refine blk_n ?_
          refine thn_n ?_
          refine WP.pure {} [] [0, 1, 7, 8, 49, 50, 51] [.pointer (some ⟨sb, 0, none⟩), .string key, .pointer (some ⟨g155, 0, none⟩), .slice a209 (no + 1) c210, .slice a n c, .int .i64 ((n : Nat) : Int), .int .i64 ((i : Int) + 1)] (.cons (show Rng .i64 ((i : Int) + 1) from Rng.i64 (by omega)) .nil) (by kernel_rfl) (fun b216 => ?_)
          refine thn_n ?_
          exact ⟨(C.set k (⟨⟨C[k]!.c.key, ⟨⟨C[k]!.c.e.Tag.Count, C[k]!.c.e.Tag.Client⟩, true, C[k]!.c.e.Has, ⟨C[k]!.c.e.Data.a, C[k]!.c.e.Data.n, C[k]!.c.e.Data.c⟩⟩⟩, C[k]!.d⟩ : Ce)).length - (i + 1), (by omega), i + 1, xs ++ [(⟨⟨(C.set k (⟨⟨C[k]!.c.key, ⟨⟨C[k]!.c.e.Tag.Count, C[k]!.c.e.Tag.Client⟩, true, C[k]!.c.e.Has, ⟨C[k]!.c.e.Data.a, C[k]!.c.e.Data.n, C[k]!.c.e.Data.c⟩⟩⟩, C[k]!.d⟩ : Ce))[i]!.c.key, ⟨⟨(C.set k (⟨⟨C[k]!.c.key, ⟨⟨C[k]!.c.e.Tag.Count, C[k]!.c.e.Tag.Client⟩, true, C[k]!.c.e.Has, ⟨C[k]!.c.e.Data.a, C[k]!.c.e.Data.n, C[k]!.c.e.Data.c⟩⟩⟩, C[k]!.d⟩ : Ce))[i]!.c.e.Tag.Count, (C.set k (⟨⟨C[k]!.c.key, ⟨⟨C[k]!.c.e.Tag.Count, C[k]!.c.e.Tag.Client⟩, true, C[k]!.c.e.Has, ⟨C[k]!.c.e.Data.a, C[k]!.c.e.Data.n, C[k]!.c.e.Data.c⟩⟩⟩, C[k]!.d⟩ : Ce))[i]!.c.e.Tag.Client⟩, (C.set k (⟨⟨C[k]!.c.key, ⟨⟨C[k]!.c.e.Tag.Count, C[k]!.c.e.Tag.Client⟩, true, C[k]!.c.e.Has, ⟨C[k]!.c.e.Data.a, C[k]!.c.e.Data.n, C[k]!.c.e.Data.c⟩⟩⟩, C[k]!.d⟩ : Ce))[i]!.c.e.Fin, (C.set k (⟨⟨C[k]!.c.key, ⟨⟨C[k]!.c.e.Tag.Count, C[k]!.c.e.Tag.Client⟩, true, C[k]!.c.e.Has, ⟨C[k]!.c.e.Data.a, C[k]!.c.e.Data.n, C[k]!.c.e.Data.c⟩⟩⟩, C[k]!.d⟩ : Ce))[i]!.c.e.Has, ⟨(C.set k (⟨⟨C[k]!.c.key, ⟨⟨C[k]!.c.e.Tag.Count, C[k]!.c.e.Tag.Client⟩, true, C[k]!.c.e.Has, ⟨C[k]!.c.e.Data.a, C[k]!.c.e.Data.n, C[k]!.c.e.Data.c⟩⟩⟩, C[k]!.d⟩ : Ce))[i]!.c.e.Data.a, (C.set k (⟨⟨C[k]!.c.key, ⟨⟨C[k]!.c.e.Tag.Count, C[k]!.c.e.Tag.Client⟩, true, C[k]!.c.e.Has, ⟨C[k]!.c.e.Data.a, C[k]!.c.e.Data.n, C[k]!.c.e.Data.c⟩⟩⟩, C[k]!.d⟩ : Ce))[i]!.c.e.Data.n, (C.set k (⟨⟨C[k]!.c.key, ⟨⟨C[k]!.c.e.Tag.Count, C[k]!.c.e.Tag.Client⟩, true, C[k]!.c.e.Has, ⟨C[k]!.c.e.Data.a, C[k]!.c.e.Data.n, C[k]!.c.e.Data.c⟩⟩⟩, C[k]!.d⟩ : Ce))[i]!.c.e.Data.c⟩⟩⟩, (C.set k (⟨⟨C[k]!.c.key, ⟨⟨C[k]!.c.e.Tag.Count, C[k]!.c.e.Tag.Client⟩, true, C[k]!.c.e.Has, ⟨C[k]!.c.e.Data.a, C[k]!.c.e.Data.n, C[k]!.c.e.Data.c⟩⟩⟩, C[k]!.d⟩ : Ce))[i]!.d⟩ : Ce)], a209, no + 1, c210, rfl, ⟨by omega, by rw [List.length_append, List.length_singleton]; omega, (congrArg (fun z => z ++ [(C.set k (⟨⟨C[k]!.c.key, ⟨⟨C[k]!.c.e.Tag.Count, C[k]!.c.e.Tag.Client⟩, true, C[k]!.c.e.Has, ⟨C[k]!.c.e.Data.a, C[k]!.c.e.Data.n, C[k]!.c.e.Data.c⟩⟩⟩, C[k]!.d⟩ : Ce))[i]!]) pc).trans (left_keep (by omega) (by have h_ := h202; first | exact h_ | (simpa using h_) | grind | (simp_all; done)))⟩, by kernel_rfl, (hp212.sub (.cons _ (.cons _ (.cons_cons _ (.cons_cons _ (.cons_cons _ (.cons_cons _ (.cons_cons _ (.cons_cons _ (.refl _))))))))))⟩
        · refine WP.skip ?_
          refine blk_n ?_
          refine thn_n ?_
          refine WP.pure {} [] [0, 1, 7, 8, 49, 50, 51] [.pointer (some ⟨sb, 0, none⟩), .string key, .pointer (some ⟨g155, 0, none⟩), .slice ao no co, .slice a n c, .int .i64 ((n : Nat) : Int), .int .i64 ((i : Int) + 1)] (.cons (show Rng .i64 ((i : Int) + 1) from Rng.i64 (by omega)) .nil) (by kernel_rfl) (fun b217 => ?_)
          refine thn_n ?_
          exact ⟨(C.set k (⟨⟨C[k]!.c.key, ⟨⟨C[k]!.c.e.Tag.Count, C[k]!.c.e.Tag.Client⟩, true, C[k]!.c.e.Has, ⟨C[k]!.c.e.Data.a, C[k]!.c.e.Data.n, C[k]!.c.e.Data.c⟩⟩⟩, C[k]!.d⟩ : Ce)).length - (i + 1), (by omega), i + 1, xs, ao, no, co, rfl, ⟨by omega, by omega, pc.trans (left_drop (by omega) (by have h_ := h202; first | exact h_ | (simpa using h_) | grind | (simp_all; done)))⟩, by kernel_rfl, (hp198.sub (.cons _ (.cons_cons _ (.cons_cons _ (.cons_cons _ (.cons_cons _ (.cons_cons _ (.cons_cons _ (.refl _)))))))))⟩
      · refine WP.exit ?_
        refine thn_x ?_
        refine thn_x ?_
        refine blk_hit ?_
        refine thn_n ?_
        refine WP.region _ rfl (by kernel_rfl) ?_
        refine OPS.batch 4 {} [] [73, 75] [.slice ao no co, .pointer (some ⟨sb, 1, none⟩)] .nil (by kernel_rfl) (fun b218 => ?_)
        refine OPS.cons (opStep.store2 hp163 rfl [.slice ao no co] [.int .i64 ((dl : Nat) : Int), .slice ao no co] (by kernel_rfl) (fun w219 hp220 => ?_))
        refine OPS.nil ?_
        refine bodyQ.ofN ?_
        refine bodyQ.of _ rfl [] trivial ?_
        have hp221 := hp220.pull5
        have hp222 := hp221.pull1
        have hp223 := hp222.pull3
        exact ⟨_, _, _, _, rfl, .inr ⟨h23, _, rfl, pc.trans (left_all (by omega))⟩, (hp223.sub (.cons_cons _ (.cons_cons _ (.cons_cons _ (.cons _ (.cons _ (.cons _ (.refl _))))))))⟩

end Go.Proofs.Ytdkgdidnknojlaa.K
namespace Go.Proofs.Ytdkgdidnknojlaa.K
open Go Go.Proofs Go.RowKit
set_option linter.unusedVariables false
set_option linter.unusedSimpArgs false
set_option maxRecDepth 20000
set_option maxHeartbeats 4000000

theorem shpre_c (w0 w : World) (L : List Res) (sb dl : Nat) (a : Option Addr) (n c : Nat) (C : List Ce) (F : Nat → Prop) (D : List (SlH × ByteArray)) (hdl : dl ≤ 4611686018427387903) (hb : C.length ≤ 1048599) (key : ByteArray) (t : GTag) (hd : SlH) (d : ByteArray) (hbt : Bt w0 hd d) (hsz : d.size ≤ 140737488355327) (hp0 : Hp w0 Non (Res.row sb [.int .i64 (dl : Int), .slice a n c] 29 :: Res.own 66 6 (.slice a n c) n (C.flatMap cC) :: Res.dat F D :: L) w) :
    Calls Try.prog 26 #[.pointer (some ⟨sb, 0, none⟩), .string key, GTag.val t, .slice hd.a hd.n hd.c] w (fun r_ w' => ∃ a2 n2 c2 C2 F2 D2, r_ = .returned (.tuple #[]) ∧ PreD C D key t d dl C2 D2 ∧ Hp w0 Non (Res.row sb [.int .i64 (dl : Int), .slice a2 n2 c2] 29 :: Res.own 66 6 (.slice a2 n2 c2) n2 (C2.flatMap cC) :: Res.dat F2 D2 :: L) w') := by
  rcases at_cases C key t with ⟨h1, h2⟩ | ⟨k, h1, h2⟩
  · refine (shpre_no w0 w L sb dl a n c C F D hdl hb key t hd d hbt hsz h1 hp0).mono ?_
    rintro _ w' ⟨a2, n2, c2, C2, F2, D2, rfl, h3, hp⟩
    exact ⟨_, _, _, _, _, _, rfl, .inl ⟨h2, h3⟩, hp⟩
  · refine (shpre_at w0 w L sb dl a n c C F D hdl hb key t hd d hbt hsz k h1 h2.1 hp0).mono ?_
    rintro _ w' ⟨a2, n2, c2, C2, F2, D2, rfl, h3, hp⟩
    exact ⟨_, _, _, _, _, _, rfl, .inr ⟨k, h2, h3⟩, hp⟩
theorem shfin_c (w0 w : World) (L : List Res) (sb dl : Nat) (a : Option Addr) (n c : Nat) (C : List Ce) (F : Nat → Prop) (D : List (SlH × ByteArray)) (hdl : dl ≤ 4611686018427387903) (hb : C.length ≤ 1048599) (key : ByteArray) (t : GTag) (hp0 : Hp w0 Non (Res.row sb [.int .i64 (dl : Int), .slice a n c] 29 :: Res.own 66 6 (.slice a n c) n (C.flatMap cC) :: Res.dat F D :: L) w) :
    Calls Try.prog 27 #[.pointer (some ⟨sb, 0, none⟩), .string key, GTag.val t] w (fun r_ w' => ∃ a2 n2 c2 C2, r_ = .returned (.tuple #[]) ∧ FinD C key t dl C2 ∧ Hp w0 Non (Res.row sb [.int .i64 (dl : Int), .slice a2 n2 c2] 29 :: Res.own 66 6 (.slice a2 n2 c2) n2 (C2.flatMap cC) :: Res.dat F D :: L) w') := by
  rcases at_cases C key t with ⟨h1, h2⟩ | ⟨k, h1, h2⟩
  · refine (shfin_no w0 w L sb dl a n c C F D hdl hb key t h1 hp0).mono ?_
    rintro _ w' ⟨a2, n2, c2, C2, rfl, h3, hp⟩
    exact ⟨_, _, _, _, rfl, .inl ⟨h2, h3⟩, hp⟩
  · refine (shfin_at w0 w L sb dl a n c C F D hdl hb key t k h1 h2.1 hp0).mono ?_
    rintro _ w' ⟨a2, n2, c2, C2, rfl, h3, hp⟩
    exact ⟨_, _, _, _, rfl, .inr ⟨k, h2, h3⟩, hp⟩
theorem applyD_c (w0 w : World) (L : List Res) (sb dl : Nat) (a : Option Addr) (n c : Nat) (C : List Ce) (F : Nat → Prop) (D : List (SlH × ByteArray)) (hdl : dl ≤ 4611686018427387903) (hb : C.length ≤ 1048590) (u : GUpdate) (d : ByteArray) (hbt : Bt w0 u.Entry.Data d) (hsz : d.size ≤ 140737488355327) (hp0 : Hp w0 Non (Res.row sb [.int .i64 (dl : Int), .slice a n c] 29 :: Res.own 66 6 (.slice a n c) n (C.flatMap cC) :: Res.dat F D :: L) w) :
    Calls Try.prog 9 #[.pointer (some ⟨sb, 0, none⟩), GUpdate.val u] w (fun r_ w' => ∃ a2 n2 c2 C2 F2 D2, r_ = .returned (.tuple #[]) ∧ ApD C D u d dl C2 D2 ∧ Hp w0 Non (Res.row sb [.int .i64 (dl : Int), .slice a2 n2 c2] 29 :: Res.own 66 6 (.slice a2 n2 c2) n2 (C2.flatMap cC) :: Res.dat F2 D2 :: L) w') := by
  refine calls_of Try.func9 rfl 47 rfl (by simp) ?_
  have he0 : List.map (env0 [.pointer (some ⟨sb, 0, none⟩), GUpdate.val u]) [0, 1] = [.pointer (some ⟨sb, 0, none⟩), GUpdate.val u] := by kernel_rfl
  obtain ⟨b0, he0⟩ := toMk he0
  rw [he0]
  clear he0
  refine WP.seq ?_
  refine WP.region _ rfl (by kernel_rfl) ?_
  refine OPS.cons (opStep.box hp0 [.int .i64 u.Kind, .string u.Key, .int .i64 u.Entry.Tag.Count, .int .i64 u.Entry.Tag.Client, .bool u.Entry.Fin, .bool u.Entry.Has, .slice u.Entry.Data.a u.Entry.Data.n u.Entry.Data.c] (by kernel_rfl) (fun g3 w1 hp2 => ?_))
  refine OPS.nil ?_
  refine thn_n ?_
  refine WP.seq ?_
  refine WP.cut (fun e18 w19 => ∃ (x16 : Bool), (True) ∧ Bp x16 (((u.Kind = 1)) ∨ ((¬ (u.Kind = 1)) ∧ (u.Kind = 3) ∧ (u.Entry.Has = true))) ∧ List.map e18 [0, 3, 16] = [.pointer (some ⟨sb, 0, none⟩), .pointer (some ⟨g3, 0, none⟩), .bool x16] ∧ Hp w0 Non (Res.row g3 [.int .i64 u.Kind, .string u.Key, .int .i64 u.Entry.Tag.Count, .int .i64 u.Entry.Tag.Client, .bool u.Entry.Fin, .bool u.Entry.Has, .slice u.Entry.Data.a u.Entry.Data.n u.Entry.Data.c] 36 :: Res.row sb [.int .i64 ((dl : Nat) : Int), .slice a n c] 29 :: Res.own 66 6 (.slice a n c) n (List.flatMap cC C) :: Res.dat F D :: L) w19) ?_ ?_
  · refine WP.region _ rfl (by kernel_rfl) ?_
    refine OPS.batch 4 {} [.int .i64 u.Kind] [0, 3, 7] [.pointer (some ⟨sb, 0, none⟩), .pointer (some ⟨g3, 0, none⟩), .bool (decide (u.Kind = 1))] (.cons (Ld.row1 (P := Try.prog) (t := 3) (o := 0) (v := .int .i64 u.Kind) hp2.get0 (by kernel_rfl)) .nil) (by kernel_rfl) (fun b5 => ?_)
    by_cases h6 : u.Kind = 1
    · refine OPS.batch 0 {} [] [0, 3, 7] [.pointer (some ⟨sb, 0, none⟩), .pointer (some ⟨g3, 0, none⟩), .bool (decide (u.Kind = 1))] .nil (by kernel_rfl) (fun b7 => ?_)
      refine OPS.re [.pointer (some ⟨sb, 0, none⟩), .pointer (some ⟨g3, 0, none⟩), .bool true] (by rw [show (decide (u.Kind = 1)) = true from Bp.dec.tt h6]) ?_
      refine OPS.batch 9 { wraps := [16] } [] [0, 3, 16] [.pointer (some ⟨sb, 0, none⟩), .pointer (some ⟨g3, 0, none⟩), .bool true] .nil (by kernel_rfl) (fun b8 => ?_)
      refine OPS.nil ?_
      refine thn_n ?_
      exact ⟨true, trivial, Bp.of Bp.t (by first | (simp only [h6, iff_false, false_iff, iff_true, true_iff, Classical.not_not, and_true, true_and, and_false, false_and, or_true, true_or, or_false, false_or, not_true_eq_false, not_false_eq_true, and_self, or_self, iff_self]; done) | (simp [h6]; done) | grind | (simp_all; done)), by kernel_rfl, hp2⟩
    · refine OPS.batch 0 {} [] [0, 3, 7] [.pointer (some ⟨sb, 0, none⟩), .pointer (some ⟨g3, 0, none⟩), .bool (decide (u.Kind = 1))] .nil (by kernel_rfl) (fun b9 => ?_)
      refine OPS.re [.pointer (some ⟨sb, 0, none⟩), .pointer (some ⟨g3, 0, none⟩), .bool false] (by rw [show (decide (u.Kind = 1)) = false from Bp.dec.ff h6]) ?_
      refine OPS.batch 4 {} [.int .i64 u.Kind] [0, 3, 7, 11] [.pointer (some ⟨sb, 0, none⟩), .pointer (some ⟨g3, 0, none⟩), .bool false, .bool (decide (u.Kind = 3))] (.cons (Ld.row1 (P := Try.prog) (t := 3) (o := 0) (v := .int .i64 u.Kind) hp2.get0 (by kernel_rfl)) .nil) (by kernel_rfl) (fun b10 => ?_)
      by_cases h11 : u.Kind = 3
      · refine OPS.batch 0 {} [] [0, 3, 7, 11] [.pointer (some ⟨sb, 0, none⟩), .pointer (some ⟨g3, 0, none⟩), .bool false, .bool (decide (u.Kind = 3))] .nil (by kernel_rfl) (fun b12 => ?_)
        refine OPS.re [.pointer (some ⟨sb, 0, none⟩), .pointer (some ⟨g3, 0, none⟩), .bool false, .bool true] (by rw [show (decide (u.Kind = 3)) = true from Bp.dec.tt h11]) ?_
        refine OPS.batch 5 { wraps := [15, 16] } [.bool u.Entry.Has] [0, 3, 16] [.pointer (some ⟨sb, 0, none⟩), .pointer (some ⟨g3, 0, none⟩), .bool u.Entry.Has] (.cons (Ld.row1 (P := Try.prog) (t := 4) (o := 5) (v := .bool u.Entry.Has) hp2.get0 (by kernel_rfl)) .nil) (by kernel_rfl) (fun b13 => ?_)
        refine OPS.nil ?_
        refine thn_n ?_
        exact ⟨u.Entry.Has, trivial, Bp.of Bp.var (by first | (simp only [h6, h11, iff_false, false_iff, iff_true, true_iff, Classical.not_not, and_true, true_and, and_false, false_and, or_true, true_or, or_false, false_or, not_true_eq_false, not_false_eq_true, and_self, or_self, iff_self]; done) | (simp [h6, h11]; done) | grind | (simp_all; done)), by kernel_rfl, hp2⟩
      · refine OPS.batch 0 {} [] [0, 3, 7, 11] [.pointer (some ⟨sb, 0, none⟩), .pointer (some ⟨g3, 0, none⟩), .bool false, .bool (decide (u.Kind = 3))] .nil (by kernel_rfl) (fun b14 => ?_)
        refine OPS.re [.pointer (some ⟨sb, 0, none⟩), .pointer (some ⟨g3, 0, none⟩), .bool false, .bool false] (by rw [show (decide (u.Kind = 3)) = false from Bp.dec.ff h11]) ?_
        refine OPS.batch 5 { wraps := [15, 16] } [] [0, 3, 16] [.pointer (some ⟨sb, 0, none⟩), .pointer (some ⟨g3, 0, none⟩), .bool false] .nil (by kernel_rfl) (fun b15 => ?_)
        refine OPS.nil ?_
        refine thn_n ?_
        exact ⟨false, trivial, Bp.of Bp.f (by first | (simp only [h6, h11, iff_false, false_iff, iff_true, true_iff, Classical.not_not, and_true, true_and, and_false, false_and, or_true, true_or, or_false, false_or, not_true_eq_false, not_false_eq_true, and_self, or_self, iff_self]; done) | (simp [h6, h11]; done) | grind | (simp_all; done)), by kernel_rfl, hp2⟩
  rintro e18 w19 ⟨x16, hd21, hb17, hE22, hp20⟩
  obtain ⟨b23, rfl⟩ := toMk hE22
  clear hE22
  clear hd21
  refine WP.test (p := ((u.Kind = 1)) ∨ ((¬ (u.Kind = 1)) ∧ (u.Kind = 3) ∧ (u.Entry.Has = true))) rfl hb17 (fun h24 => ?_) (fun h24 => ?_)
  · refine WP.region _ rfl (by kernel_rfl) ?_
    refine OPS.batch 9 {} [.string u.Key, .agg #[.int .i64 u.Entry.Tag.Count, .int .i64 u.Entry.Tag.Client], .slice u.Entry.Data.a u.Entry.Data.n u.Entry.Data.c] [0, 3, 17, 19, 22, 25] [.pointer (some ⟨sb, 0, none⟩), .pointer (some ⟨g3, 0, none⟩), .pointer (some ⟨sb, 0, none⟩), .string u.Key, .agg #[.int .i64 u.Entry.Tag.Count, .int .i64 u.Entry.Tag.Client], .slice u.Entry.Data.a u.Entry.Data.n u.Entry.Data.c] (.cons (Ld.row1 (P := Try.prog) (t := 9) (o := 1) (v := .string u.Key) hp20.get0 (by kernel_rfl)) (.cons (show Ld Try.prog w19 31 ⟨g3, 2, none⟩ (.agg #[.int .i64 u.Entry.Tag.Count, .int .i64 u.Entry.Tag.Client]) from Ld.rowN (cs := [.int .i64 u.Entry.Tag.Count, .int .i64 u.Entry.Tag.Client]) hp20.get0 (by kernel_rfl)) (.cons (Ld.row1 (P := Try.prog) (t := 32) (o := 6) (v := .slice u.Entry.Data.a u.Entry.Data.n u.Entry.Data.c) hp20.get0 (by kernel_rfl)) .nil))) (by kernel_rfl) (fun b25 => ?_)
    have hp28 := hp20.pull3
    have hp29 := hp28.pull3
    have hp30 := hp29.pull3
    refine OPS.cons (opStep.call (some 26) [.pointer (some ⟨sb, 0, none⟩), .string u.Key, .agg #[.int .i64 u.Entry.Tag.Count, .int .i64 u.Entry.Tag.Client], .slice u.Entry.Data.a u.Entry.Data.n u.Entry.Data.c] (by kernel_rfl) (shpre_c w0 _ _ _ dl a n c C F D hdl (by omega) u.Key u.Entry.Tag u.Entry.Data d hbt hsz hp30) ?_)
    rintro _ w31 ⟨a33, n34, c35, C36, F37, D38, rfl, hq39, hp32⟩
    refine ⟨_, rfl, ?_⟩
    refine OPS.nil ?_
    refine thn_n ?_
    refine WP.cut (fun e54 w55 => ∃ (x52 : Bool), (True) ∧ Bp x52 (((u.Kind = 2)) ∨ ((¬ (u.Kind = 2)) ∧ (u.Kind = 3) ∧ (u.Entry.Fin = true))) ∧ List.map e54 [0, 3, 39] = [.pointer (some ⟨sb, 0, none⟩), .pointer (some ⟨g3, 0, none⟩), .bool x52] ∧ Hp w0 Non (Res.row sb [.int .i64 ((dl : Nat) : Int), .slice a33 n34 c35] 29 :: Res.own 66 6 (.slice a33 n34 c35) n34 (List.flatMap cC C36) :: Res.dat F37 D38 :: Res.row g3 [.int .i64 u.Kind, .string u.Key, .int .i64 u.Entry.Tag.Count, .int .i64 u.Entry.Tag.Client, .bool u.Entry.Fin, .bool u.Entry.Has, .slice u.Entry.Data.a u.Entry.Data.n u.Entry.Data.c] 36 :: L) w55) ?_ ?_
    · refine WP.region _ rfl (by kernel_rfl) ?_
      refine OPS.batch 4 {} [.int .i64 u.Kind] [0, 3, 30] [.pointer (some ⟨sb, 0, none⟩), .pointer (some ⟨g3, 0, none⟩), .bool (decide (u.Kind = 2))] (.cons (Ld.row1 (P := Try.prog) (t := 3) (o := 0) (v := .int .i64 u.Kind) hp32.get3 (by kernel_rfl)) .nil) (by kernel_rfl) (fun b41 => ?_)
      by_cases h42 : u.Kind = 2
      · refine OPS.batch 0 {} [] [0, 3, 30] [.pointer (some ⟨sb, 0, none⟩), .pointer (some ⟨g3, 0, none⟩), .bool (decide (u.Kind = 2))] .nil (by kernel_rfl) (fun b43 => ?_)
        refine OPS.re [.pointer (some ⟨sb, 0, none⟩), .pointer (some ⟨g3, 0, none⟩), .bool true] (by rw [show (decide (u.Kind = 2)) = true from Bp.dec.tt h42]) ?_
        refine OPS.batch 9 { wraps := [39] } [] [0, 3, 39] [.pointer (some ⟨sb, 0, none⟩), .pointer (some ⟨g3, 0, none⟩), .bool true] .nil (by kernel_rfl) (fun b44 => ?_)
        refine OPS.nil ?_
        refine thn_n ?_
        exact ⟨true, trivial, Bp.of Bp.t (by first | (simp only [h42, iff_false, false_iff, iff_true, true_iff, Classical.not_not, and_true, true_and, and_false, false_and, or_true, true_or, or_false, false_or, not_true_eq_false, not_false_eq_true, and_self, or_self, iff_self]; done) | (simp [h42]; done) | grind | (simp_all; done)), by kernel_rfl, hp32⟩
      · refine OPS.batch 0 {} [] [0, 3, 30] [.pointer (some ⟨sb, 0, none⟩), .pointer (some ⟨g3, 0, none⟩), .bool (decide (u.Kind = 2))] .nil (by kernel_rfl) (fun b45 => ?_)
        refine OPS.re [.pointer (some ⟨sb, 0, none⟩), .pointer (some ⟨g3, 0, none⟩), .bool false] (by rw [show (decide (u.Kind = 2)) = false from Bp.dec.ff h42]) ?_
        refine OPS.batch 4 {} [.int .i64 u.Kind] [0, 3, 30, 34] [.pointer (some ⟨sb, 0, none⟩), .pointer (some ⟨g3, 0, none⟩), .bool false, .bool (decide (u.Kind = 3))] (.cons (Ld.row1 (P := Try.prog) (t := 3) (o := 0) (v := .int .i64 u.Kind) hp32.get3 (by kernel_rfl)) .nil) (by kernel_rfl) (fun b46 => ?_)
        by_cases h47 : u.Kind = 3
        · refine OPS.batch 0 {} [] [0, 3, 30, 34] [.pointer (some ⟨sb, 0, none⟩), .pointer (some ⟨g3, 0, none⟩), .bool false, .bool (decide (u.Kind = 3))] .nil (by kernel_rfl) (fun b48 => ?_)
          refine OPS.re [.pointer (some ⟨sb, 0, none⟩), .pointer (some ⟨g3, 0, none⟩), .bool false, .bool true] (by rw [show (decide (u.Kind = 3)) = true from Bp.dec.tt h47]) ?_
          refine OPS.batch 5 { wraps := [38, 39] } [.bool u.Entry.Fin] [0, 3, 39] [.pointer (some ⟨sb, 0, none⟩), .pointer (some ⟨g3, 0, none⟩), .bool u.Entry.Fin] (.cons (Ld.row1 (P := Try.prog) (t := 4) (o := 4) (v := .bool u.Entry.Fin) hp32.get3 (by kernel_rfl)) .nil) (by kernel_rfl) (fun b49 => ?_)
          refine OPS.nil ?_
          refine thn_n ?_
          exact ⟨u.Entry.Fin, trivial, Bp.of Bp.var (by first | (simp only [h42, h47, iff_false, false_iff, iff_true, true_iff, Classical.not_not, and_true, true_and, and_false, false_and, or_true, true_or, or_false, false_or, not_true_eq_false, not_false_eq_true, and_self, or_self, iff_self]; done) | (simp [h42, h47]; done) | grind | (simp_all; done)), by kernel_rfl, hp32⟩
        · refine OPS.batch 0 {} [] [0, 3, 30, 34] [.pointer (some ⟨sb, 0, none⟩), .pointer (some ⟨g3, 0, none⟩), .bool false, .bool (decide (u.Kind = 3))] .nil (by kernel_rfl) (fun b50 => ?_)
          refine OPS.re [.pointer (some ⟨sb, 0, none⟩), .pointer (some ⟨g3, 0, none⟩), .bool false, .bool false] (by rw [show (decide (u.Kind = 3)) = false from Bp.dec.ff h47]) ?_
          refine OPS.batch 5 { wraps := [38, 39] } [] [0, 3, 39] [.pointer (some ⟨sb, 0, none⟩), .pointer (some ⟨g3, 0, none⟩), .bool false] .nil (by kernel_rfl) (fun b51 => ?_)
          refine OPS.nil ?_
          refine thn_n ?_
          exact ⟨false, trivial, Bp.of Bp.f (by first | (simp only [h42, h47, iff_false, false_iff, iff_true, true_iff, Classical.not_not, and_true, true_and, and_false, false_and, or_true, true_or, or_false, false_or, not_true_eq_false, not_false_eq_true, and_self, or_self, iff_self]; done) | (simp [h42, h47]; done) | grind | (simp_all; done)), by kernel_rfl, hp32⟩
    rintro e54 w55 ⟨x52, hd57, hb53, hE58, hp56⟩
    obtain ⟨b59, rfl⟩ := toMk hE58
    clear hE58
    clear hd57
    refine WP.test (p := ((u.Kind = 2)) ∨ ((¬ (u.Kind = 2)) ∧ (u.Kind = 3) ∧ (u.Entry.Fin = true))) rfl hb53 (fun h60 => ?_) (fun h60 => ?_)
    · refine WP.region _ rfl (by kernel_rfl) ?_
      refine OPS.batch 6 {} [.string u.Key, .agg #[.int .i64 u.Entry.Tag.Count, .int .i64 u.Entry.Tag.Client]] [40, 42, 45] [.pointer (some ⟨sb, 0, none⟩), .string u.Key, .agg #[.int .i64 u.Entry.Tag.Count, .int .i64 u.Entry.Tag.Client]] (.cons (Ld.row1 (P := Try.prog) (t := 9) (o := 1) (v := .string u.Key) hp56.get3 (by kernel_rfl)) (.cons (show Ld Try.prog w55 31 ⟨g3, 2, none⟩ (.agg #[.int .i64 u.Entry.Tag.Count, .int .i64 u.Entry.Tag.Client]) from Ld.rowN (cs := [.int .i64 u.Entry.Tag.Count, .int .i64 u.Entry.Tag.Client]) hp56.get3 (by kernel_rfl)) .nil)) (by kernel_rfl) (fun b61 => ?_)
      have hp64 := hp56.pull2
      have hp65 := hp64.pull2
      have hp66 := hp65.pull2
      refine OPS.cons (opStep.call (some 46) [.pointer (some ⟨sb, 0, none⟩), .string u.Key, .agg #[.int .i64 u.Entry.Tag.Count, .int .i64 u.Entry.Tag.Client]] (by kernel_rfl) (shfin_c w0 _ _ _ dl a33 n34 c35 C36 F37 D38 hdl (by have h_ := PreD.len hq39; omega) u.Key u.Entry.Tag hp66) ?_)
      rintro _ w67 ⟨a69, n70, c71, C72, rfl, hq75, hp68⟩
      refine ⟨_, rfl, ?_⟩
      refine OPS.nil ?_
      refine bodyQ.ofN ?_
      refine bodyQ.of _ rfl [] trivial ?_
      have hp76 := hp68.pull2
      have hp77 := hp76.pull2
      have hp78 := hp77.pull2
      exact ⟨_, _, _, _, _, _, rfl, ⟨C36, .inl ⟨by unfold comesU; have q0_ := h24; have q1_ := h60; first | grind | (simp_all; done), hq39⟩, .inl ⟨by unfold endsU; have q0_ := h24; have q1_ := h60; first | grind | (simp_all; done), hq75⟩⟩, (hp78.sub (.cons_cons _ (.cons_cons _ (.cons_cons _ (.cons _ (.refl _))))))⟩
    · refine WP.skip ?_
      refine bodyQ.ofN ?_
      refine bodyQ.of _ rfl [] trivial ?_
      have hp79 := hp56.pull2
      have hp80 := hp79.pull2
      have hp81 := hp80.pull2
      exact ⟨_, _, _, _, _, _, rfl, ⟨C36, .inl ⟨by unfold comesU; have q0_ := h24; have q1_ := h60; first | grind | (simp_all; done), hq39⟩, .inr ⟨by unfold endsU; have q0_ := h24; have q1_ := h60; first | grind | (simp_all; done), rfl⟩⟩, (hp81.sub (.cons_cons _ (.cons_cons _ (.cons_cons _ (.cons _ (.refl _))))))⟩
  · refine WP.skip ?_
    refine thn_n ?_
    refine WP.cut (fun e96 w97 => ∃ (x94 : Bool), (True) ∧ Bp x94 (((u.Kind = 2)) ∨ ((¬ (u.Kind = 2)) ∧ (u.Kind = 3) ∧ (u.Entry.Fin = true))) ∧ List.map e96 [0, 3, 39] = [.pointer (some ⟨sb, 0, none⟩), .pointer (some ⟨g3, 0, none⟩), .bool x94] ∧ Hp w0 Non (Res.row g3 [.int .i64 u.Kind, .string u.Key, .int .i64 u.Entry.Tag.Count, .int .i64 u.Entry.Tag.Client, .bool u.Entry.Fin, .bool u.Entry.Has, .slice u.Entry.Data.a u.Entry.Data.n u.Entry.Data.c] 36 :: Res.row sb [.int .i64 ((dl : Nat) : Int), .slice a n c] 29 :: Res.own 66 6 (.slice a n c) n (List.flatMap cC C) :: Res.dat F D :: L) w97) ?_ ?_
    · refine WP.region _ rfl (by kernel_rfl) ?_
      refine OPS.batch 4 {} [.int .i64 u.Kind] [0, 3, 30] [.pointer (some ⟨sb, 0, none⟩), .pointer (some ⟨g3, 0, none⟩), .bool (decide (u.Kind = 2))] (.cons (Ld.row1 (P := Try.prog) (t := 3) (o := 0) (v := .int .i64 u.Kind) hp20.get0 (by kernel_rfl)) .nil) (by kernel_rfl) (fun b83 => ?_)
      by_cases h84 : u.Kind = 2
      · refine OPS.batch 0 {} [] [0, 3, 30] [.pointer (some ⟨sb, 0, none⟩), .pointer (some ⟨g3, 0, none⟩), .bool (decide (u.Kind = 2))] .nil (by kernel_rfl) (fun b85 => ?_)
        refine OPS.re [.pointer (some ⟨sb, 0, none⟩), .pointer (some ⟨g3, 0, none⟩), .bool true] (by rw [show (decide (u.Kind = 2)) = true from Bp.dec.tt h84]) ?_
        refine OPS.batch 9 { wraps := [39] } [] [0, 3, 39] [.pointer (some ⟨sb, 0, none⟩), .pointer (some ⟨g3, 0, none⟩), .bool true] .nil (by kernel_rfl) (fun b86 => ?_)
        refine OPS.nil ?_
        refine thn_n ?_
        exact ⟨true, trivial, Bp.of Bp.t (by first | (simp only [h84, iff_false, false_iff, iff_true, true_iff, Classical.not_not, and_true, true_and, and_false, false_and, or_true, true_or, or_false, false_or, not_true_eq_false, not_false_eq_true, and_self, or_self, iff_self]; done) | (simp [h84]; done) | grind | (simp_all; done)), by kernel_rfl, hp20⟩
      · refine OPS.batch 0 {} [] [0, 3, 30] [.pointer (some ⟨sb, 0, none⟩), .pointer (some ⟨g3, 0, none⟩), .bool (decide (u.Kind = 2))] .nil (by kernel_rfl) (fun b87 => ?_)
        refine OPS.re [.pointer (some ⟨sb, 0, none⟩), .pointer (some ⟨g3, 0, none⟩), .bool false] (by rw [show (decide (u.Kind = 2)) = false from Bp.dec.ff h84]) ?_
        refine OPS.batch 4 {} [.int .i64 u.Kind] [0, 3, 30, 34] [.pointer (some ⟨sb, 0, none⟩), .pointer (some ⟨g3, 0, none⟩), .bool false, .bool (decide (u.Kind = 3))] (.cons (Ld.row1 (P := Try.prog) (t := 3) (o := 0) (v := .int .i64 u.Kind) hp20.get0 (by kernel_rfl)) .nil) (by kernel_rfl) (fun b88 => ?_)
        by_cases h89 : u.Kind = 3
        · refine OPS.batch 0 {} [] [0, 3, 30, 34] [.pointer (some ⟨sb, 0, none⟩), .pointer (some ⟨g3, 0, none⟩), .bool false, .bool (decide (u.Kind = 3))] .nil (by kernel_rfl) (fun b90 => ?_)
          refine OPS.re [.pointer (some ⟨sb, 0, none⟩), .pointer (some ⟨g3, 0, none⟩), .bool false, .bool true] (by rw [show (decide (u.Kind = 3)) = true from Bp.dec.tt h89]) ?_
          refine OPS.batch 5 { wraps := [38, 39] } [.bool u.Entry.Fin] [0, 3, 39] [.pointer (some ⟨sb, 0, none⟩), .pointer (some ⟨g3, 0, none⟩), .bool u.Entry.Fin] (.cons (Ld.row1 (P := Try.prog) (t := 4) (o := 4) (v := .bool u.Entry.Fin) hp20.get0 (by kernel_rfl)) .nil) (by kernel_rfl) (fun b91 => ?_)
          refine OPS.nil ?_
          refine thn_n ?_
          exact ⟨u.Entry.Fin, trivial, Bp.of Bp.var (by first | (simp only [h84, h89, iff_false, false_iff, iff_true, true_iff, Classical.not_not, and_true, true_and, and_false, false_and, or_true, true_or, or_false, false_or, not_true_eq_false, not_false_eq_true, and_self, or_self, iff_self]; done) | (simp [h84, h89]; done) | grind | (simp_all; done)), by kernel_rfl, hp20⟩
        · refine OPS.batch 0 {} [] [0, 3, 30, 34] [.pointer (some ⟨sb, 0, none⟩), .pointer (some ⟨g3, 0, none⟩), .bool false, .bool (decide (u.Kind = 3))] .nil (by kernel_rfl) (fun b92 => ?_)
          refine OPS.re [.pointer (some ⟨sb, 0, none⟩), .pointer (some ⟨g3, 0, none⟩), .bool false, .bool false] (by rw [show (decide (u.Kind = 3)) = false from Bp.dec.ff h89]) ?_
          refine OPS.batch 5 { wraps := [38, 39] } [] [0, 3, 39] [.pointer (some ⟨sb, 0, none⟩), .pointer (some ⟨g3, 0, none⟩), .bool false] .nil (by kernel_rfl) (fun b93 => ?_)
          refine OPS.nil ?_
          refine thn_n ?_
          exact ⟨false, trivial, Bp.of Bp.f (by first | (simp only [h84, h89, iff_false, false_iff, iff_true, true_iff, Classical.not_not, and_true, true_and, and_false, false_and, or_true, true_or, or_false, false_or, not_true_eq_false, not_false_eq_true, and_self, or_self, iff_self]; done) | (simp [h84, h89]; done) | grind | (simp_all; done)), by kernel_rfl, hp20⟩
    rintro e96 w97 ⟨x94, hd99, hb95, hE100, hp98⟩
    obtain ⟨b101, rfl⟩ := toMk hE100
    clear hE100
    clear hd99
    refine WP.test (p := ((u.Kind = 2)) ∨ ((¬ (u.Kind = 2)) ∧ (u.Kind = 3) ∧ (u.Entry.Fin = true))) rfl hb95 (fun h102 => ?_) (fun h102 => ?_)
    · refine WP.region _ rfl (by kernel_rfl) ?_
      refine OPS.batch 6 {} [.string u.Key, .agg #[.int .i64 u.Entry.Tag.Count, .int .i64 u.Entry.Tag.Client]] [40, 42, 45] [.pointer (some ⟨sb, 0, none⟩), .string u.Key, .agg #[.int .i64 u.Entry.Tag.Count, .int .i64 u.Entry.Tag.Client]] (.cons (Ld.row1 (P := Try.prog) (t := 9) (o := 1) (v := .string u.Key) hp98.get0 (by kernel_rfl)) (.cons (show Ld Try.prog w97 31 ⟨g3, 2, none⟩ (.agg #[.int .i64 u.Entry.Tag.Count, .int .i64 u.Entry.Tag.Client]) from Ld.rowN (cs := [.int .i64 u.Entry.Tag.Count, .int .i64 u.Entry.Tag.Client]) hp98.get0 (by kernel_rfl)) .nil)) (by kernel_rfl) (fun b103 => ?_)
      have hp106 := hp98.pull3
      have hp107 := hp106.pull3
      have hp108 := hp107.pull3
      refine OPS.cons (opStep.call (some 46) [.pointer (some ⟨sb, 0, none⟩), .string u.Key, .agg #[.int .i64 u.Entry.Tag.Count, .int .i64 u.Entry.Tag.Client]] (by kernel_rfl) (shfin_c w0 _ _ _ dl a n c C F D hdl (by omega) u.Key u.Entry.Tag hp108) ?_)
      rintro _ w109 ⟨a111, n112, c113, C114, rfl, hq117, hp110⟩
      refine ⟨_, rfl, ?_⟩
      refine OPS.nil ?_
      refine bodyQ.ofN ?_
      refine bodyQ.of _ rfl [] trivial ?_
      have hp118 := hp110.pull2
      have hp119 := hp118.pull2
      have hp120 := hp119.pull2
      exact ⟨_, _, _, _, _, _, rfl, ⟨C, .inr ⟨by unfold comesU; have q0_ := h24; have q1_ := h102; first | grind | (simp_all; done), rfl, rfl⟩, .inl ⟨by unfold endsU; have q0_ := h24; have q1_ := h102; first | grind | (simp_all; done), hq117⟩⟩, (hp120.sub (.cons_cons _ (.cons_cons _ (.cons_cons _ (.cons _ (.refl _))))))⟩
    · refine WP.skip ?_
      refine bodyQ.ofN ?_
      refine bodyQ.of _ rfl [] trivial ?_
      have hp121 := hp98.pull3
      have hp122 := hp121.pull3
      have hp123 := hp122.pull3
      exact ⟨_, _, _, _, _, _, rfl, ⟨C, .inr ⟨by unfold comesU; have q0_ := h24; have q1_ := h102; first | grind | (simp_all; done), rfl, rfl⟩, .inr ⟨by unfold endsU; have q0_ := h24; have q1_ := h102; first | grind | (simp_all; done), rfl⟩⟩, (hp123.sub (.cons_cons _ (.cons_cons _ (.cons_cons _ (.cons _ (.refl _))))))⟩

end Go.Proofs.Ytdkgdidnknojlaa.K
namespace Go.Proofs.Ytdkgdidnknojlaa.K
open Go Go.Proofs Go.RowKit
set_option linter.unusedVariables false
set_option linter.unusedSimpArgs false
set_option maxRecDepth 20000
set_option maxHeartbeats 4000000

theorem se_true (e f : GEntry) (d x : ByteArray) (w : World) (k1 : Bt w e.Data d) (k2 : Bt w f.Data x) (hb : d.size ≤ 65540) (hs : SameE e f d x) : Calls Try.prog 28 #[GEntry.val e, GEntry.val f] w (fun r_ w' => r_ = .returned (.bool true) ∧ Fram Non w w') :=
  (se_c e f d x w k1 k2 hb).mono fun _ _ ⟨f_, h1, h2, h3⟩ => ⟨by rw [h1, show f_ = true from h2.tt hs], h3⟩
theorem before_true (a b : GTag) (w : World) (h : tlt a b) : Calls Try.prog 30 #[GTag.val a, GTag.val b] w (fun r_ w' => r_ = .returned (.bool true) ∧ Fram Non w w') :=
  (before_c a b w).mono fun _ _ ⟨f_, h1, h2, h3⟩ => ⟨by rw [h1, show f_ = true from h2.tt h], h3⟩
theorem before_false (a b : GTag) (w : World) (h : ¬ tlt a b) : Calls Try.prog 30 #[GTag.val a, GTag.val b] w (fun r_ w' => r_ = .returned (.bool false) ∧ Fram Non w w') :=
  (before_c a b w).mono fun _ _ ⟨f_, h1, h2, h3⟩ => ⟨by rw [h1, show f_ = false from h2.ff h], h3⟩
theorem holds_c (sb dl : Nat) (a : Option Addr) (n c : Nat) (C : List Ce) (w : World) (hS : ShH w sb dl a n c C) (hb : C.length ≤ 1048600) (hs : List Hd) (hhl : hs.length ≤ 1048600) (ha : Option Addr) (hn hc_ : Nat) (hnl : hn = hs.length) (hsl : SlR w ha hn (hs.flatMap hC)) (hE : ∀ y ∈ hs, y.h.Entries.n = y.ls.length ∧ SlR w y.h.Entries.a y.h.Entries.n (y.ls.flatMap eC)) (hc : CB w C) (hX : ∀ y ∈ hs, ∀ x ∈ y.ls, Bt w x.e.Data x.d) (hok : HolOk C hs) :
    Calls Try.prog 11 #[.pointer (some ⟨sb, 0, none⟩), .slice ha hn hc_] w (fun r_ w' => r_ = .returned (.bool true) ∧ Fram Non w w') := by
  have hln := hS.len
  have hct := hok.count
  refine calls_of Try.func11 rfl 94 rfl (by simp) ?_
  have hp0 := Hp.init w
  have he0 : List.map (env0 [.pointer (some ⟨sb, 0, none⟩), .slice ha hn hc_]) [0, 1] = [.pointer (some ⟨sb, 0, none⟩), .slice ha hn hc_] := by kernel_rfl
  obtain ⟨b0, he0⟩ := toMk he0
  rw [he0]
  clear he0
  refine WP.seq ?_
  refine WP.pure {} [] [0, 1] [.pointer (some ⟨sb, 0, none⟩), .slice ha hn hc_] .nil (by kernel_rfl) (fun b1 => ?_)
  refine thn_n ?_
  refine WP.seq ?_
  refine WP.pure {} [] [0, 1, 5] [.pointer (some ⟨sb, 0, none⟩), .slice ha hn hc_, .int .i64 0] .nil (by kernel_rfl) (fun b2 => ?_)
  refine thn_n ?_
  refine WP.seq ?_
  refine WP.seq ?_
  refine WP.pure {} [] [0, 1, 5, 11, 12, 13] [.pointer (some ⟨sb, 0, none⟩), .slice ha hn hc_, .int .i64 0, .slice ha hn hc_, .int .i64 ((hn : Nat) : Int), .int .i64 0] .nil (by kernel_rfl) (fun b3 => ?_)
  refine thn_n ?_
  refine WP.block ?_
  refine WP.loop (fun mz_ e4 w5 => ∃ (i : Nat) (N : Nat), mz_ = hs.length - i ∧ (i ≤ hs.length ∧ N = sumH hs i) ∧ List.map e4 [0, 1, 5, 11, 12, 13] = [.pointer (some ⟨sb, 0, none⟩), .slice ha hn hc_, .int .i64 ((N : Nat) : Int), .slice ha hn hc_, .int .i64 ((hn : Nat) : Int), .int .i64 (i : Int)] ∧ Hp w Non [] w5) (hs.length - (0)) ⟨0, 0, rfl, ⟨Nat.zero_le _, rfl⟩, by kernel_rfl, hp0⟩ ?_
  rintro _ e4 w5 ⟨i, N, rfl, hI7, hE8, hp6⟩
  obtain ⟨b9, rfl⟩ := toMk hE8
  clear hE8
  obtain ⟨pa, pN⟩ := hI7
  have hsu := sumH_le pa
  have hct := hok.count
  refine WP.seq ?_
  refine WP.pure {} [] [0, 1, 5, 11, 12, 13, 14] [.pointer (some ⟨sb, 0, none⟩), .slice ha hn hc_, .int .i64 ((N : Nat) : Int), .slice ha hn hc_, .int .i64 ((hn : Nat) : Int), .int .i64 (i : Int), .bool (decide ((i : Int) < ((hn : Nat) : Int)))] .nil (by kernel_rfl) (fun b10 => ?_)
  refine thn_n ?_
  refine WP.seq ?_
  refine WP.test (p := (i : Int) < ((hn : Nat) : Int)) rfl Bp.dec (fun h11 => ?_) (fun h11 => ?_)
  · refine WP.skip ?_
    refine thn_n ?_
    refine WP.seq ?_
    refine WP.block ?_
    refine WP.seq ?_
    refine WP.region _ rfl (by kernel_rfl) ?_
    have hy15 : (hs)[i]? = some hs[i]! := get_bang (by first | (omega) | (simp only [List.length_append, List.length_cons, List.length_nil]; omega) | (simp only [List.length_take, List.length_append, List.length_cons, List.length_nil]; omega))
    refine OPS.batch 3 {} [GHeld.val (hs[i]!.h)] [0, 1, 5, 11, 12, 13, 15, 17] [.pointer (some ⟨sb, 0, none⟩), .slice ha hn hc_, .int .i64 ((N : Nat) : Int), .slice ha hn hc_, .int .i64 ((hn : Nat) : Int), .int .i64 (i : Int), .int .i64 (i : Int), GHeld.val (hs[i]!.h)] (.cons (show InB ((i : Int)) (hn) from ⟨by omega, by omega⟩) (.cons ((SlR.fram hsl hp6.fr).some (by omega)) (.cons (Ld.add0 (Ld.elN (P := Try.prog) (t := 69) (SlR.fram hsl hp6.fr).rd 2 (fun _ => rfl) hy15 (o := 0) (cs := [.string (hs[i]!.h.Key), .slice (hs[i]!.h.Entries.a) (hs[i]!.h.Entries.n) (hs[i]!.h.Entries.c)]) (by kernel_rfl))) .nil))) (by kernel_rfl) (fun b16 => ?_)
    refine OPS.cons (opStep.alloc hp6 [.string ByteArray.empty, .slice none 0 0] (by kernel_rfl) (fun g19 w17 hp18 => ?_))
    refine OPS.batch 1 {} [] [0, 1, 5, 6, 7, 11, 12, 13, 17] [.pointer (some ⟨sb, 0, none⟩), .slice ha hn hc_, .int .i64 ((N : Nat) : Int), .int .i64 (i : Int), .pointer (some ⟨g19, 0, none⟩), .slice ha hn hc_, .int .i64 ((hn : Nat) : Int), .int .i64 (i : Int), GHeld.val (hs[i]!.h)] .nil (by kernel_rfl) (fun b20 => ?_)
    refine OPS.cons (opStep.store0 hp18 rfl [.string (hs[i]!.h.Key), .slice (hs[i]!.h.Entries.a) (hs[i]!.h.Entries.n) (hs[i]!.h.Entries.c)] [.string (hs[i]!.h.Key), .slice (hs[i]!.h.Entries.a) (hs[i]!.h.Entries.n) (hs[i]!.h.Entries.c)] (by kernel_rfl) (fun w21 hp22 => ?_))
    refine OPS.nil ?_
    refine thn_n ?_
    refine WP.seq ?_
    refine WP.cut (fun e45 w46 => ∃ (_ : Unit), (((0 < (i : Int)) ∧ True) ∨ ((¬ (0 < (i : Int))) ∧ True)) ∧ List.map e45 [0, 1, 5, 7, 11, 12, 13, 36] = [.pointer (some ⟨sb, 0, none⟩), .slice ha hn hc_, .int .i64 ((N : Nat) : Int), .pointer (some ⟨g19, 0, none⟩), .slice ha hn hc_, .int .i64 ((hn : Nat) : Int), .int .i64 (i : Int), .bool false] ∧ Hp w Non [Res.row g19 [.string (hs[i]!.h.Key), .slice (hs[i]!.h.Entries.a) (hs[i]!.h.Entries.n) (hs[i]!.h.Entries.c)] 69] w46) ?_ ?_
    · have hne := hok.ne i (by omega)
      have hel := (hE _ (bang_mem (by omega : i < hs.length))).1
      have hs1 := sumH_succ (by omega : i < hs.length)
      have hs2 := sumH_le (by omega : i + 1 ≤ hs.length)
      have hp26 := hp22.drew
      refine WP.quiet (fun w24 => Hp w Non [Res.row g19 [.string (hs[i]!.h.Key), .slice (hs[i]!.h.Entries.a) (hs[i]!.h.Entries.n) (hs[i]!.h.Entries.c)] 69] w24) (by kernel_rfl) hp26 ?_
      have hnehp26 : ∃ wz_, (fun w24 => Hp w Non [Res.row g19 [.string (hs[i]!.h.Key), .slice (hs[i]!.h.Entries.a) (hs[i]!.h.Entries.n) (hs[i]!.h.Entries.c)] 69] w24) wz_ := ⟨_, hp26⟩
      refine QOPS.batch 8 { subs := [21] } [.slice (hs[i]!.h.Entries.a) (hs[i]!.h.Entries.n) (hs[i]!.h.Entries.c), .bool false] [0, 1, 5, 6, 7, 11, 12, 13, 22, 25] [.pointer (some ⟨sb, 0, none⟩), .slice ha hn hc_, .int .i64 ((N : Nat) : Int), .int .i64 (i : Int), .pointer (some ⟨g19, 0, none⟩), .slice ha hn hc_, .int .i64 ((hn : Nat) : Int), .int .i64 (i : Int), .bool false, .bool (decide (0 < (i : Int)))] hnehp26 (fun w27 hp28 => QB.mk (.cons (Ld.row1 (P := Try.prog) (t := 48) (o := 1) (v := .slice (hs[i]!.h.Entries.a) (hs[i]!.h.Entries.n) (hs[i]!.h.Entries.c)) hp28.get0 (by kernel_rfl)) (.cons (show (.bool (decide (((hs[i]!.h.Entries.n : Nat) : Int) = 0)) : Go.Value) = .bool false from congrArg Value.bool (decide_eq_false (by omega))) .nil)) (by kernel_rfl)) (fun b29 => ?_)
      by_cases h30 : 0 < (i : Int)
      · refine QOPS.batch 0 {} [] [0, 1, 5, 6, 7, 11, 12, 13, 22, 25] [.pointer (some ⟨sb, 0, none⟩), .slice ha hn hc_, .int .i64 ((N : Nat) : Int), .int .i64 (i : Int), .pointer (some ⟨g19, 0, none⟩), .slice ha hn hc_, .int .i64 ((hn : Nat) : Int), .int .i64 (i : Int), .bool false, .bool (decide (0 < (i : Int)))] hnehp26 (fun _ _ => QB.mk .nil (by kernel_rfl)) (fun b31 => ?_)
        refine QOPS.re [.pointer (some ⟨sb, 0, none⟩), .slice ha hn hc_, .int .i64 ((N : Nat) : Int), .int .i64 (i : Int), .pointer (some ⟨g19, 0, none⟩), .slice ha hn hc_, .int .i64 ((hn : Nat) : Int), .int .i64 (i : Int), .bool false, .bool true] (by rw [show (decide (0 < (i : Int))) = true from Bp.dec.tt h30]) ?_
        have hy35 : (hs)[(i - 1)]? = some hs[(i - 1)]! := get_bang (by first | (omega) | (simp only [List.length_append, List.length_cons, List.length_nil]; omega) | (simp only [List.length_take, List.length_append, List.length_cons, List.length_nil]; omega))
        refine QOPS.batch 11 { wraps := [35, 36], subs := [28, 34] } [.int .i64 ((i - 1 : Nat) : Int), .string (hs[(i - 1)]!.h.Key), .string (hs[i]!.h.Key), .bool false] [0, 1, 5, 7, 11, 12, 13, 36] [.pointer (some ⟨sb, 0, none⟩), .slice ha hn hc_, .int .i64 ((N : Nat) : Int), .pointer (some ⟨g19, 0, none⟩), .slice ha hn hc_, .int .i64 ((hn : Nat) : Int), .int .i64 (i : Int), .bool false] hnehp26 (fun w32 hp33 => QB.mk (.cons (show Rng .i64 ((i : Int) - 1) from Rng.i64 (by omega)) (.cons (show (.int .i64 ((i : Int) - 1) : Go.Value) = .int .i64 ((i - 1 : Nat) : Int) from congrArg (Value.int .i64) ((show (i : Int) - 1 = ((i - 1 : Nat) : Int) from by omega))) (.cons (show InB (((i - 1 : Nat) : Int)) (hn) from ⟨by omega, by omega⟩) (.cons ((SlR.fram hsl hp33.fr).some (by omega)) (.cons (Ld.add0 (Ld.el1 (P := Try.prog) (t := 9) (SlR.fram hsl hp33.fr).rd 2 (fun _ => rfl) hy35 (o := 0) (v := .string (hs[(i - 1)]!.h.Key)) (by kernel_rfl))) (.cons (Ld.row1 (P := Try.prog) (t := 9) (o := 0) (v := .string (hs[i]!.h.Key)) hp33.get0 (by kernel_rfl)) (.cons (show (.bool (!(Op.bytesLess (hs[(i - 1)]!.h.Key).toList (hs[i]!.h.Key).toList)) : Go.Value) = .bool false from congrArg Value.bool ((by have h_ := hok.keys i (by omega) (by omega); rw [h_]; rfl))) .nil))))))) (by kernel_rfl)) (fun b36 => ?_)
        refine QOPS.nil (fun w37 hp38 => ?_)
        refine thn_n ?_
        exact ⟨(), Or.inl ⟨h30, trivial⟩, by kernel_rfl, hp38⟩
      · refine QOPS.batch 0 {} [] [0, 1, 5, 6, 7, 11, 12, 13, 22, 25] [.pointer (some ⟨sb, 0, none⟩), .slice ha hn hc_, .int .i64 ((N : Nat) : Int), .int .i64 (i : Int), .pointer (some ⟨g19, 0, none⟩), .slice ha hn hc_, .int .i64 ((hn : Nat) : Int), .int .i64 (i : Int), .bool false, .bool (decide (0 < (i : Int)))] hnehp26 (fun _ _ => QB.mk .nil (by kernel_rfl)) (fun b39 => ?_)
        refine QOPS.re [.pointer (some ⟨sb, 0, none⟩), .slice ha hn hc_, .int .i64 ((N : Nat) : Int), .int .i64 (i : Int), .pointer (some ⟨g19, 0, none⟩), .slice ha hn hc_, .int .i64 ((hn : Nat) : Int), .int .i64 (i : Int), .bool false, .bool false] (by rw [show (decide (0 < (i : Int))) = false from Bp.dec.ff h30]) ?_
        refine QOPS.batch 11 { wraps := [35, 36] } [] [0, 1, 5, 7, 11, 12, 13, 36] [.pointer (some ⟨sb, 0, none⟩), .slice ha hn hc_, .int .i64 ((N : Nat) : Int), .pointer (some ⟨g19, 0, none⟩), .slice ha hn hc_, .int .i64 ((hn : Nat) : Int), .int .i64 (i : Int), .bool false] hnehp26 (fun w40 hp41 => QB.mk .nil (by kernel_rfl)) (fun b42 => ?_)
        refine QOPS.nil (fun w43 hp44 => ?_)
        refine thn_n ?_
        exact ⟨(), Or.inr (⟨h30, trivial⟩), by kernel_rfl, hp44⟩
    rintro e45 w46 ⟨_, hd48, hE49, hp47⟩
    obtain ⟨b50, rfl⟩ := toMk hE49
    clear hE49
    refine WP.condF rfl ?_
    refine WP.skip ?_
    refine thn_n ?_
    refine WP.seq ?_
    have hne := hok.ne i (by omega)
    have hel := (hE _ (bang_mem (by omega : i < hs.length))).1
    have hs1 := sumH_succ (by omega : i < hs.length)
    have hs2 := sumH_le (by omega : i + 1 ≤ hs.length)
    refine WP.pure {} [.slice (hs[i]!.h.Entries.a) (hs[i]!.h.Entries.n) (hs[i]!.h.Entries.c)] [0, 1, 5, 7, 11, 12, 13, 38, 39, 40] [.pointer (some ⟨sb, 0, none⟩), .slice ha hn hc_, .int .i64 ((N : Nat) : Int), .pointer (some ⟨g19, 0, none⟩), .slice ha hn hc_, .int .i64 ((hn : Nat) : Int), .int .i64 (i : Int), .slice (hs[i]!.h.Entries.a) (hs[i]!.h.Entries.n) (hs[i]!.h.Entries.c), .int .i64 ((hs[i]!.h.Entries.n : Nat) : Int), .int .i64 0] (.cons (Ld.row1 (P := Try.prog) (t := 48) (o := 1) (v := .slice (hs[i]!.h.Entries.a) (hs[i]!.h.Entries.n) (hs[i]!.h.Entries.c)) hp47.get0 (by kernel_rfl)) .nil) (by kernel_rfl) (fun b51 => ?_)
    refine thn_n ?_
    refine WP.block ?_
    refine WP.loop (fun mz_ e52 w53 => ∃ (j : Nat), mz_ = hs[i]!.ls.length - j ∧ (j ≤ hs[i]!.ls.length ∧ True) ∧ List.map e52 [0, 1, 5, 7, 11, 12, 13, 38, 39, 40] = [.pointer (some ⟨sb, 0, none⟩), .slice ha hn hc_, .int .i64 ((N + j : Nat) : Int), .pointer (some ⟨g19, 0, none⟩), .slice ha hn hc_, .int .i64 ((hn : Nat) : Int), .int .i64 (i : Int), .slice (hs[i]!.h.Entries.a) (hs[i]!.h.Entries.n) (hs[i]!.h.Entries.c), .int .i64 ((hs[i]!.h.Entries.n : Nat) : Int), .int .i64 (j : Int)] ∧ Hp w Non [Res.row g19 [.string (hs[i]!.h.Key), .slice (hs[i]!.h.Entries.a) (hs[i]!.h.Entries.n) (hs[i]!.h.Entries.c)] 69] w53) (hs[i]!.ls.length - (0)) ⟨0, rfl, ⟨Nat.zero_le _, trivial⟩, by kernel_rfl, hp47⟩ ?_
    rintro _ e52 w53 ⟨j, rfl, hI55, hE56, hp54⟩
    obtain ⟨b57, rfl⟩ := toMk hE56
    clear hE56
    obtain ⟨qa, _⟩ := hI55
    refine WP.seq ?_
    refine WP.pure {} [] [0, 1, 5, 7, 11, 12, 13, 38, 39, 40, 41] [.pointer (some ⟨sb, 0, none⟩), .slice ha hn hc_, .int .i64 ((N + j : Nat) : Int), .pointer (some ⟨g19, 0, none⟩), .slice ha hn hc_, .int .i64 ((hn : Nat) : Int), .int .i64 (i : Int), .slice (hs[i]!.h.Entries.a) (hs[i]!.h.Entries.n) (hs[i]!.h.Entries.c), .int .i64 ((hs[i]!.h.Entries.n : Nat) : Int), .int .i64 (j : Int), .bool (decide ((j : Int) < ((hs[i]!.h.Entries.n : Nat) : Int)))] .nil (by kernel_rfl) (fun b58 => ?_)
    refine thn_n ?_
    refine WP.seq ?_
    refine WP.test (p := (j : Int) < ((hs[i]!.h.Entries.n : Nat) : Int)) rfl Bp.dec (fun h59 => ?_) (fun h59 => ?_)
    · refine WP.skip ?_
      refine thn_n ?_
      refine WP.seq ?_
      refine WP.block ?_
      refine WP.seq ?_
      refine WP.region _ rfl (by kernel_rfl) ?_
      have hy63 : (hs[i]!.ls)[j]? = some (hs[i]!.ls)[j]! := get_bang (by first | (omega) | (simp only [List.length_append, List.length_cons, List.length_nil]; omega) | (simp only [List.length_take, List.length_append, List.length_cons, List.length_nil]; omega))
      refine OPS.batch 3 {} [GEntry.val ((hs[i]!.ls)[j]!.e)] [0, 1, 5, 7, 11, 12, 13, 38, 39, 40, 42, 44] [.pointer (some ⟨sb, 0, none⟩), .slice ha hn hc_, .int .i64 ((N + j : Nat) : Int), .pointer (some ⟨g19, 0, none⟩), .slice ha hn hc_, .int .i64 ((hn : Nat) : Int), .int .i64 (i : Int), .slice (hs[i]!.h.Entries.a) (hs[i]!.h.Entries.n) (hs[i]!.h.Entries.c), .int .i64 ((hs[i]!.h.Entries.n : Nat) : Int), .int .i64 (j : Int), .int .i64 (j : Int), GEntry.val ((hs[i]!.ls)[j]!.e)] (.cons (show InB ((j : Int)) (hs[i]!.h.Entries.n) from ⟨by omega, by omega⟩) (.cons ((SlR.fram (hE _ (bang_mem (by omega : i < hs.length))).2 hp54.fr).some (by omega)) (.cons (Ld.add0 (Ld.elN (P := Try.prog) (t := 34) (SlR.fram (hE _ (bang_mem (by omega : i < hs.length))).2 hp54.fr).rd 5 (fun _ => rfl) hy63 (o := 0) (cs := [.int .i64 ((hs[i]!.ls)[j]!.e.Tag.Count), .int .i64 ((hs[i]!.ls)[j]!.e.Tag.Client), .bool ((hs[i]!.ls)[j]!.e.Fin), .bool ((hs[i]!.ls)[j]!.e.Has), .slice ((hs[i]!.ls)[j]!.e.Data.a) ((hs[i]!.ls)[j]!.e.Data.n) ((hs[i]!.ls)[j]!.e.Data.c)]) (by kernel_rfl))) .nil))) (by kernel_rfl) (fun b64 => ?_)
      refine OPS.cons (opStep.alloc hp54 [.int .i64 0, .int .i64 0, .bool false, .bool false, .slice none 0 0] (by kernel_rfl) (fun g67 w65 hp66 => ?_))
      refine OPS.batch 1 {} [] [0, 1, 5, 7, 8, 9, 11, 12, 13, 38, 39, 40, 44] [.pointer (some ⟨sb, 0, none⟩), .slice ha hn hc_, .int .i64 ((N + j : Nat) : Int), .pointer (some ⟨g19, 0, none⟩), .int .i64 (j : Int), .pointer (some ⟨g67, 0, none⟩), .slice ha hn hc_, .int .i64 ((hn : Nat) : Int), .int .i64 (i : Int), .slice (hs[i]!.h.Entries.a) (hs[i]!.h.Entries.n) (hs[i]!.h.Entries.c), .int .i64 ((hs[i]!.h.Entries.n : Nat) : Int), .int .i64 (j : Int), GEntry.val ((hs[i]!.ls)[j]!.e)] .nil (by kernel_rfl) (fun b68 => ?_)
      refine OPS.cons (opStep.store0 hp66 rfl [.int .i64 ((hs[i]!.ls)[j]!.e.Tag.Count), .int .i64 ((hs[i]!.ls)[j]!.e.Tag.Client), .bool ((hs[i]!.ls)[j]!.e.Fin), .bool ((hs[i]!.ls)[j]!.e.Has), .slice ((hs[i]!.ls)[j]!.e.Data.a) ((hs[i]!.ls)[j]!.e.Data.n) ((hs[i]!.ls)[j]!.e.Data.c)] [.int .i64 ((hs[i]!.ls)[j]!.e.Tag.Count), .int .i64 ((hs[i]!.ls)[j]!.e.Tag.Client), .bool ((hs[i]!.ls)[j]!.e.Fin), .bool ((hs[i]!.ls)[j]!.e.Has), .slice ((hs[i]!.ls)[j]!.e.Data.a) ((hs[i]!.ls)[j]!.e.Data.n) ((hs[i]!.ls)[j]!.e.Data.c)] (by kernel_rfl) (fun w69 hp70 => ?_))
      refine OPS.nil ?_
      refine thn_n ?_
      refine WP.seq ?_
      refine WP.region _ rfl (by kernel_rfl) ?_
      refine OPS.batch 5 {} [.string (hs[i]!.h.Key), .agg #[.int .i64 ((hs[i]!.ls)[j]!.e.Tag.Count), .int .i64 ((hs[i]!.ls)[j]!.e.Tag.Client)]] [0, 1, 5, 7, 8, 9, 11, 12, 13, 38, 39, 40, 45, 47, 49] [.pointer (some ⟨sb, 0, none⟩), .slice ha hn hc_, .int .i64 ((N + j : Nat) : Int), .pointer (some ⟨g19, 0, none⟩), .int .i64 (j : Int), .pointer (some ⟨g67, 0, none⟩), .slice ha hn hc_, .int .i64 ((hn : Nat) : Int), .int .i64 (i : Int), .slice (hs[i]!.h.Entries.a) (hs[i]!.h.Entries.n) (hs[i]!.h.Entries.c), .int .i64 ((hs[i]!.h.Entries.n : Nat) : Int), .int .i64 (j : Int), .pointer (some ⟨sb, 0, none⟩), .string (hs[i]!.h.Key), .agg #[.int .i64 ((hs[i]!.ls)[j]!.e.Tag.Count), .int .i64 ((hs[i]!.ls)[j]!.e.Tag.Client)]] (.cons (Ld.row1 (P := Try.prog) (t := 9) (o := 0) (v := .string (hs[i]!.h.Key)) hp70.get1 (by kernel_rfl)) (.cons (show Ld Try.prog w69 31 ⟨g67, 0, none⟩ (.agg #[.int .i64 ((hs[i]!.ls)[j]!.e.Tag.Count), .int .i64 ((hs[i]!.ls)[j]!.e.Tag.Client)]) from Ld.rowN (cs := [.int .i64 ((hs[i]!.ls)[j]!.e.Tag.Count), .int .i64 ((hs[i]!.ls)[j]!.e.Tag.Client)]) hp70.get0 (by kernel_rfl)) .nil)) (by kernel_rfl) (fun b71 => ?_)
      obtain ⟨k, hat0, hk, hse⟩ := hok.cell i j (by omega) (by omega)
      refine OPS.cons (opStep.call (some 50) [.pointer (some ⟨sb, 0, none⟩), .string (hs[i]!.h.Key), .agg #[.int .i64 ((hs[i]!.ls)[j]!.e.Tag.Count), .int .i64 ((hs[i]!.ls)[j]!.e.Tag.Client)]] (by kernel_rfl) (at_c sb dl a n c C _ (hS.fram hp70.fr) hb (hs[i]!.h.Key) (⟨(hs[i]!.ls)[j]!.e.Tag.Count, (hs[i]!.ls)[j]!.e.Tag.Client⟩ : GTag)) ?_)
      rintro _ w74 ⟨i77, rfl, hat78, hf76⟩
      obtain rfl := AtR.one hat0 hat78
      refine ⟨_, rfl, ?_⟩
      have hp75 := hp70.step hf76
      refine OPS.batch 1 {} [] [0, 1, 5, 7, 8, 9, 10, 11, 12, 13, 38, 39, 40] [.pointer (some ⟨sb, 0, none⟩), .slice ha hn hc_, .int .i64 ((N + j : Nat) : Int), .pointer (some ⟨g19, 0, none⟩), .int .i64 (j : Int), .pointer (some ⟨g67, 0, none⟩), .int .i64 ((k : Nat) : Int), .slice ha hn hc_, .int .i64 ((hn : Nat) : Int), .int .i64 (i : Int), .slice (hs[i]!.h.Entries.a) (hs[i]!.h.Entries.n) (hs[i]!.h.Entries.c), .int .i64 ((hs[i]!.h.Entries.n : Nat) : Int), .int .i64 (j : Int)] .nil (by kernel_rfl) (fun b79 => ?_)
      refine OPS.nil ?_
      refine thn_n ?_
      refine WP.seq ?_
      refine WP.cut (fun e114 w115 => ∃ (_ : Unit), (((0 < (j : Int)) ∧ True) ∨ ((¬ (0 < (j : Int))) ∧ True)) ∧ List.map e114 [0, 1, 5, 7, 11, 12, 13, 38, 39, 40, 82] = [.pointer (some ⟨sb, 0, none⟩), .slice ha hn hc_, .int .i64 ((N + j : Nat) : Int), .pointer (some ⟨g19, 0, none⟩), .slice ha hn hc_, .int .i64 ((hn : Nat) : Int), .int .i64 (i : Int), .slice (hs[i]!.h.Entries.a) (hs[i]!.h.Entries.n) (hs[i]!.h.Entries.c), .int .i64 ((hs[i]!.h.Entries.n : Nat) : Int), .int .i64 (j : Int), .bool false] ∧ Hp w Non [Res.row g67 [.int .i64 ((hs[i]!.ls)[j]!.e.Tag.Count), .int .i64 ((hs[i]!.ls)[j]!.e.Tag.Client), .bool ((hs[i]!.ls)[j]!.e.Fin), .bool ((hs[i]!.ls)[j]!.e.Has), .slice ((hs[i]!.ls)[j]!.e.Data.a) ((hs[i]!.ls)[j]!.e.Data.n) ((hs[i]!.ls)[j]!.e.Data.c)] 34, Res.row g19 [.string (hs[i]!.h.Key), .slice (hs[i]!.h.Entries.a) (hs[i]!.h.Entries.n) (hs[i]!.h.Entries.c)] 69] w115) ?_ ?_
      · have hp83 := hp75.drew
        refine WP.quiet (fun w81 => Hp w Non [Res.row g67 [.int .i64 ((hs[i]!.ls)[j]!.e.Tag.Count), .int .i64 ((hs[i]!.ls)[j]!.e.Tag.Client), .bool ((hs[i]!.ls)[j]!.e.Fin), .bool ((hs[i]!.ls)[j]!.e.Has), .slice ((hs[i]!.ls)[j]!.e.Data.a) ((hs[i]!.ls)[j]!.e.Data.n) ((hs[i]!.ls)[j]!.e.Data.c)] 34, Res.row g19 [.string (hs[i]!.h.Key), .slice (hs[i]!.h.Entries.a) (hs[i]!.h.Entries.n) (hs[i]!.h.Entries.c)] 69] w81) (by kernel_rfl) hp83 ?_
        have hnehp83 : ∃ wz_, (fun w81 => Hp w Non [Res.row g67 [.int .i64 ((hs[i]!.ls)[j]!.e.Tag.Count), .int .i64 ((hs[i]!.ls)[j]!.e.Tag.Client), .bool ((hs[i]!.ls)[j]!.e.Fin), .bool ((hs[i]!.ls)[j]!.e.Has), .slice ((hs[i]!.ls)[j]!.e.Data.a) ((hs[i]!.ls)[j]!.e.Data.n) ((hs[i]!.ls)[j]!.e.Data.c)] 34, Res.row g19 [.string (hs[i]!.h.Key), .slice (hs[i]!.h.Entries.a) (hs[i]!.h.Entries.n) (hs[i]!.h.Entries.c)] 69] w81) wz_ := ⟨_, hp83⟩
        have hy87 : (C)[k]? = some C[k]! := get_bang (by first | (omega) | (simp only [List.length_append, List.length_cons, List.length_nil]; omega) | (simp only [List.length_take, List.length_append, List.length_cons, List.length_nil]; omega))
        refine QOPS.batch 12 { subs := [52] } [.bool false, .slice a n c, .agg #[.int .i64 (C[k]!.c.e.Tag.Count), .int .i64 (C[k]!.c.e.Tag.Client), .bool (C[k]!.c.e.Fin), .bool (C[k]!.c.e.Has), .slice (C[k]!.c.e.Data.a) (C[k]!.c.e.Data.n) (C[k]!.c.e.Data.c)], GEntry.val ((hs[i]!.ls)[j]!.e)] [0, 1, 5, 7, 8, 9, 11, 12, 13, 38, 39, 40, 53, 61, 62] [.pointer (some ⟨sb, 0, none⟩), .slice ha hn hc_, .int .i64 ((N + j : Nat) : Int), .pointer (some ⟨g19, 0, none⟩), .int .i64 (j : Int), .pointer (some ⟨g67, 0, none⟩), .slice ha hn hc_, .int .i64 ((hn : Nat) : Int), .int .i64 (i : Int), .slice (hs[i]!.h.Entries.a) (hs[i]!.h.Entries.n) (hs[i]!.h.Entries.c), .int .i64 ((hs[i]!.h.Entries.n : Nat) : Int), .int .i64 (j : Int), .bool false, .agg #[.int .i64 (C[k]!.c.e.Tag.Count), .int .i64 (C[k]!.c.e.Tag.Client), .bool (C[k]!.c.e.Fin), .bool (C[k]!.c.e.Has), .slice (C[k]!.c.e.Data.a) (C[k]!.c.e.Data.n) (C[k]!.c.e.Data.c)], GEntry.val ((hs[i]!.ls)[j]!.e)] hnehp83 (fun w84 hp85 => QB.mk (.cons (show (.bool (decide (((k : Nat) : Int) < 0)) : Go.Value) = .bool false from congrArg Value.bool (decide_eq_false (by omega))) (.cons (Ld.row1 (P := Try.prog) (t := 27) (o := 1) (v := .slice a n c) (hS.fram hp85.fr).row (by kernel_rfl)) (.cons (show InB (((k : Nat) : Int)) (n) from ⟨by omega, by omega⟩) (.cons (((hS.fram hp85.fr).sl).some (by omega)) (.cons (Ld.elN (P := Try.prog) (t := 34) ((hS.fram hp85.fr).sl).rd 6 (fun _ => rfl) hy87 (o := 1) (cs := [.int .i64 (C[k]!.c.e.Tag.Count), .int .i64 (C[k]!.c.e.Tag.Client), .bool (C[k]!.c.e.Fin), .bool (C[k]!.c.e.Has), .slice (C[k]!.c.e.Data.a) (C[k]!.c.e.Data.n) (C[k]!.c.e.Data.c)]) (by kernel_rfl)) (.cons (show Ld Try.prog w84 34 ⟨g67, 0, none⟩ (GEntry.val ((hs[i]!.ls)[j]!.e)) from Ld.rowN (cs := [.int .i64 ((hs[i]!.ls)[j]!.e.Tag.Count), .int .i64 ((hs[i]!.ls)[j]!.e.Tag.Client), .bool ((hs[i]!.ls)[j]!.e.Fin), .bool ((hs[i]!.ls)[j]!.e.Has), .slice ((hs[i]!.ls)[j]!.e.Data.a) ((hs[i]!.ls)[j]!.e.Data.n) ((hs[i]!.ls)[j]!.e.Data.c)]) hp85.get0 (by kernel_rfl)) .nil)))))) (by kernel_rfl)) (fun b88 => ?_)
        refine QOPS.call (some 63) [.agg #[.int .i64 (C[k]!.c.e.Tag.Count), .int .i64 (C[k]!.c.e.Tag.Client), .bool (C[k]!.c.e.Fin), .bool (C[k]!.c.e.Has), .slice (C[k]!.c.e.Data.a) (C[k]!.c.e.Data.n) (C[k]!.c.e.Data.c)], GEntry.val ((hs[i]!.ls)[j]!.e)] (by kernel_rfl) (fun w89 hp90 => (se_true C[k]!.c.e hs[i]!.ls[j]!.e C[k]!.d hs[i]!.ls[j]!.d _ ((hc.fram hp90.fr).at hk).1 ((hX _ (bang_mem (by omega)) _ (bang_mem (by omega))).fram hp90.fr) (hc.at hk).2 hse).mono fun _ _ h => ⟨h.1, hp90.step h.2⟩) ?_
        refine QOPS.batch 6 { wraps := [65] } [] [0, 1, 5, 7, 8, 9, 11, 12, 13, 38, 39, 40, 66, 69] [.pointer (some ⟨sb, 0, none⟩), .slice ha hn hc_, .int .i64 ((N + j : Nat) : Int), .pointer (some ⟨g19, 0, none⟩), .int .i64 (j : Int), .pointer (some ⟨g67, 0, none⟩), .slice ha hn hc_, .int .i64 ((hn : Nat) : Int), .int .i64 (i : Int), .slice (hs[i]!.h.Entries.a) (hs[i]!.h.Entries.n) (hs[i]!.h.Entries.c), .int .i64 ((hs[i]!.h.Entries.n : Nat) : Int), .int .i64 (j : Int), .bool false, .bool (decide (0 < (j : Int)))] hnehp83 (fun w91 hp92 => QB.mk .nil (by kernel_rfl)) (fun b93 => ?_)
        by_cases h94 : 0 < (j : Int)
        · refine QOPS.batch 0 {} [] [0, 1, 5, 7, 8, 9, 11, 12, 13, 38, 39, 40, 66, 69] [.pointer (some ⟨sb, 0, none⟩), .slice ha hn hc_, .int .i64 ((N + j : Nat) : Int), .pointer (some ⟨g19, 0, none⟩), .int .i64 (j : Int), .pointer (some ⟨g67, 0, none⟩), .slice ha hn hc_, .int .i64 ((hn : Nat) : Int), .int .i64 (i : Int), .slice (hs[i]!.h.Entries.a) (hs[i]!.h.Entries.n) (hs[i]!.h.Entries.c), .int .i64 ((hs[i]!.h.Entries.n : Nat) : Int), .int .i64 (j : Int), .bool false, .bool (decide (0 < (j : Int)))] hnehp83 (fun _ _ => QB.mk .nil (by kernel_rfl)) (fun b95 => ?_)
          refine QOPS.re [.pointer (some ⟨sb, 0, none⟩), .slice ha hn hc_, .int .i64 ((N + j : Nat) : Int), .pointer (some ⟨g19, 0, none⟩), .int .i64 (j : Int), .pointer (some ⟨g67, 0, none⟩), .slice ha hn hc_, .int .i64 ((hn : Nat) : Int), .int .i64 (i : Int), .slice (hs[i]!.h.Entries.a) (hs[i]!.h.Entries.n) (hs[i]!.h.Entries.c), .int .i64 ((hs[i]!.h.Entries.n : Nat) : Int), .int .i64 (j : Int), .bool false, .bool true] (by rw [show (decide (0 < (j : Int))) = true from Bp.dec.tt h94]) ?_
          have hy99 : (hs[i]!.ls)[(j - 1)]? = some (hs[i]!.ls)[(j - 1)]! := get_bang (by first | (omega) | (simp only [List.length_append, List.length_cons, List.length_nil]; omega) | (simp only [List.length_take, List.length_append, List.length_cons, List.length_nil]; omega))
          refine QOPS.batch 9 { subs := [73] } [.slice (hs[i]!.h.Entries.a) (hs[i]!.h.Entries.n) (hs[i]!.h.Entries.c), .int .i64 ((j - 1 : Nat) : Int), .agg #[.int .i64 ((hs[i]!.ls)[(j - 1)]!.e.Tag.Count), .int .i64 ((hs[i]!.ls)[(j - 1)]!.e.Tag.Client)], .agg #[.int .i64 ((hs[i]!.ls)[j]!.e.Tag.Count), .int .i64 ((hs[i]!.ls)[j]!.e.Tag.Client)]] [0, 1, 5, 7, 11, 12, 13, 38, 39, 40, 66, 69, 76, 78] [.pointer (some ⟨sb, 0, none⟩), .slice ha hn hc_, .int .i64 ((N + j : Nat) : Int), .pointer (some ⟨g19, 0, none⟩), .slice ha hn hc_, .int .i64 ((hn : Nat) : Int), .int .i64 (i : Int), .slice (hs[i]!.h.Entries.a) (hs[i]!.h.Entries.n) (hs[i]!.h.Entries.c), .int .i64 ((hs[i]!.h.Entries.n : Nat) : Int), .int .i64 (j : Int), .bool false, .bool true, .agg #[.int .i64 ((hs[i]!.ls)[(j - 1)]!.e.Tag.Count), .int .i64 ((hs[i]!.ls)[(j - 1)]!.e.Tag.Client)], .agg #[.int .i64 ((hs[i]!.ls)[j]!.e.Tag.Count), .int .i64 ((hs[i]!.ls)[j]!.e.Tag.Client)]] hnehp83 (fun w96 hp97 => QB.mk (.cons (Ld.row1 (P := Try.prog) (t := 48) (o := 1) (v := .slice (hs[i]!.h.Entries.a) (hs[i]!.h.Entries.n) (hs[i]!.h.Entries.c)) hp97.get1 (by kernel_rfl)) (.cons (show Rng .i64 ((j : Int) - 1) from Rng.i64 (by omega)) (.cons (show (.int .i64 ((j : Int) - 1) : Go.Value) = .int .i64 ((j - 1 : Nat) : Int) from congrArg (Value.int .i64) ((show (j : Int) - 1 = ((j - 1 : Nat) : Int) from by omega))) (.cons (show InB (((j - 1 : Nat) : Int)) (hs[i]!.h.Entries.n) from ⟨by omega, by omega⟩) (.cons ((SlR.fram (hE _ (bang_mem (by omega : i < hs.length))).2 hp97.fr).some (by omega)) (.cons (Ld.add0 (Ld.elN (P := Try.prog) (t := 31) (SlR.fram (hE _ (bang_mem (by omega : i < hs.length))).2 hp97.fr).rd 5 (fun _ => rfl) hy99 (o := 0) (cs := [.int .i64 ((hs[i]!.ls)[(j - 1)]!.e.Tag.Count), .int .i64 ((hs[i]!.ls)[(j - 1)]!.e.Tag.Client)]) (by kernel_rfl))) (.cons (show Ld Try.prog w96 31 ⟨g67, 0, none⟩ (.agg #[.int .i64 ((hs[i]!.ls)[j]!.e.Tag.Count), .int .i64 ((hs[i]!.ls)[j]!.e.Tag.Client)]) from Ld.rowN (cs := [.int .i64 ((hs[i]!.ls)[j]!.e.Tag.Count), .int .i64 ((hs[i]!.ls)[j]!.e.Tag.Client)]) hp97.get0 (by kernel_rfl)) .nil))))))) (by kernel_rfl)) (fun b100 => ?_)
          refine QOPS.call (some 79) [.agg #[.int .i64 ((hs[i]!.ls)[(j - 1)]!.e.Tag.Count), .int .i64 ((hs[i]!.ls)[(j - 1)]!.e.Tag.Client)], .agg #[.int .i64 ((hs[i]!.ls)[j]!.e.Tag.Count), .int .i64 ((hs[i]!.ls)[j]!.e.Tag.Client)]] (by kernel_rfl) (fun w101 hp102 => (before_true (hs[i]!.ls)[(j - 1)]!.e.Tag (hs[i]!.ls)[j]!.e.Tag _ (hok.tags i j (by omega) (by omega) (by omega))).mono fun _ _ h => ⟨h.1, hp102.step h.2⟩) ?_
          refine QOPS.batch 3 { wraps := [81, 82] } [] [0, 1, 5, 7, 11, 12, 13, 38, 39, 40, 82] [.pointer (some ⟨sb, 0, none⟩), .slice ha hn hc_, .int .i64 ((N + j : Nat) : Int), .pointer (some ⟨g19, 0, none⟩), .slice ha hn hc_, .int .i64 ((hn : Nat) : Int), .int .i64 (i : Int), .slice (hs[i]!.h.Entries.a) (hs[i]!.h.Entries.n) (hs[i]!.h.Entries.c), .int .i64 ((hs[i]!.h.Entries.n : Nat) : Int), .int .i64 (j : Int), .bool false] hnehp83 (fun w103 hp104 => QB.mk .nil (by kernel_rfl)) (fun b105 => ?_)
          refine QOPS.nil (fun w106 hp107 => ?_)
          refine thn_n ?_
          exact ⟨(), Or.inl ⟨h94, trivial⟩, by kernel_rfl, hp107⟩
        · refine QOPS.batch 0 {} [] [0, 1, 5, 7, 8, 9, 11, 12, 13, 38, 39, 40, 66, 69] [.pointer (some ⟨sb, 0, none⟩), .slice ha hn hc_, .int .i64 ((N + j : Nat) : Int), .pointer (some ⟨g19, 0, none⟩), .int .i64 (j : Int), .pointer (some ⟨g67, 0, none⟩), .slice ha hn hc_, .int .i64 ((hn : Nat) : Int), .int .i64 (i : Int), .slice (hs[i]!.h.Entries.a) (hs[i]!.h.Entries.n) (hs[i]!.h.Entries.c), .int .i64 ((hs[i]!.h.Entries.n : Nat) : Int), .int .i64 (j : Int), .bool false, .bool (decide (0 < (j : Int)))] hnehp83 (fun _ _ => QB.mk .nil (by kernel_rfl)) (fun b108 => ?_)
          refine QOPS.re [.pointer (some ⟨sb, 0, none⟩), .slice ha hn hc_, .int .i64 ((N + j : Nat) : Int), .pointer (some ⟨g19, 0, none⟩), .int .i64 (j : Int), .pointer (some ⟨g67, 0, none⟩), .slice ha hn hc_, .int .i64 ((hn : Nat) : Int), .int .i64 (i : Int), .slice (hs[i]!.h.Entries.a) (hs[i]!.h.Entries.n) (hs[i]!.h.Entries.c), .int .i64 ((hs[i]!.h.Entries.n : Nat) : Int), .int .i64 (j : Int), .bool false, .bool false] (by rw [show (decide (0 < (j : Int))) = false from Bp.dec.ff h94]) ?_
          refine QOPS.batch 13 { wraps := [81, 82] } [] [0, 1, 5, 7, 11, 12, 13, 38, 39, 40, 82] [.pointer (some ⟨sb, 0, none⟩), .slice ha hn hc_, .int .i64 ((N + j : Nat) : Int), .pointer (some ⟨g19, 0, none⟩), .slice ha hn hc_, .int .i64 ((hn : Nat) : Int), .int .i64 (i : Int), .slice (hs[i]!.h.Entries.a) (hs[i]!.h.Entries.n) (hs[i]!.h.Entries.c), .int .i64 ((hs[i]!.h.Entries.n : Nat) : Int), .int .i64 (j : Int), .bool false] hnehp83 (fun w109 hp110 => QB.mk .nil (by kernel_rfl)) (fun b111 => ?_)
          refine QOPS.nil (fun w112 hp113 => ?_)
          refine thn_n ?_
          exact ⟨(), Or.inr (⟨h94, trivial⟩), by kernel_rfl, hp113⟩
      rintro e114 w115 ⟨_, hd117, hE118, hp116⟩
      obtain ⟨b119, rfl⟩ := toMk hE118
      clear hE118
      refine WP.condF rfl ?_
      refine WP.skip ?_
      refine thn_n ?_
      refine WP.pure {} [] [0, 1, 5, 7, 11, 12, 13, 38, 39, 40] [.pointer (some ⟨sb, 0, none⟩), .slice ha hn hc_, .int .i64 (((N + j : Nat) : Int) + 1), .pointer (some ⟨g19, 0, none⟩), .slice ha hn hc_, .int .i64 ((hn : Nat) : Int), .int .i64 (i : Int), .slice (hs[i]!.h.Entries.a) (hs[i]!.h.Entries.n) (hs[i]!.h.Entries.c), .int .i64 ((hs[i]!.h.Entries.n : Nat) : Int), .int .i64 (j : Int)] (.cons (show Rng .i64 (((N + j : Nat) : Int) + 1) from Rng.i64 (by omega)) .nil) (by kernel_rfl) (fun b120 => ?_)
      refine blk_n ?_
      refine thn_n ?_
      refine WP.pure {} [] [0, 1, 5, 7, 11, 12, 13, 38, 39, 40] [.pointer (some ⟨sb, 0, none⟩), .slice ha hn hc_, .int .i64 (((N + j : Nat) : Int) + 1), .pointer (some ⟨g19, 0, none⟩), .slice ha hn hc_, .int .i64 ((hn : Nat) : Int), .int .i64 (i : Int), .slice (hs[i]!.h.Entries.a) (hs[i]!.h.Entries.n) (hs[i]!.h.Entries.c), .int .i64 ((hs[i]!.h.Entries.n : Nat) : Int), .int .i64 ((j : Int) + 1)] (.cons (show Rng .i64 ((j : Int) + 1) from Rng.i64 (by omega)) .nil) (by kernel_rfl) (fun b121 => ?_)
      refine thn_n ?_
      exact ⟨hs[i]!.ls.length - (j + 1), (by omega), j + 1, rfl, ⟨by omega, trivial⟩, by kernel_rfl, (hp116.sub (.cons _ (.cons_cons _ (.slnil))))⟩
    · refine WP.exit ?_
      refine thn_x ?_
      refine thn_x ?_
      refine blk_hit ?_
      refine blk_n ?_
      refine thn_n ?_
      refine WP.pure {} [] [0, 1, 5, 11, 12, 13] [.pointer (some ⟨sb, 0, none⟩), .slice ha hn hc_, .int .i64 ((N + j : Nat) : Int), .slice ha hn hc_, .int .i64 ((hn : Nat) : Int), .int .i64 ((i : Int) + 1)] (.cons (show Rng .i64 ((i : Int) + 1) from Rng.i64 (by omega)) .nil) (by kernel_rfl) (fun b122 => ?_)
      refine thn_n ?_
      exact ⟨hs.length - (i + 1), (by omega), i + 1, N + j, rfl, ⟨by omega, by omega⟩, by kernel_rfl, (hp54.sub (.cons _ (.slnil)))⟩
  · refine WP.exit ?_
    refine thn_x ?_
    refine thn_x ?_
    refine blk_hit ?_
    refine thn_n ?_
    refine WP.seq ?_
    have hal := sumH_all (by omega : hs.length ≤ i)
    refine WP.pure { subs := [93] } [.slice a n c, .bool true] [4] [.bool true] (.cons (Ld.row1 (P := Try.prog) (t := 27) (o := 1) (v := .slice a n c) (hS.fram hp6.fr).row (by kernel_rfl)) (.cons (show (.bool (decide (((N : Nat) : Int) = ((n : Nat) : Int))) : Go.Value) = .bool true from congrArg Value.bool (decide_eq_true (by omega))) .nil)) (by kernel_rfl) (fun b123 => ?_)
    refine thn_n ?_
    refine WP.ret ?_
    refine bodyQ.of _ rfl [.bool true] ⟨rfl, trivial⟩ ?_
    exact ⟨rfl, hp6.fr⟩

theorem small_c (sb dl : Nat) (a : Option Addr) (n c : Nat) (C : List Ce) (w : World) (hS : ShH w sb dl a n c C) (hb : C.length ≤ 1048600) (key : ByteArray) (hdl : dl ≤ 4611686018427387903) (ls : List En) (ea : Option Addr) (en ec : Nat) (hel : en = ls.length) (hb2 : ls.length ≤ 1048600) (hes : SlR w ea en (ls.flatMap eC)) (hfl : ∀ x ∈ ls, ¬ tlt x.e.Tag (floD C key dl)) (hcn : (ls.filter fun x => x.e.Has && x.e.Fin).length ≤ dl + 1) :
    Calls Try.prog 17 #[.pointer (some ⟨sb, 0, none⟩), .string key, .slice ea en ec] w (fun r_ w' => r_ = .returned (.bool true) ∧ Fram Non w w') := by
  have hln := hS.len
  refine calls_of Try.func17 rfl 46 rfl (by simp) ?_
  have hp0 := Hp.init w
  have he0 : List.map (env0 [.pointer (some ⟨sb, 0, none⟩), .string key, .slice ea en ec]) [0, 1, 2] = [.pointer (some ⟨sb, 0, none⟩), .string key, .slice ea en ec] := by kernel_rfl
  obtain ⟨b0, he0⟩ := toMk he0
  rw [he0]
  clear he0
  refine WP.seq ?_
  refine WP.pure {} [] [0, 1, 2] [.pointer (some ⟨sb, 0, none⟩), .string key, .slice ea en ec] .nil (by kernel_rfl) (fun b1 => ?_)
  refine thn_n ?_
  refine WP.seq ?_
  refine WP.pure {} [] [0, 1, 2, 7] [.pointer (some ⟨sb, 0, none⟩), .string key, .slice ea en ec, .int .i64 0] .nil (by kernel_rfl) (fun b2 => ?_)
  refine thn_n ?_
  refine WP.seq ?_
  refine WP.seq ?_
  refine WP.pure {} [] [0, 1, 7, 10, 11, 12] [.pointer (some ⟨sb, 0, none⟩), .string key, .int .i64 0, .slice ea en ec, .int .i64 ((en : Nat) : Int), .int .i64 0] .nil (by kernel_rfl) (fun b3 => ?_)
  refine thn_n ?_
  refine WP.block ?_
  refine WP.loop (fun mz_ e4 w5 => ∃ (i : Nat) (N : Nat), mz_ = ls.length - i ∧ (i ≤ ls.length ∧ N = cntF ls i) ∧ List.map e4 [0, 1, 7, 10, 11, 12] = [.pointer (some ⟨sb, 0, none⟩), .string key, .int .i64 ((N : Nat) : Int), .slice ea en ec, .int .i64 ((en : Nat) : Int), .int .i64 (i : Int)] ∧ Hp w Non [] w5) (ls.length - (0)) ⟨0, 0, rfl, ⟨Nat.zero_le _, rfl⟩, by kernel_rfl, hp0⟩ ?_
  rintro _ e4 w5 ⟨i, N, rfl, hI7, hE8, hp6⟩
  obtain ⟨b9, rfl⟩ := toMk hE8
  clear hE8
  obtain ⟨pa, pN⟩ := hI7
  have hcl := cntF_le ls i
  refine WP.seq ?_
  refine WP.pure {} [] [0, 1, 7, 10, 11, 12, 13] [.pointer (some ⟨sb, 0, none⟩), .string key, .int .i64 ((N : Nat) : Int), .slice ea en ec, .int .i64 ((en : Nat) : Int), .int .i64 (i : Int), .bool (decide ((i : Int) < ((en : Nat) : Int)))] .nil (by kernel_rfl) (fun b10 => ?_)
  refine thn_n ?_
  refine WP.seq ?_
  refine WP.test (p := (i : Int) < ((en : Nat) : Int)) rfl Bp.dec (fun h11 => ?_) (fun h11 => ?_)
  · refine WP.skip ?_
    refine thn_n ?_
    refine WP.seq ?_
    refine WP.block ?_
    refine WP.seq ?_
    refine WP.region _ rfl (by kernel_rfl) ?_
    have hy15 : (ls)[i]? = some ls[i]! := get_bang (by first | (omega) | (simp only [List.length_append, List.length_cons, List.length_nil]; omega) | (simp only [List.length_take, List.length_append, List.length_cons, List.length_nil]; omega))
    refine OPS.batch 2 {} [GEntry.val (ls[i]!.e)] [0, 1, 7, 10, 11, 12, 15] [.pointer (some ⟨sb, 0, none⟩), .string key, .int .i64 ((N : Nat) : Int), .slice ea en ec, .int .i64 ((en : Nat) : Int), .int .i64 (i : Int), GEntry.val (ls[i]!.e)] (.cons (show InB ((i : Int)) (en) from ⟨by omega, by omega⟩) (.cons ((SlR.fram hes hp6.fr).some (by omega)) (.cons (Ld.add0 (Ld.elN (P := Try.prog) (t := 34) (SlR.fram hes hp6.fr).rd 5 (fun _ => rfl) hy15 (o := 0) (cs := [.int .i64 (ls[i]!.e.Tag.Count), .int .i64 (ls[i]!.e.Tag.Client), .bool (ls[i]!.e.Fin), .bool (ls[i]!.e.Has), .slice (ls[i]!.e.Data.a) (ls[i]!.e.Data.n) (ls[i]!.e.Data.c)]) (by kernel_rfl))) .nil))) (by kernel_rfl) (fun b16 => ?_)
    refine OPS.cons (opStep.alloc hp6 [.int .i64 0, .int .i64 0, .bool false, .bool false, .slice none 0 0] (by kernel_rfl) (fun g19 w17 hp18 => ?_))
    refine OPS.cons (opStep.store0 hp18 rfl [.int .i64 (ls[i]!.e.Tag.Count), .int .i64 (ls[i]!.e.Tag.Client), .bool (ls[i]!.e.Fin), .bool (ls[i]!.e.Has), .slice (ls[i]!.e.Data.a) (ls[i]!.e.Data.n) (ls[i]!.e.Data.c)] [.int .i64 (ls[i]!.e.Tag.Count), .int .i64 (ls[i]!.e.Tag.Client), .bool (ls[i]!.e.Fin), .bool (ls[i]!.e.Has), .slice (ls[i]!.e.Data.a) (ls[i]!.e.Data.n) (ls[i]!.e.Data.c)] (by kernel_rfl) (fun w20 hp21 => ?_))
    refine OPS.nil ?_
    refine thn_n ?_
    refine WP.seq ?_
    refine WP.cut (fun e31 w32 => ∃ (x29 : Bool), (True) ∧ Bp x29 (((ls[i]!.e.Has) = true) ∧ ((ls[i]!.e.Fin) = true)) ∧ List.map e31 [0, 1, 7, 9, 10, 11, 12, 21] = [.pointer (some ⟨sb, 0, none⟩), .string key, .int .i64 ((N : Nat) : Int), .pointer (some ⟨g19, 0, none⟩), .slice ea en ec, .int .i64 ((en : Nat) : Int), .int .i64 (i : Int), .bool x29] ∧ Hp w Non [Res.row g19 [.int .i64 (ls[i]!.e.Tag.Count), .int .i64 (ls[i]!.e.Tag.Client), .bool (ls[i]!.e.Fin), .bool (ls[i]!.e.Has), .slice (ls[i]!.e.Data.a) (ls[i]!.e.Data.n) (ls[i]!.e.Data.c)] 34] w32) ?_ ?_
    · refine WP.region _ rfl (by kernel_rfl) ?_
      refine OPS.batch 3 {} [.bool (ls[i]!.e.Has)] [0, 1, 7, 9, 10, 11, 12, 18] [.pointer (some ⟨sb, 0, none⟩), .string key, .int .i64 ((N : Nat) : Int), .pointer (some ⟨g19, 0, none⟩), .slice ea en ec, .int .i64 ((en : Nat) : Int), .int .i64 (i : Int), .bool (ls[i]!.e.Has)] (.cons (Ld.row1 (P := Try.prog) (t := 4) (o := 3) (v := .bool (ls[i]!.e.Has)) hp21.get0 (by kernel_rfl)) .nil) (by kernel_rfl) (fun b23 => ?_)
      by_cases h24 : (ls[i]!.e.Has) = true
      · refine OPS.batch 0 {} [] [0, 1, 7, 9, 10, 11, 12, 18] [.pointer (some ⟨sb, 0, none⟩), .string key, .int .i64 ((N : Nat) : Int), .pointer (some ⟨g19, 0, none⟩), .slice ea en ec, .int .i64 ((en : Nat) : Int), .int .i64 (i : Int), .bool (ls[i]!.e.Has)] .nil (by kernel_rfl) (fun b25 => ?_)
        refine OPS.re [.pointer (some ⟨sb, 0, none⟩), .string key, .int .i64 ((N : Nat) : Int), .pointer (some ⟨g19, 0, none⟩), .slice ea en ec, .int .i64 ((en : Nat) : Int), .int .i64 (i : Int), .bool true] (by rw [show (ls[i]!.e.Has) = true from Bp.var.tt h24]) ?_
        refine OPS.batch 3 { wraps := [21] } [.bool (ls[i]!.e.Fin)] [0, 1, 7, 9, 10, 11, 12, 21] [.pointer (some ⟨sb, 0, none⟩), .string key, .int .i64 ((N : Nat) : Int), .pointer (some ⟨g19, 0, none⟩), .slice ea en ec, .int .i64 ((en : Nat) : Int), .int .i64 (i : Int), .bool (ls[i]!.e.Fin)] (.cons (Ld.row1 (P := Try.prog) (t := 4) (o := 2) (v := .bool (ls[i]!.e.Fin)) hp21.get0 (by kernel_rfl)) .nil) (by kernel_rfl) (fun b26 => ?_)
        refine OPS.nil ?_
        refine thn_n ?_
        exact ⟨ls[i]!.e.Fin, trivial, Bp.of Bp.var (by first | (simp only [h24, iff_false, false_iff, iff_true, true_iff, Classical.not_not, and_true, true_and, and_false, false_and, or_true, true_or, or_false, false_or, not_true_eq_false, not_false_eq_true, and_self, or_self, iff_self]; done) | (simp [h24]; done) | grind | (simp_all; done)), by kernel_rfl, hp21⟩
      · refine OPS.batch 0 {} [] [0, 1, 7, 9, 10, 11, 12, 18] [.pointer (some ⟨sb, 0, none⟩), .string key, .int .i64 ((N : Nat) : Int), .pointer (some ⟨g19, 0, none⟩), .slice ea en ec, .int .i64 ((en : Nat) : Int), .int .i64 (i : Int), .bool (ls[i]!.e.Has)] .nil (by kernel_rfl) (fun b27 => ?_)
        refine OPS.re [.pointer (some ⟨sb, 0, none⟩), .string key, .int .i64 ((N : Nat) : Int), .pointer (some ⟨g19, 0, none⟩), .slice ea en ec, .int .i64 ((en : Nat) : Int), .int .i64 (i : Int), .bool false] (by rw [show (ls[i]!.e.Has) = false from Bp.var.ff h24]) ?_
        refine OPS.batch 3 { wraps := [21] } [] [0, 1, 7, 9, 10, 11, 12, 21] [.pointer (some ⟨sb, 0, none⟩), .string key, .int .i64 ((N : Nat) : Int), .pointer (some ⟨g19, 0, none⟩), .slice ea en ec, .int .i64 ((en : Nat) : Int), .int .i64 (i : Int), .bool false] .nil (by kernel_rfl) (fun b28 => ?_)
        refine OPS.nil ?_
        refine thn_n ?_
        exact ⟨false, trivial, Bp.of Bp.f (by first | (simp only [h24, iff_false, false_iff, iff_true, true_iff, Classical.not_not, and_true, true_and, and_false, false_and, or_true, true_or, or_false, false_or, not_true_eq_false, not_false_eq_true, and_self, or_self, iff_self]; done) | (simp [h24]; done) | grind | (simp_all; done)), by kernel_rfl, hp21⟩
    rintro e31 w32 ⟨x29, hd34, hb30, hE35, hp33⟩
    obtain ⟨b36, rfl⟩ := toMk hE35
    clear hE35
    clear hd34
    refine WP.test (p := ((ls[i]!.e.Has) = true) ∧ ((ls[i]!.e.Fin) = true)) rfl hb30 (fun h37 => ?_) (fun h37 => ?_)
    · refine WP.pure { subs := [23] } [.int .i64 ((N + 1 : Nat) : Int)] [0, 1, 7, 9, 10, 11, 12] [.pointer (some ⟨sb, 0, none⟩), .string key, .int .i64 ((N + 1 : Nat) : Int), .pointer (some ⟨g19, 0, none⟩), .slice ea en ec, .int .i64 ((en : Nat) : Int), .int .i64 (i : Int)] (.cons (show Rng .i64 (((N : Nat) : Int) + 1) from Rng.i64 (by omega)) (.cons (show (.int .i64 (((N : Nat) : Int) + 1) : Go.Value) = .int .i64 ((N + 1 : Nat) : Int) from congrArg (Value.int .i64) ((show ((N : Nat) : Int) + 1 = ((N + 1 : Nat) : Int) from by omega))) .nil)) (by kernel_rfl) (fun b38 => ?_)
      refine thn_n ?_
      refine WP.seq ?_
      have hp39 := hp33.drew
      refine WP.held (fun w40 => Ld Try.prog w40 31 ⟨g19, 0, none⟩ (.agg #[.int .i64 (ls[i]!.e.Tag.Count), .int .i64 (ls[i]!.e.Tag.Client)]) ∧ True) [] [(0, true), (1, true), (2, true), (3, true), (4, false), (5, false)] (np_thn (np_blk (np_thn (np_thn (np_blk (np_thn np_body)))))) (by kernel_rfl) ?_
      refine HOPS.take 4 {} [.agg #[.int .i64 (ls[i]!.e.Tag.Count), .int .i64 (ls[i]!.e.Tag.Client)]] [0, 1, 7, 10, 11, 12, 25, 26, 27] [.pointer (some ⟨sb, 0, none⟩), .string key, .int .i64 ((N + 1 : Nat) : Int), .slice ea en ec, .int .i64 ((en : Nat) : Int), .int .i64 (i : Int), .agg #[.int .i64 (ls[i]!.e.Tag.Count), .int .i64 (ls[i]!.e.Tag.Client)], .pointer (some ⟨sb, 0, none⟩), .string key] (by kernel_rfl) ⟨(show Ld Try.prog w32.drew 31 ⟨g19, 0, none⟩ (.agg #[.int .i64 (ls[i]!.e.Tag.Count), .int .i64 (ls[i]!.e.Tag.Client)]) from Ld.rowN (cs := [.int .i64 (ls[i]!.e.Tag.Count), .int .i64 (ls[i]!.e.Tag.Client)]) hp39.get0 (by kernel_rfl)), trivial⟩ (fun w41 hS42 => QB.mk (.cons (hS42.1) .nil) (by kernel_rfl)) (fun b43 => ?_)
      refine HOPS.eff _ rfl (opStep.call (some 28) [.pointer (some ⟨sb, 0, none⟩), .string key] (by kernel_rfl) (floD_c sb dl a n c C _ (hS.fram hp39.fr) (by first | assumption | omega) key hdl) ?_)
      rintro _ w46 ⟨rfl, hf48⟩
      refine ⟨_, rfl, ?_⟩
      have hp47 := hp39.step hf48
      refine ⟨.inr ⟨(show Ld Try.prog w46 31 ⟨g19, 0, none⟩ (.agg #[.int .i64 (ls[i]!.e.Tag.Count), .int .i64 (ls[i]!.e.Tag.Client)]) from Ld.rowN (cs := [.int .i64 (ls[i]!.e.Tag.Count), .int .i64 (ls[i]!.e.Tag.Client)]) hp47.get0 (by kernel_rfl)), trivial⟩, ?_⟩
      refine HOPS.eff _ rfl (opStep.call (some 29) [.agg #[.int .i64 (ls[i]!.e.Tag.Count), .int .i64 (ls[i]!.e.Tag.Client)], GTag.val (floD C key dl)] (by kernel_rfl) (before_false ls[i]!.e.Tag (floD C key dl) _ (hfl _ (bang_mem (by omega)))) ?_)
      rintro _ w51 ⟨rfl, hf52⟩
      refine ⟨_, rfl, ?_⟩
      have hp53 := hp47.step hf52
      refine ⟨.inr ⟨(show Ld Try.prog w51 31 ⟨g19, 0, none⟩ (.agg #[.int .i64 (ls[i]!.e.Tag.Count), .int .i64 (ls[i]!.e.Tag.Client)]) from Ld.rowN (cs := [.int .i64 (ls[i]!.e.Tag.Count), .int .i64 (ls[i]!.e.Tag.Client)]) hp53.get0 (by kernel_rfl)), trivial⟩, ?_⟩
      refine HOPS.nil ?_
      refine thn_n ?_
      refine WP.condF rfl ?_
      refine WP.skip ?_
      refine blk_n ?_
      refine thn_n ?_
      refine WP.pure {} [] [0, 1, 7, 10, 11, 12] [.pointer (some ⟨sb, 0, none⟩), .string key, .int .i64 ((N + 1 : Nat) : Int), .slice ea en ec, .int .i64 ((en : Nat) : Int), .int .i64 ((i : Int) + 1)] (.cons (show Rng .i64 ((i : Int) + 1) from Rng.i64 (by omega)) .nil) (by kernel_rfl) (fun b54 => ?_)
      refine thn_n ?_
      exact ⟨ls.length - (i + 1), (by omega), i + 1, N + 1, rfl, ⟨by omega, by rw [cntF_more (by omega) (by have h_ := h37; first | exact h_ | (simpa using h_) | (simp_all; done))]; omega⟩, by kernel_rfl, (hp53.sub (.cons _ (.slnil)))⟩
    · refine WP.skip ?_
      refine thn_n ?_
      refine WP.seq ?_
      have hp55 := hp33.drew
      refine WP.held (fun w56 => Ld Try.prog w56 31 ⟨g19, 0, none⟩ (.agg #[.int .i64 (ls[i]!.e.Tag.Count), .int .i64 (ls[i]!.e.Tag.Client)]) ∧ True) [] [(0, true), (1, true), (2, true), (3, true), (4, false), (5, false)] (np_thn (np_blk (np_thn (np_thn (np_blk (np_thn np_body)))))) (by kernel_rfl) ?_
      refine HOPS.take 4 {} [.agg #[.int .i64 (ls[i]!.e.Tag.Count), .int .i64 (ls[i]!.e.Tag.Client)]] [0, 1, 7, 10, 11, 12, 25, 26, 27] [.pointer (some ⟨sb, 0, none⟩), .string key, .int .i64 ((N : Nat) : Int), .slice ea en ec, .int .i64 ((en : Nat) : Int), .int .i64 (i : Int), .agg #[.int .i64 (ls[i]!.e.Tag.Count), .int .i64 (ls[i]!.e.Tag.Client)], .pointer (some ⟨sb, 0, none⟩), .string key] (by kernel_rfl) ⟨(show Ld Try.prog w32.drew 31 ⟨g19, 0, none⟩ (.agg #[.int .i64 (ls[i]!.e.Tag.Count), .int .i64 (ls[i]!.e.Tag.Client)]) from Ld.rowN (cs := [.int .i64 (ls[i]!.e.Tag.Count), .int .i64 (ls[i]!.e.Tag.Client)]) hp55.get0 (by kernel_rfl)), trivial⟩ (fun w57 hS58 => QB.mk (.cons (hS58.1) .nil) (by kernel_rfl)) (fun b59 => ?_)
      refine HOPS.eff _ rfl (opStep.call (some 28) [.pointer (some ⟨sb, 0, none⟩), .string key] (by kernel_rfl) (floD_c sb dl a n c C _ (hS.fram hp55.fr) (by first | assumption | omega) key hdl) ?_)
      rintro _ w62 ⟨rfl, hf64⟩
      refine ⟨_, rfl, ?_⟩
      have hp63 := hp55.step hf64
      refine ⟨.inr ⟨(show Ld Try.prog w62 31 ⟨g19, 0, none⟩ (.agg #[.int .i64 (ls[i]!.e.Tag.Count), .int .i64 (ls[i]!.e.Tag.Client)]) from Ld.rowN (cs := [.int .i64 (ls[i]!.e.Tag.Count), .int .i64 (ls[i]!.e.Tag.Client)]) hp63.get0 (by kernel_rfl)), trivial⟩, ?_⟩
      refine HOPS.eff _ rfl (opStep.call (some 29) [.agg #[.int .i64 (ls[i]!.e.Tag.Count), .int .i64 (ls[i]!.e.Tag.Client)], GTag.val (floD C key dl)] (by kernel_rfl) (before_false ls[i]!.e.Tag (floD C key dl) _ (hfl _ (bang_mem (by omega)))) ?_)
      rintro _ w67 ⟨rfl, hf68⟩
      refine ⟨_, rfl, ?_⟩
      have hp69 := hp63.step hf68
      refine ⟨.inr ⟨(show Ld Try.prog w67 31 ⟨g19, 0, none⟩ (.agg #[.int .i64 (ls[i]!.e.Tag.Count), .int .i64 (ls[i]!.e.Tag.Client)]) from Ld.rowN (cs := [.int .i64 (ls[i]!.e.Tag.Count), .int .i64 (ls[i]!.e.Tag.Client)]) hp69.get0 (by kernel_rfl)), trivial⟩, ?_⟩
      refine HOPS.nil ?_
      refine thn_n ?_
      refine WP.condF rfl ?_
      refine WP.skip ?_
      refine blk_n ?_
      refine thn_n ?_
      refine WP.pure {} [] [0, 1, 7, 10, 11, 12] [.pointer (some ⟨sb, 0, none⟩), .string key, .int .i64 ((N : Nat) : Int), .slice ea en ec, .int .i64 ((en : Nat) : Int), .int .i64 ((i : Int) + 1)] (.cons (show Rng .i64 ((i : Int) + 1) from Rng.i64 (by omega)) .nil) (by kernel_rfl) (fun b70 => ?_)
      refine thn_n ?_
      exact ⟨ls.length - (i + 1), (by omega), i + 1, N, rfl, ⟨by omega, by rw [cntF_same (by omega) (by have h_ := h37; first | exact h_ | (simpa using h_) | (simp_all; done))]; omega⟩, by kernel_rfl, (hp69.sub (.cons _ (.slnil)))⟩
  · refine WP.exit ?_
    refine thn_x ?_
    refine thn_x ?_
    refine blk_hit ?_
    refine thn_n ?_
    refine WP.cut (fun e80 w81 => ∃ (x78 : Bool), (True) ∧ Bp x78 (((((N : Nat) : Int) ≤ ((dl : Nat) : Int))) ∨ ((¬ (((N : Nat) : Int) ≤ ((dl : Nat) : Int))) ∧ (((N : Nat) : Int) = (((dl : Nat) : Int) + 1)))) ∧ List.map e80 [6] = [.bool x78] ∧ Hp w Non [] w81) ?_ ?_
    · refine WP.region _ rfl (by kernel_rfl) ?_
      refine OPS.batch 7 {} [.int .i64 ((dl : Nat) : Int)] [0, 7, 37] [.pointer (some ⟨sb, 0, none⟩), .int .i64 ((N : Nat) : Int), .bool (decide (((N : Nat) : Int) ≤ ((dl : Nat) : Int)))] (.cons (Ld.row1 (P := Try.prog) (t := 3) (o := 0) (v := .int .i64 ((dl : Nat) : Int)) (hS.fram hp6.fr).row (by kernel_rfl)) .nil) (by kernel_rfl) (fun b72 => ?_)
      by_cases h73 : ((N : Nat) : Int) ≤ ((dl : Nat) : Int)
      · refine OPS.batch 0 {} [] [0, 7, 37] [.pointer (some ⟨sb, 0, none⟩), .int .i64 ((N : Nat) : Int), .bool (decide (((N : Nat) : Int) ≤ ((dl : Nat) : Int)))] .nil (by kernel_rfl) (fun b74 => ?_)
        refine OPS.re [.pointer (some ⟨sb, 0, none⟩), .int .i64 ((N : Nat) : Int), .bool true] (by rw [show (decide (((N : Nat) : Int) ≤ ((dl : Nat) : Int))) = true from Bp.dec.tt h73]) ?_
        refine OPS.batch 9 { wraps := [45] } [] [6] [.bool true] .nil (by kernel_rfl) (fun b75 => ?_)
        refine OPS.nil ?_
        refine thn_n ?_
        exact ⟨true, trivial, Bp.of Bp.t (by first | (simp only [h73, iff_false, false_iff, iff_true, true_iff, Classical.not_not, and_true, true_and, and_false, false_and, or_true, true_or, or_false, false_or, not_true_eq_false, not_false_eq_true, and_self, or_self, iff_self]; done) | (simp [h73]; done) | grind | (simp_all; done)), by kernel_rfl, hp6⟩
      · refine OPS.batch 0 {} [] [0, 7, 37] [.pointer (some ⟨sb, 0, none⟩), .int .i64 ((N : Nat) : Int), .bool (decide (((N : Nat) : Int) ≤ ((dl : Nat) : Int)))] .nil (by kernel_rfl) (fun b76 => ?_)
        refine OPS.re [.pointer (some ⟨sb, 0, none⟩), .int .i64 ((N : Nat) : Int), .bool false] (by rw [show (decide (((N : Nat) : Int) ≤ ((dl : Nat) : Int))) = false from Bp.dec.ff h73]) ?_
        refine OPS.batch 9 { wraps := [45] } [.int .i64 ((dl : Nat) : Int)] [6] [.bool (decide (((N : Nat) : Int) = (((dl : Nat) : Int) + 1)))] (.cons (Ld.row1 (P := Try.prog) (t := 3) (o := 0) (v := .int .i64 ((dl : Nat) : Int)) (hS.fram hp6.fr).row (by kernel_rfl)) (.cons (show Rng .i64 (((dl : Nat) : Int) + 1) from Rng.i64 (by omega)) .nil)) (by kernel_rfl) (fun b77 => ?_)
        refine OPS.nil ?_
        refine thn_n ?_
        exact ⟨decide (((N : Nat) : Int) = (((dl : Nat) : Int) + 1)), trivial, Bp.of Bp.dec (by first | (simp only [h73, iff_false, false_iff, iff_true, true_iff, Classical.not_not, and_true, true_and, and_false, false_and, or_true, true_or, or_false, false_or, not_true_eq_false, not_false_eq_true, and_self, or_self, iff_self]; done) | (simp [h73]; done) | grind | (simp_all; done)), by kernel_rfl, hp6⟩
    rintro e80 w81 ⟨x78, hd83, hb79, hE84, hp82⟩
    obtain ⟨b85, rfl⟩ := toMk hE84
    clear hE84
    clear hd83
    refine WP.ret ?_
    refine bodyQ.of _ rfl [.bool x78] ⟨rfl, trivial⟩ ?_
    have hall := cntF_all (by omega : ls.length ≤ i)
    refine ⟨?_, hp82.fr⟩
    rw [show x78 = true from hb79.tt (by omega)]; rfl

end Go.Proofs.Ytdkgdidnknojlaa.K
namespace Go.Proofs.Ytdkgdidnknojlaa.K
open Go Go.RowKit
set_option linter.unusedVariables false
section
variable {w0 w : World} {M : Nat → Prop}
theorem Hp.get12 {a0 a1 a2 a3 a4 a5 a6 a7 a8 a9 a10 a11 : Res} {s : Res} {B : List Res} (h : Hp w0 M (a0 :: a1 :: a2 :: a3 :: a4 :: a5 :: a6 :: a7 :: a8 :: a9 :: a10 :: a11 :: s :: B) w) : s.holds w := Hp.get (A := [a0, a1, a2, a3, a4, a5, a6, a7, a8, a9, a10, a11]) h
theorem Hp.pull12 {a0 a1 a2 a3 a4 a5 a6 a7 a8 a9 a10 a11 : Res} {s : Res} {B : List Res} (h : Hp w0 M (a0 :: a1 :: a2 :: a3 :: a4 :: a5 :: a6 :: a7 :: a8 :: a9 :: a10 :: a11 :: s :: B) w) : Hp w0 M (s :: a0 :: a1 :: a2 :: a3 :: a4 :: a5 :: a6 :: a7 :: a8 :: a9 :: a10 :: a11 :: B) w := Hp.pull (A := [a0, a1, a2, a3, a4, a5, a6, a7, a8, a9, a10, a11]) h
theorem Hp.get14 {a0 a1 a2 a3 a4 a5 a6 a7 a8 a9 a10 a11 a12 a13 : Res} {s : Res} {B : List Res} (h : Hp w0 M (a0 :: a1 :: a2 :: a3 :: a4 :: a5 :: a6 :: a7 :: a8 :: a9 :: a10 :: a11 :: a12 :: a13 :: s :: B) w) : s.holds w := Hp.get (A := [a0, a1, a2, a3, a4, a5, a6, a7, a8, a9, a10, a11, a12, a13]) h
theorem Hp.get16 {a0 a1 a2 a3 a4 a5 a6 a7 a8 a9 a10 a11 a12 a13 a14 a15 : Res} {s : Res} {B : List Res} (h : Hp w0 M (a0 :: a1 :: a2 :: a3 :: a4 :: a5 :: a6 :: a7 :: a8 :: a9 :: a10 :: a11 :: a12 :: a13 :: a14 :: a15 :: s :: B) w) : s.holds w := Hp.get (A := [a0, a1, a2, a3, a4, a5, a6, a7, a8, a9, a10, a11, a12, a13, a14, a15]) h
end
theorem strOf_dataL : ∀ (l : List Int), (strOf l).data.toList = l.map fun n => UInt8.ofNat n.toNat := by
  have key : ∀ (l : List Int) (r : ByteArray), (l.foldl (fun r n => r.push (UInt8.ofNat n.toNat)) r).data.toList = r.data.toList ++ l.map fun n => UInt8.ofNat n.toNat := by
    intro l
    induction l with
    | nil => intro r; simp
    | cons x l ih =>
      intro r
      rw [List.foldl_cons, ih]
      simp [ByteArray.push]
  intro l
  unfold strOf
  rw [key]
  rfl
theorem bytesI_strOf {l : List Int} (h : ∀ y ∈ l, 0 ≤ y ∧ y ≤ 255) : bytesI (strOf l) = l := by
  unfold bytesI
  rw [strOf_dataL, List.map_map]
  refine (List.map_congr_left fun x hx => ?_).trans (List.map_id _)
  have := h x hx
  show ((UInt8.ofNat x.toNat).toNat : Int) = x
  rw [UInt8.toNat_ofNat', Nat.mod_eq_of_lt (by omega)]; omega
theorem bt_of {w : World} {Bn : Nat} {s : SlH} (h : ∃ l, SlD w (α := Int) (fun y => [.int .u8 y]) (fun y => Rng .u8 y) Bn s l) : Bt w s (valAt w s) ∧ s.n ≤ Bn := by
  obtain ⟨l, h⟩ := h
  have hr : ∀ y ∈ l, 0 ≤ y ∧ y ≤ 255 := fun y hy => by
    have := h.all y hy
    have h1 : (0 : Int) ≤ y ∧ y ≤ 255 := this
    exact h1
  have e1 : bytesAt w s = l := bytesAt_of h.rd h.len.symm
  have ev : valAt w s = strOf l := by unfold valAt; rw [e1]
  refine ⟨⟨?_, ?_⟩, Nat.le_trans h.cap h.bnd⟩
  · rw [ev, h.len, ← bytesI_len, bytesI_strOf hr]
  · rw [ev, bytesI_strOf hr]; exact h.rd
section
variable {C C2 : List Ce} {dl n : Nat} {T T2 : Tb} {D D2 D' DC DC2 : List (SlH × ByteArray)} {d : ByteArray} {u : GUpdate} {h : SlH} {f : Bool} {e : Int} {hs : List Hd} {us : List Ud}
/-- The same update with a copy of its data. -/
def inU (u : GUpdate) (h : SlH) : GUpdate := ⟨u.Kind, u.Key, ⟨u.Entry.Tag, u.Entry.Fin, u.Entry.Has, h⟩⟩
theorem may_in (hh : h.n = u.Entry.Data.n) : MayU (inU u h) ↔ MayU u := by
  unfold MayU inU
  simp only [hh]
theorem would_tr (hh : h.n = u.Entry.Data.n) (hw : WouldR T (inU u h) dl f e) : WouldR T u dl f e := by
  unfold WouldR at *
  rw [may_in hh] at hw
  exact hw
theorem ap_tr (hh : h.n = u.Entry.Data.n) (ha : ApR T D (inU u h) d dl f e T2 D2) : ApR T D u d dl f e T2 D2 := by
  unfold ApR at *
  rw [may_in hh] at ha
  exact ha
theorem skip_rel (hR : RelI T D n C DC dl) (hm : ¬ MayU u) {w1 b1 : Bool} {e1 e2 : Int} (hw : WouldR T u dl w1 e1) (ha : ApR T D u d dl b1 e2 T2 D2) : RelI T2 D2 (n + 1) C DC dl ∧ e1 = 1 ∧ e2 = 1 ∧ w1 = false ∧ b1 = false := by
  rcases hw with ⟨_, a, b⟩ | ⟨q, _⟩
  · rcases ha with ⟨_, a2, b2, rfl, rfl⟩ | ⟨q, _⟩
    · exact ⟨⟨hR.ok.more, hR.doc, hR.lk, hR.ne, hR.dk, by have := hR.cl; omega⟩, b, b2, a, a2⟩
    · exact absurd q hm
  · exact absurd q hm
theorem SameI.tbd (hR : SameI T D n C dl) : TbD T := fun key q hq => by
  have h1 := (hR.ok.sh key)
  obtain ⟨c, hc, _, h3⟩ := (hR.lk key q.1 _).1 ⟨q.2, mapV_of_mem h1.1 hq, rfl⟩
  have := (hR.doc.good c hc).size
  have e : c.d = q.2.d := (Prod.mk.inj (Prod.mk.inj h3).2).2
  rw [← e]; exact this
theorem hld_len (hok : TbOk T D n) (hh : HldR T hs D') : hs.length ≤ n := by
  have h_ := hh.1.1.length_eq
  rw [List.length_map, List.length_map] at h_
  have := hok.size; omega
theorem ups_dk (hh : HldR T hs D') : ∀ x ∈ upsL hs, Dk D' x.u.Entry.Data x.d := by
  intro x hx
  obtain ⟨y, hy, hz⟩ := List.mem_flatMap.1 hx
  obtain ⟨z, hz2, rfl⟩ := List.mem_map.1 hz
  exact (hh.2 y hy).2.2 z hz2
theorem ups_size (hR : SameI T D n C dl) (hh : HldR T hs D') : (upsL hs).length = C.length := by
  have h1 := (hol_ok hR hh).count
  unfold upsL
  rw [List.length_flatMap]
  simp only [List.length_map]
  exact h1
theorem ups_sz (hu : UpsOk us C) (hd : DocI C dl) : ∀ x ∈ us, x.d.size ≤ 65540 := by
  intro x hx
  obtain ⟨c, hc, _, h3⟩ := (hu.mem _ _ _).2 ⟨x, hx, rfl, rfl, rfl⟩
  have e : c.d = x.d := (Prod.mk.inj (Prod.mk.inj h3).2).2
  rw [← e]; exact (hd.good c hc).size
theorem dk_old {x : ByteArray} {k : SlH} (hq : ApD C DC u d dl C2 DC2) (hk : Dk DC k x) : Dk DC2 k x := by
  obtain ⟨C1, h1, _⟩ := hq
  rcases h1 with ⟨_, ⟨_, ⟨_, _, rfl⟩ | ⟨_, _, X, _, rfl, _⟩⟩ | ⟨_, _, ⟨_, _, rfl⟩ | ⟨_, _, _, X, _, rfl, _⟩⟩⟩ | ⟨_, _, rfl⟩
  · exact hk
  · exact hk.more
  · exact hk
  · exact hk.more
  · exact hk
theorem RelI.cb {w : World} {F : Nat → Prop} (hR : RelI T D n C DC dl) (hd : (Res.dat F DC).holds w) : CB w C := fun y hy => ⟨dat_at hd (hR.dk y hy), (hR.doc.good y hy).size⟩
end
end Go.Proofs.Ytdkgdidnknojlaa.K
namespace Go.Proofs.Ytdkgdidnknojlaa.K
open Go Go.Proofs Go.RowKit
set_option linter.unusedVariables false
set_option linter.unusedSimpArgs false
set_option maxRecDepth 20000
set_option maxHeartbeats 4000000

theorem new_ok (dl : Nat) (h : dl ≤ 4611686018427387903) (w : World) : Calls Try.prog 4 #[.int .i64 (dl : Int)] w (fun r_ w' => ∃ tb m, r_ = .returned (.tuple #[.pointer (some ⟨tb, 0, none⟩), .int .i64 0]) ∧ Hp w Non [Res.dat (fun _ => False) [], Res.all (([] : Tb).map shRes), Res.row tb [.int .i64 (dl : Int), .map (some m)] 54, Res.mp m kS vO ([] : Tb)] w') := by
  refine (new_c dl w).mono ?_
  rintro _ w' ⟨p, e, rfl, ⟨h1, _⟩ | ⟨_, tb, m, rfl, rfl, hp⟩⟩
  · exact absurd h1 (by omega)
  · exact ⟨tb, m, rfl, hp.allNil.datNil⟩
theorem new_bad (dl : Int) (h : dl < 0 ∨ 4611686018427387903 < dl) (w : World) : Calls Try.prog 4 #[.int .i64 dl] w (fun r_ w' => r_ = .returned (.tuple #[.pointer none, .int .i64 1]) ∧ Fram Non w w') := by
  refine (new_c dl w).mono ?_
  rintro _ w' ⟨p, e, rfl, ⟨_, rfl, rfl, hf⟩ | ⟨h1, _⟩⟩
  · exact ⟨rfl, hf⟩
  · exact absurd h h1
theorem top_c2 (tb m dl : Nat) (T : Tb) (F : Nat → Prop) (D : List (SlH × ByteArray)) (n : Nat) (w : World) (C : List Ce) (DC : List (SlH × ByteArray)) (hT : TbH w tb m dl T F D 54) (hR : RelI T D n C DC dl) (hn : n ≤ 1048600) (hdl : dl ≤ 4611686018427387903) (key : ByteArray) : Calls Try.prog 13 #[.pointer (some ⟨tb, 0, none⟩), .string key] w (fun r_ w' => r_ = .returned (GTag.val (topD C key)) ∧ Fram Non w w') := by
  rw [← hR.top]; exact top_c tb m dl T F D n w hT hR.ok hn hdl key
theorem floor_c2 (tb m dl : Nat) (T : Tb) (F : Nat → Prop) (D : List (SlH × ByteArray)) (n : Nat) (w : World) (C : List Ce) (DC : List (SlH × ByteArray)) (hT : TbH w tb m dl T F D 54) (hR : RelI T D n C DC dl) (hn : n ≤ 1048600) (hdl : dl ≤ 4611686018427387903) (key : ByteArray) : Calls Try.prog 15 #[.pointer (some ⟨tb, 0, none⟩), .string key] w (fun r_ w' => r_ = .returned (GTag.val (floD C key dl)) ∧ Fram Non w w') := by
  rw [← hR.flo]; exact floor_c tb m dl T F D n w hT hR.ok hn hdl key
theorem sc_v (C1 C2 : List Ce) (b : Bool) (a1 a2 : Option Addr) (n1 n2 c1 c2 : Nat) (w : World) (m1 : n1 = C1.length) (m2 : n2 = C2.length) (hb : C1.length ≤ 1048600) (k1 : SlR w a1 n1 (C1.flatMap cC)) (k2 : SlR w a2 n2 (C2.flatMap cC)) (hc1 : CB w C1) (hc2 : CB w C2) (h : b = true ↔ ¬ C1.map itC = C2.map itC) : Calls Try.prog 10 #[.slice a1 n1 c1, .slice a2 n2 c2] w (fun r_ w' => r_ = .returned (.bool (!b)) ∧ Fram Non w w') :=
  (sc_c C1 C2 a1 a2 n1 n2 c1 c2 w m1 m2 hb k1 k2 hc1 hc2).mono fun _ _ ⟨f_, h1, h2, h3⟩ => ⟨by
    rw [h1]
    cases b with
    | true => rw [h2.ff (h.1 rfl)]; rfl
    | false => rw [h2.tt (Classical.byContradiction fun q => nomatch h.2 q)]; rfl, h3⟩
theorem tt_ok (dl : Nat) (hdl : dl ≤ 4611686018427387903) (l : List GUpdate) (a : Option Addr) (n c : Nat) (w : World) (hn : n = l.length) (hb : l.length ≤ 1048576) (hs : SlR w a n (l.flatMap GUpdate.cells)) (hB : ∀ y ∈ l, Bt w y.Entry.Data (valAt w y.Entry.Data) ∧ y.Entry.Data.n ≤ 1048576) :
    Calls Try.prog 3 #[.int .i64 ((dl : Nat) : Int), .slice a n c] w (fun x w' => x = .returned (.bool true) ∧ Fram Non w w') := by
  refine calls_of Try.func3 rfl 184 rfl (by simp) ?_
  have hp0 := Hp.init w
  have he0 : List.map (env0 [.int .i64 ((dl : Nat) : Int), .slice a n c]) [0, 1] = [.int .i64 ((dl : Nat) : Int), .slice a n c] := by kernel_rfl
  obtain ⟨b0, he0⟩ := toMk he0
  rw [he0]
  clear he0
  refine WP.seq ?_
  refine WP.pure {} [] [0, 1] [.int .i64 ((dl : Nat) : Int), .slice a n c] .nil (by kernel_rfl) (fun b1 => ?_)
  refine thn_n ?_
  refine WP.seq ?_
  refine WP.region _ rfl (by kernel_rfl) ?_
  refine OPS.batch 1 {} [] [0, 1, 22] [.int .i64 ((dl : Nat) : Int), .slice a n c, .int .i64 ((dl : Nat) : Int)] .nil (by kernel_rfl) (fun b2 => ?_)
  refine OPS.cons (opStep.call (some 23) [.int .i64 ((dl : Nat) : Int)] (by kernel_rfl) (new_ok dl hdl _) ?_)
  rintro _ w5 ⟨tb, m, rfl, hp6⟩
  refine ⟨_, rfl, ?_⟩
  have hp7 := hp0.madeQ hp6
  simp only [List.cons_append, List.nil_append] at hp7
  refine OPS.batch 5 {} [] [0, 1, 5, 6] [.int .i64 ((dl : Nat) : Int), .slice a n c, .pointer (some ⟨tb, 0, none⟩), .int .i64 0] .nil (by kernel_rfl) (fun b8 => ?_)
  refine OPS.nil ?_
  refine thn_n ?_
  refine WP.seq ?_
  refine WP.seq ?_
  refine WP.pure { wraps := [31], subs := [27, 30] } [.bool false, .bool false] [0, 1, 5, 6, 31] [.int .i64 ((dl : Nat) : Int), .slice a n c, .pointer (some ⟨tb, 0, none⟩), .int .i64 0, .bool false] (.cons (show (.bool (decide (((dl : Nat) : Int) < 0)) : Go.Value) = .bool false from congrArg Value.bool (decide_eq_false (by omega))) (.cons (show (.bool (decide (4611686018427387903 < ((dl : Nat) : Int))) : Go.Value) = .bool false from congrArg Value.bool (decide_eq_false (by omega))) .nil)) (by kernel_rfl) (fun b9 => ?_)
  refine thn_n ?_
  refine WP.condF rfl ?_
  refine WP.skip ?_
  refine thn_n ?_
  refine WP.seq ?_
  refine WP.seq ?_
  refine WP.pure { wraps := [43] } [] [0, 1, 5, 43] [.int .i64 ((dl : Nat) : Int), .slice a n c, .pointer (some ⟨tb, 0, none⟩), .bool false] .nil (by kernel_rfl) (fun b10 => ?_)
  refine thn_n ?_
  refine WP.condF rfl ?_
  refine WP.skip ?_
  refine thn_n ?_
  refine WP.seq ?_
  refine WP.region _ rfl (by kernel_rfl) ?_
  refine OPS.batch 2 {} [] [0, 1, 5, 45] [.int .i64 ((dl : Nat) : Int), .slice a n c, .pointer (some ⟨tb, 0, none⟩), .agg #[.int .i64 ((dl : Nat) : Int), .slice none 0 0]] .nil (by kernel_rfl) (fun b11 => ?_)
  refine OPS.cons (opStep.alloc hp7 [.int .i64 0, .slice none 0 0] (by kernel_rfl) (fun g14 w12 hp13 => ?_))
  refine OPS.cons (opStep.store0 hp13 rfl [.int .i64 ((dl : Nat) : Int), .slice none 0 0] [.int .i64 ((dl : Nat) : Int), .slice none 0 0] (by kernel_rfl) (fun w15 hp16 => ?_))
  refine OPS.nil ?_
  refine thn_n ?_
  refine WP.seq ?_
  refine WP.seq ?_
  refine WP.pure {} [] [0, 5, 7, 46, 47, 48] [.int .i64 ((dl : Nat) : Int), .pointer (some ⟨tb, 0, none⟩), .pointer (some ⟨g14, 0, none⟩), .slice a n c, .int .i64 ((n : Nat) : Int), .int .i64 0] .nil (by kernel_rfl) (fun b17 => ?_)
  refine thn_n ?_
  refine WP.block ?_
  have hp18 := hp16.pull1
  have hp19 := hp18.pull2
  have hp20 := hp19.pull4
  have hp21 := hp20.pull4
  have hp22 := (hp21.nilOwn 66 6).datNil
  obtain ⟨sb, hsb⟩ : ∃ sb, sb = g14 := ⟨_, rfl⟩
  rw [← hsb] at hp22
  have hp23 := (show Hp w Non [Res.dat (fun _ => False) [], Res.own 66 6 (.slice none 0 0) 0 (List.flatMap cC ([] : List Ce)), Res.row tb [.int .i64 ((dl : Nat) : Int), .map (some m)] 54, Res.mp m kS vO ([] : Tb), Res.all (([] : Tb).map shRes), Res.dat (fun _ => False) [], Res.row sb [.int .i64 ((dl : Nat) : Int), .slice none 0 0] 29] w15 from hp22)
  try rw [← hsb]
  refine WP.loop (fun mz_ e24 w25 => ∃ (i : Nat) (T : Tb) (F : Nat → Prop) (D : List (SlH × ByteArray)) (C : List Ce) (FC : Nat → Prop) (DC : List (SlH × ByteArray)) (a2 : Option Addr) (n2 : Nat) (c2 : Nat), mz_ = l.length - i ∧ (i ≤ l.length ∧ RelI T D i C DC dl) ∧ List.map e24 [0, 5, 7, 46, 47, 48] = [.int .i64 ((dl : Nat) : Int), .pointer (some ⟨tb, 0, none⟩), .pointer (some ⟨sb, 0, none⟩), .slice a n c, .int .i64 ((n : Nat) : Int), .int .i64 (i : Int)] ∧ Hp w Non [Res.row tb [.int .i64 ((dl : Nat) : Int), .map (some m)] 54, Res.mp m kS vO T, Res.all (T.map shRes), Res.dat F D, Res.row sb [.int .i64 ((dl : Nat) : Int), .slice a2 n2 c2] 29, Res.own 66 6 (.slice a2 n2 c2) n2 (List.flatMap cC C), Res.dat FC DC] w25) (l.length - (0)) ⟨0, ([] : Tb), (fun _ => False), [], [], (fun _ => False), [], none, 0, 0, rfl, ⟨Nat.zero_le _, relI_nil dl⟩, by kernel_rfl, ((((((((hp23.pull0).pull1).pull6).pull6).pull6).pull6).pull6).sub (.cons_cons _ (.cons_cons _ (.cons_cons _ (.cons_cons _ (.cons_cons _ (.cons_cons _ (.cons_cons _ (.slnil)))))))))⟩ ?_
  rintro _ e24 w25 ⟨i, T, F, D, C, FC, DC, a2, n2, c2, rfl, hI27, hE28, hp26⟩
  obtain ⟨b29, rfl⟩ := toMk hE28
  clear hE28
  obtain ⟨pa, hR⟩ := hI27
  have hcl0 := hR.cl
  have hcz := own_flat (f := cC) (sz := 6) (fun _ => rfl) (by decide) hp26.get5
  refine WP.seq ?_
  refine WP.pure {} [] [0, 5, 7, 46, 47, 48, 49] [.int .i64 ((dl : Nat) : Int), .pointer (some ⟨tb, 0, none⟩), .pointer (some ⟨sb, 0, none⟩), .slice a n c, .int .i64 ((n : Nat) : Int), .int .i64 (i : Int), .bool (decide ((i : Int) < ((n : Nat) : Int)))] .nil (by kernel_rfl) (fun b30 => ?_)
  refine thn_n ?_
  refine WP.seq ?_
  refine WP.test (p := (i : Int) < ((n : Nat) : Int)) rfl Bp.dec (fun h31 => ?_) (fun h31 => ?_)
  · refine WP.skip ?_
    refine thn_n ?_
    refine WP.seq ?_
    refine WP.block ?_
    refine WP.seq ?_
    refine WP.region _ rfl (by kernel_rfl) ?_
    have hy35 : (l)[i]? = some l[i]! := get_bang (by first | (omega) | (simp only [List.length_append, List.length_cons, List.length_nil]; omega) | (simp only [List.length_take, List.length_append, List.length_cons, List.length_nil]; omega))
    refine OPS.batch 2 {} [GUpdate.val (l[i]!)] [0, 5, 7, 46, 47, 48, 51] [.int .i64 ((dl : Nat) : Int), .pointer (some ⟨tb, 0, none⟩), .pointer (some ⟨sb, 0, none⟩), .slice a n c, .int .i64 ((n : Nat) : Int), .int .i64 (i : Int), GUpdate.val (l[i]!)] (.cons (show InB ((i : Int)) (n) from ⟨by omega, by omega⟩) (.cons ((hs.at hp26).some (by omega)) (.cons (Ld.add0 (Ld.elN (P := Try.prog) (t := 36) (hs.at hp26).rd 7 (fun _ => rfl) hy35 (o := 0) (cs := [.int .i64 (l[i]!.Kind), .string (l[i]!.Key), .int .i64 (l[i]!.Entry.Tag.Count), .int .i64 (l[i]!.Entry.Tag.Client), .bool (l[i]!.Entry.Fin), .bool (l[i]!.Entry.Has), .slice (l[i]!.Entry.Data.a) (l[i]!.Entry.Data.n) (l[i]!.Entry.Data.c)]) (by kernel_rfl))) .nil))) (by kernel_rfl) (fun b36 => ?_)
    refine OPS.cons (opStep.alloc hp26 [.int .i64 0, .string ByteArray.empty, .int .i64 0, .int .i64 0, .bool false, .bool false, .slice none 0 0] (by kernel_rfl) (fun g39 w37 hp38 => ?_))
    refine OPS.cons (opStep.store0 hp38 rfl [.int .i64 (l[i]!.Kind), .string (l[i]!.Key), .int .i64 (l[i]!.Entry.Tag.Count), .int .i64 (l[i]!.Entry.Tag.Client), .bool (l[i]!.Entry.Fin), .bool (l[i]!.Entry.Has), .slice (l[i]!.Entry.Data.a) (l[i]!.Entry.Data.n) (l[i]!.Entry.Data.c)] [.int .i64 (l[i]!.Kind), .string (l[i]!.Key), .int .i64 (l[i]!.Entry.Tag.Count), .int .i64 (l[i]!.Entry.Tag.Client), .bool (l[i]!.Entry.Fin), .bool (l[i]!.Entry.Has), .slice (l[i]!.Entry.Data.a) (l[i]!.Entry.Data.n) (l[i]!.Entry.Data.c)] (by kernel_rfl) (fun w40 hp41 => ?_))
    refine OPS.nil ?_
    refine thn_n ?_
    refine WP.seq ?_
    refine WP.region _ rfl (by kernel_rfl) ?_
    refine OPS.batch 1 {} [GUpdate.val (l[i]!)] [0, 5, 7, 9, 46, 47, 48, 52] [.int .i64 ((dl : Nat) : Int), .pointer (some ⟨tb, 0, none⟩), .pointer (some ⟨sb, 0, none⟩), .pointer (some ⟨g39, 0, none⟩), .slice a n c, .int .i64 ((n : Nat) : Int), .int .i64 (i : Int), GUpdate.val (l[i]!)] (.cons (show Ld Try.prog w40 36 ⟨g39, 0, none⟩ (GUpdate.val (l[i]!)) from Ld.rowN (cs := [.int .i64 (l[i]!.Kind), .string (l[i]!.Key), .int .i64 (l[i]!.Entry.Tag.Count), .int .i64 (l[i]!.Entry.Tag.Client), .bool (l[i]!.Entry.Fin), .bool (l[i]!.Entry.Has), .slice (l[i]!.Entry.Data.a) (l[i]!.Entry.Data.n) (l[i]!.Entry.Data.c)]) hp41.get0 (by kernel_rfl)) .nil) (by kernel_rfl) (fun b42 => ?_)
    refine OPS.cons (opStep.alloc hp41 [.int .i64 0, .string ByteArray.empty, .int .i64 0, .int .i64 0, .bool false, .bool false, .slice none 0 0] (by kernel_rfl) (fun g45 w43 hp44 => ?_))
    refine OPS.cons (opStep.store0 hp44 rfl [.int .i64 (l[i]!.Kind), .string (l[i]!.Key), .int .i64 (l[i]!.Entry.Tag.Count), .int .i64 (l[i]!.Entry.Tag.Client), .bool (l[i]!.Entry.Fin), .bool (l[i]!.Entry.Has), .slice (l[i]!.Entry.Data.a) (l[i]!.Entry.Data.n) (l[i]!.Entry.Data.c)] [.int .i64 (l[i]!.Kind), .string (l[i]!.Key), .int .i64 (l[i]!.Entry.Tag.Count), .int .i64 (l[i]!.Entry.Tag.Client), .bool (l[i]!.Entry.Fin), .bool (l[i]!.Entry.Has), .slice (l[i]!.Entry.Data.a) (l[i]!.Entry.Data.n) (l[i]!.Entry.Data.c)] (by kernel_rfl) (fun w46 hp47 => ?_))
    refine OPS.nil ?_
    refine thn_n ?_
    refine WP.seq ?_
    refine WP.region _ rfl (by kernel_rfl) ?_
    refine OPS.batch 3 {} [.slice (l[i]!.Entry.Data.a) (l[i]!.Entry.Data.n) (l[i]!.Entry.Data.c)] [0, 5, 7, 9, 10, 46, 47, 48, 55] [.int .i64 ((dl : Nat) : Int), .pointer (some ⟨tb, 0, none⟩), .pointer (some ⟨sb, 0, none⟩), .pointer (some ⟨g39, 0, none⟩), .pointer (some ⟨g45, 0, none⟩), .slice a n c, .int .i64 ((n : Nat) : Int), .int .i64 (i : Int), .slice (l[i]!.Entry.Data.a) (l[i]!.Entry.Data.n) (l[i]!.Entry.Data.c)] (.cons (Ld.row1 (P := Try.prog) (t := 32) (o := 6) (v := .slice (l[i]!.Entry.Data.a) (l[i]!.Entry.Data.n) (l[i]!.Entry.Data.c)) hp47.get1 (by kernel_rfl)) .nil) (by kernel_rfl) (fun b48 => ?_)
    have hin := hB _ (bang_mem (by omega : i < l.length))
    refine OPS.cons (opStep.call (some 56) [.slice (l[i]!.Entry.Data.a) (l[i]!.Entry.Data.n) (l[i]!.Entry.Data.c)] (by kernel_rfl) (own_c l[i]!.Entry.Data (valAt w l[i]!.Entry.Data) _ (hin.1.fram hp47.fr) (by have h_ := hin.1.1; have h2_ := hin.2; omega)) ?_)
    rintro _ w51 ⟨h53, F54, rfl, hp52⟩
    refine ⟨_, rfl, ?_⟩
    have hp55 := hp47.madeQ hp52
    simp only [List.cons_append, List.nil_append] at hp55
    have hhn : h53.n = l[i]!.Entry.Data.n := (dat_at hp52.get0 (.inl (by simp))).1.trans hin.1.1.symm
    refine OPS.batch 2 {} [] [0, 5, 7, 9, 10, 46, 47, 48, 56, 58] [.int .i64 ((dl : Nat) : Int), .pointer (some ⟨tb, 0, none⟩), .pointer (some ⟨sb, 0, none⟩), .pointer (some ⟨g39, 0, none⟩), .pointer (some ⟨g45, 0, none⟩), .slice a n c, .int .i64 ((n : Nat) : Int), .int .i64 (i : Int), .slice h53.a h53.n h53.c, .pointer (some ⟨g45, 6, none⟩)] .nil (by kernel_rfl) (fun b56 => ?_)
    refine OPS.cons (opStep.store1 hp55 rfl [.slice h53.a h53.n h53.c] [.int .i64 (l[i]!.Kind), .string (l[i]!.Key), .int .i64 (l[i]!.Entry.Tag.Count), .int .i64 (l[i]!.Entry.Tag.Client), .bool (l[i]!.Entry.Fin), .bool (l[i]!.Entry.Has), .slice h53.a h53.n h53.c] (by kernel_rfl) (fun w57 hp58 => ?_))
    refine OPS.nil ?_
    refine thn_n ?_
    refine WP.seq ?_
    refine WP.region _ rfl (by kernel_rfl) ?_
    refine OPS.batch 2 {} [.agg #[.int .i64 (l[i]!.Kind), .string (l[i]!.Key), .int .i64 (l[i]!.Entry.Tag.Count), .int .i64 (l[i]!.Entry.Tag.Client), .bool (l[i]!.Entry.Fin), .bool (l[i]!.Entry.Has), .slice h53.a h53.n h53.c]] [0, 5, 7, 9, 10, 46, 47, 48, 60, 61] [.int .i64 ((dl : Nat) : Int), .pointer (some ⟨tb, 0, none⟩), .pointer (some ⟨sb, 0, none⟩), .pointer (some ⟨g39, 0, none⟩), .pointer (some ⟨g45, 0, none⟩), .slice a n c, .int .i64 ((n : Nat) : Int), .int .i64 (i : Int), .pointer (some ⟨tb, 0, none⟩), .agg #[.int .i64 (l[i]!.Kind), .string (l[i]!.Key), .int .i64 (l[i]!.Entry.Tag.Count), .int .i64 (l[i]!.Entry.Tag.Client), .bool (l[i]!.Entry.Fin), .bool (l[i]!.Entry.Has), .slice h53.a h53.n h53.c]] (.cons (show Ld Try.prog w57 36 ⟨g45, 0, none⟩ (.agg #[.int .i64 (l[i]!.Kind), .string (l[i]!.Key), .int .i64 (l[i]!.Entry.Tag.Count), .int .i64 (l[i]!.Entry.Tag.Client), .bool (l[i]!.Entry.Fin), .bool (l[i]!.Entry.Has), .slice h53.a h53.n h53.c]) from Ld.rowN (cs := [.int .i64 (l[i]!.Kind), .string (l[i]!.Key), .int .i64 (l[i]!.Entry.Tag.Count), .int .i64 (l[i]!.Entry.Tag.Client), .bool (l[i]!.Entry.Fin), .bool (l[i]!.Entry.Has), .slice h53.a h53.n h53.c]) hp58.get1 (by kernel_rfl)) .nil) (by kernel_rfl) (fun b59 => ?_)
    have hp62 := hp58.pull6
    have hp63 := hp62.pull6
    have hp64 := hp63.pull6
    have hp65 := hp64.pull6
    refine OPS.cons (opStep.call (some 62) [.pointer (some ⟨tb, 0, none⟩), .agg #[.int .i64 (l[i]!.Kind), .string (l[i]!.Key), .int .i64 (l[i]!.Entry.Tag.Count), .int .i64 (l[i]!.Entry.Tag.Client), .bool (l[i]!.Entry.Fin), .bool (l[i]!.Entry.Has), .slice h53.a h53.n h53.c]] (by kernel_rfl) (would_c tb m dl T F D i _ (TbH.of hp65) (hR).ok (by omega) hdl (inU l[i]! h53)) ?_)
    rintro _ w66 ⟨f69, e70, rfl, hw71, hf68⟩
    replace hw71 := would_tr hhn hw71
    refine ⟨_, rfl, ?_⟩
    have hp67 := hp65.step hf68
    refine OPS.batch 5 {} [] [0, 5, 7, 9, 10, 11, 12, 46, 47, 48] [.int .i64 ((dl : Nat) : Int), .pointer (some ⟨tb, 0, none⟩), .pointer (some ⟨sb, 0, none⟩), .pointer (some ⟨g39, 0, none⟩), .pointer (some ⟨g45, 0, none⟩), .bool f69, .int .i64 e70, .slice a n c, .int .i64 ((n : Nat) : Int), .int .i64 (i : Int)] .nil (by kernel_rfl) (fun b72 => ?_)
    refine OPS.nil ?_
    refine thn_n ?_
    refine WP.seq ?_
    refine WP.region _ rfl (by kernel_rfl) ?_
    refine OPS.batch 2 {} [.agg #[.int .i64 (l[i]!.Kind), .string (l[i]!.Key), .int .i64 (l[i]!.Entry.Tag.Count), .int .i64 (l[i]!.Entry.Tag.Client), .bool (l[i]!.Entry.Fin), .bool (l[i]!.Entry.Has), .slice h53.a h53.n h53.c]] [0, 5, 7, 9, 11, 12, 46, 47, 48, 66, 67] [.int .i64 ((dl : Nat) : Int), .pointer (some ⟨tb, 0, none⟩), .pointer (some ⟨sb, 0, none⟩), .pointer (some ⟨g39, 0, none⟩), .bool f69, .int .i64 e70, .slice a n c, .int .i64 ((n : Nat) : Int), .int .i64 (i : Int), .pointer (some ⟨tb, 0, none⟩), .agg #[.int .i64 (l[i]!.Kind), .string (l[i]!.Key), .int .i64 (l[i]!.Entry.Tag.Count), .int .i64 (l[i]!.Entry.Tag.Client), .bool (l[i]!.Entry.Fin), .bool (l[i]!.Entry.Has), .slice h53.a h53.n h53.c]] (.cons (show Ld Try.prog w66 36 ⟨g45, 0, none⟩ (.agg #[.int .i64 (l[i]!.Kind), .string (l[i]!.Key), .int .i64 (l[i]!.Entry.Tag.Count), .int .i64 (l[i]!.Entry.Tag.Client), .bool (l[i]!.Entry.Fin), .bool (l[i]!.Entry.Has), .slice h53.a h53.n h53.c]) from Ld.rowN (cs := [.int .i64 (l[i]!.Kind), .string (l[i]!.Key), .int .i64 (l[i]!.Entry.Tag.Count), .int .i64 (l[i]!.Entry.Tag.Client), .bool (l[i]!.Entry.Fin), .bool (l[i]!.Entry.Has), .slice h53.a h53.n h53.c]) hp67.get5 (by kernel_rfl)) .nil) (by kernel_rfl) (fun b73 => ?_)
    have hp85 := hp67.pull3
    have hp86 := hp85.pull3
    have hp87 := hp86.pull3
    have hp88 := hp87.pull3
    refine OPS.cons (opStep.call (some 68) [.pointer (some ⟨tb, 0, none⟩), .agg #[.int .i64 (l[i]!.Kind), .string (l[i]!.Key), .int .i64 (l[i]!.Entry.Tag.Count), .int .i64 (l[i]!.Entry.Tag.Client), .bool (l[i]!.Entry.Fin), .bool (l[i]!.Entry.Has), .slice h53.a h53.n h53.c]] (by kernel_rfl) (apply_c w _ _ tb m dl T F D (inU l[i]! h53) (valAt w l[i]!.Entry.Data) (fun w1_ h1_ => dat_at h1_.get0 (.inl (List.mem_singleton.2 rfl))) (by have h_ := hin.1.1; have h2_ := hin.2; omega) hdl i (hR).ok (by omega) hp88) ?_)
    rintro _ w76 ⟨f78, e79, T80, F81, D82, rfl, ⟨ha83, hok84⟩, hp77⟩
    replace ha83 := ap_tr hhn ha83
    refine ⟨_, rfl, ?_⟩
    refine OPS.batch 5 {} [] [0, 5, 7, 9, 11, 12, 13, 14, 46, 47, 48] [.int .i64 ((dl : Nat) : Int), .pointer (some ⟨tb, 0, none⟩), .pointer (some ⟨sb, 0, none⟩), .pointer (some ⟨g39, 0, none⟩), .bool f69, .int .i64 e70, .bool f78, .int .i64 e79, .slice a n c, .int .i64 ((n : Nat) : Int), .int .i64 (i : Int)] .nil (by kernel_rfl) (fun b89 => ?_)
    refine OPS.nil ?_
    refine thn_n ?_
    refine WP.seq ?_
    refine WP.seq ?_
    refine WP.region _ rfl (by kernel_rfl) ?_
    refine OPS.batch 1 {} [GUpdate.val (l[i]!)] [0, 5, 7, 9, 11, 12, 13, 14, 46, 47, 48, 71] [.int .i64 ((dl : Nat) : Int), .pointer (some ⟨tb, 0, none⟩), .pointer (some ⟨sb, 0, none⟩), .pointer (some ⟨g39, 0, none⟩), .bool f69, .int .i64 e70, .bool f78, .int .i64 e79, .slice a n c, .int .i64 ((n : Nat) : Int), .int .i64 (i : Int), GUpdate.val (l[i]!)] (.cons (show Ld Try.prog w76 36 ⟨g39, 0, none⟩ (GUpdate.val (l[i]!)) from Ld.rowN (cs := [.int .i64 (l[i]!.Kind), .string (l[i]!.Key), .int .i64 (l[i]!.Entry.Tag.Count), .int .i64 (l[i]!.Entry.Tag.Client), .bool (l[i]!.Entry.Fin), .bool (l[i]!.Entry.Has), .slice (l[i]!.Entry.Data.a) (l[i]!.Entry.Data.n) (l[i]!.Entry.Data.c)]) hp77.get6 (by kernel_rfl)) .nil) (by kernel_rfl) (fun b90 => ?_)
    refine OPS.cons (opStep.call (some 72) [GUpdate.val (l[i]!)] (by kernel_rfl) (fits_c l[i]! _) ?_)
    rintro _ w93 ⟨b96, rfl, hb97, hf94⟩
    refine ⟨_, rfl, ?_⟩
    have hp95 := hp77.step hf94
    refine OPS.batch 1 {} [] [0, 5, 7, 9, 11, 12, 13, 14, 46, 47, 48, 73] [.int .i64 ((dl : Nat) : Int), .pointer (some ⟨tb, 0, none⟩), .pointer (some ⟨sb, 0, none⟩), .pointer (some ⟨g39, 0, none⟩), .bool f69, .int .i64 e70, .bool f78, .int .i64 e79, .slice a n c, .int .i64 ((n : Nat) : Int), .int .i64 (i : Int), .bool (!b96)] .nil (by kernel_rfl) (fun b98 => ?_)
    refine OPS.nil ?_
    refine thn_n ?_
    refine WP.test (p := ¬ (MayU l[i]!)) rfl (Bp.not hb97) (fun h99 => ?_) (fun h99 => ?_)
    · refine WP.seq ?_
      obtain ⟨hR100, hz1, hz2, hz3, hz4⟩ := skip_rel hR h99 hw71 ha83
      refine WP.pure { wraps := [79, 82, 85], subs := [75, 78, 81, 84] } [.bool false, .bool false, .bool false, .bool false] [0, 5, 7, 9, 46, 47, 48, 85] [.int .i64 ((dl : Nat) : Int), .pointer (some ⟨tb, 0, none⟩), .pointer (some ⟨sb, 0, none⟩), .pointer (some ⟨g39, 0, none⟩), .slice a n c, .int .i64 ((n : Nat) : Int), .int .i64 (i : Int), .bool false] (.cons (show (.bool (decide (¬ (e70 = 1))) : Go.Value) = .bool false from congrArg Value.bool ((by simp [hz1]))) (.cons (show (.bool (decide (¬ (e79 = 1))) : Go.Value) = .bool false from congrArg Value.bool ((by simp [hz2]))) (.cons (show (.bool f69 : Go.Value) = .bool false from congrArg Value.bool (hz3)) (.cons (show (.bool f78 : Go.Value) = .bool false from congrArg Value.bool (hz4)) .nil)))) (by kernel_rfl) (fun b101 => ?_)
      refine thn_n ?_
      refine WP.condF rfl ?_
      refine WP.skip ?_
      refine thn_n ?_
      refine WP.seq ?_
      have hp102 := hp95.drew
      refine WP.held (fun w103 => Ld Try.prog w103 9 ⟨g39, 1, none⟩ (.string (l[i]!.Key)) ∧ True) [] [(0, true), (1, false), (2, false), (3, true), (4, true), (5, true), (6, true), (7, true), (9, true), (10, true), (8, false), (11, false), (12, true), (13, true), (14, true), (15, true), (16, true), (17, true), (19, true), (20, true), (18, false), (21, false), (22, true), (23, true), (24, true), (25, true), (26, true), (27, true), (28, true), (29, true), (30, false), (31, false), (32, true), (33, true)] (np_thn (np_blk (np_thn (np_thn (np_blk (np_thn np_body)))))) (by kernel_rfl) ?_
      refine HOPS.take 1 {} [] [0, 5, 7, 9, 46, 47, 48, 114] [.int .i64 ((dl : Nat) : Int), .pointer (some ⟨tb, 0, none⟩), .pointer (some ⟨sb, 0, none⟩), .pointer (some ⟨g39, 0, none⟩), .slice a n c, .int .i64 ((n : Nat) : Int), .int .i64 (i : Int), .pointer (some ⟨tb, 0, none⟩)] (by kernel_rfl) ⟨(show Ld Try.prog w93.drew 9 ⟨g39, 1, none⟩ (.string (l[i]!.Key)) from (Ld.row1 (P := Try.prog) (t := 9) (o := 1) (v := .string (l[i]!.Key)) hp102.get6 (by kernel_rfl))), trivial⟩ (fun w104 hS105 => QB.mk .nil (by kernel_rfl)) (fun b106 => ?_)
      have hp109 := hp102.pull3
      have hp110 := hp109.pull3
      have hp111 := hp110.pull3
      have hp112 := hp111.pull3
      refine HOPS.eff _ rfl (opStep.call (some 115) [.pointer (some ⟨tb, 0, none⟩)] (by kernel_rfl) (all_c tb m dl T80 F81 D82 (i+1) _ (TbH.of hp112) (hR100).same.ok (by omega) (hR100).same.tbd) ?_)
      rintro _ w113 ⟨a116, n117, c118, hs119, F120, D121, F122, rfl, hh123, hp114⟩
      refine ⟨_, rfl, ?_⟩
      have hl124 := own_flat (f := hC) (sz := 2) (fun _ => rfl) (by decide) hp114.get0
      have hk125 := hld_len (hR100).same.ok hh123
      have hp115 := hp112.madeQ hp114
      simp only [List.cons_append, List.nil_append] at hp115
      refine ⟨.inr ⟨(show Ld Try.prog w113 9 ⟨g39, 1, none⟩ (.string (l[i]!.Key)) from (Ld.row1 (P := Try.prog) (t := 9) (o := 1) (v := .string (l[i]!.Key)) hp115.get9 (by kernel_rfl))), trivial⟩, ?_⟩
      have hp128 := hp115.pull12
      have hp129 := hp128.pull3
      have hp130 := hp129.pull3
      have hp131 := hp130.pull3
      have hp132 := hp131.pull12
      have hp133 := hp132.pull12
      refine HOPS.eff _ rfl (opStep.call (some 116) [.pointer (some ⟨sb, 0, none⟩), .slice a116 n117 c118] (by kernel_rfl) (holds_c sb dl a2 n2 c2 C _ (ShH.of hp133) (by have h_ := (hR100).cl; omega) hs119 (by omega) a116 n117 c118 hl124.symm (SlR.own hp133.get2) (fun y hy => els_at hp133.get3 hy) ((hR100).cb hp133.get5) (fun y hy x hx => dat_at hp133.get4 ((hh123.2 y hy).2.2 x hx)) (hol_ok (hR100).same hh123)) ?_)
      rintro _ w134 ⟨rfl, hf136⟩
      refine ⟨_, rfl, ?_⟩
      have hp135 := hp133.step hf136
      refine ⟨.inr ⟨(show Ld Try.prog w134 9 ⟨g39, 1, none⟩ (.string (l[i]!.Key)) from (Ld.row1 (P := Try.prog) (t := 9) (o := 1) (v := .string (l[i]!.Key)) hp135.get12 (by kernel_rfl))), trivial⟩, ?_⟩
      refine HOPS.take 7 {} [.string (l[i]!.Key), .string (l[i]!.Key)] [0, 5, 7, 9, 46, 47, 48, 118, 119, 121, 124] [.int .i64 ((dl : Nat) : Int), .pointer (some ⟨tb, 0, none⟩), .pointer (some ⟨sb, 0, none⟩), .pointer (some ⟨g39, 0, none⟩), .slice a n c, .int .i64 ((n : Nat) : Int), .int .i64 (i : Int), .bool false, .pointer (some ⟨tb, 0, none⟩), .string (l[i]!.Key), .string (l[i]!.Key)] (by kernel_rfl) ⟨(show Ld Try.prog w134 9 ⟨g39, 1, none⟩ (.string (l[i]!.Key)) from (Ld.row1 (P := Try.prog) (t := 9) (o := 1) (v := .string (l[i]!.Key)) hp135.get12 (by kernel_rfl))), trivial⟩ (fun w137 hS138 => QB.mk (.cons (hS138.1) (.cons (hS138.1) .nil)) (by kernel_rfl)) (fun b139 => ?_)
      have hp142 := hp135.pull9
      have hp143 := hp142.pull9
      have hp144 := hp143.pull9
      have hp145 := hp144.pull9
      refine HOPS.effW _ rfl (by kernel_rfl) (opStep.call (some 122) [.pointer (some ⟨tb, 0, none⟩), .string (l[i]!.Key)] (by kernel_rfl) (top_c2 tb m dl T80 F81 D82 (i+1) _ C DC (TbH.of hp145) hR100 (by omega) hdl (l[i]!.Key)) ?_)
      rintro _ w146 ⟨rfl, hf148⟩
      refine ⟨_, rfl, ?_⟩
      have hp147 := hp145.step hf148
      refine ⟨.inr ⟨(show Ld Try.prog w146 9 ⟨g39, 1, none⟩ (.string (l[i]!.Key)) from (Ld.row1 (P := Try.prog) (t := 9) (o := 1) (v := .string (l[i]!.Key)) hp147.get12 (by kernel_rfl))), trivial⟩, ?_⟩
      have hp151 := hp147.pull5
      have hp152 := hp151.pull5
      refine HOPS.effW _ rfl (by kernel_rfl) (opStep.call (some 125) [.pointer (some ⟨sb, 0, none⟩), .string (l[i]!.Key)] (by kernel_rfl) (topD_c sb dl a2 n2 c2 C _ (ShH.of hp152) (by have h_ := (hR100).cl; omega) (l[i]!.Key)) ?_)
      rintro _ w153 ⟨rfl, hf155⟩
      refine ⟨_, rfl, ?_⟩
      have hp154 := hp152.step hf155
      refine ⟨.inr ⟨(show Ld Try.prog w153 9 ⟨g39, 1, none⟩ (.string (l[i]!.Key)) from (Ld.row1 (P := Try.prog) (t := 9) (o := 1) (v := .string (l[i]!.Key)) hp154.get12 (by kernel_rfl))), trivial⟩, ?_⟩
      refine HOPS.take 8 { wraps := [127], subs := [126] } [.bool false, .string (l[i]!.Key), .string (l[i]!.Key)] [0, 5, 7, 9, 46, 47, 48, 128, 129, 131, 134] [.int .i64 ((dl : Nat) : Int), .pointer (some ⟨tb, 0, none⟩), .pointer (some ⟨sb, 0, none⟩), .pointer (some ⟨g39, 0, none⟩), .slice a n c, .int .i64 ((n : Nat) : Int), .int .i64 (i : Int), .bool false, .pointer (some ⟨tb, 0, none⟩), .string (l[i]!.Key), .string (l[i]!.Key)] (by kernel_rfl) ⟨(show Ld Try.prog w153 9 ⟨g39, 1, none⟩ (.string (l[i]!.Key)) from (Ld.row1 (P := Try.prog) (t := 9) (o := 1) (v := .string (l[i]!.Key)) hp154.get12 (by kernel_rfl))), trivial⟩ (fun w156 hS157 => QB.mk (.cons (show (.bool (!((decide (((topD C (l[i]!.Key)).Count) = ((topD C (l[i]!.Key)).Count))) && ((decide (((topD C (l[i]!.Key)).Client) = ((topD C (l[i]!.Key)).Client))) && true))) : Go.Value) = .bool false from congrArg Value.bool ((by simp))) (.cons (hS157.1) (.cons (hS157.1) .nil))) (by kernel_rfl)) (fun b158 => ?_)
      have hp161 := hp154.pull5
      have hp162 := hp161.pull5
      have hp163 := hp162.pull5
      have hp164 := hp163.pull5
      refine HOPS.effW _ rfl (by kernel_rfl) (opStep.call (some 132) [.pointer (some ⟨tb, 0, none⟩), .string (l[i]!.Key)] (by kernel_rfl) (floor_c2 tb m dl T80 F81 D82 (i+1) _ C DC (TbH.of hp164) hR100 (by omega) hdl (l[i]!.Key)) ?_)
      rintro _ w165 ⟨rfl, hf167⟩
      refine ⟨_, rfl, ?_⟩
      have hp166 := hp164.step hf167
      refine ⟨.inr ⟨(show Ld Try.prog w165 9 ⟨g39, 1, none⟩ (.string (l[i]!.Key)) from (Ld.row1 (P := Try.prog) (t := 9) (o := 1) (v := .string (l[i]!.Key)) hp166.get12 (by kernel_rfl))), trivial⟩, ?_⟩
      have hp170 := hp166.pull5
      have hp171 := hp170.pull5
      refine HOPS.effW _ rfl (by kernel_rfl) (opStep.call (some 135) [.pointer (some ⟨sb, 0, none⟩), .string (l[i]!.Key)] (by kernel_rfl) (floD_c sb dl a2 n2 c2 C _ (ShH.of hp171) (by have h_ := (hR100).cl; omega) (l[i]!.Key) hdl) ?_)
      rintro _ w172 ⟨rfl, hf174⟩
      refine ⟨_, rfl, ?_⟩
      have hp173 := hp171.step hf174
      refine ⟨.inr ⟨(show Ld Try.prog w172 9 ⟨g39, 1, none⟩ (.string (l[i]!.Key)) from (Ld.row1 (P := Try.prog) (t := 9) (o := 1) (v := .string (l[i]!.Key)) hp173.get12 (by kernel_rfl))), trivial⟩, ?_⟩
      refine HOPS.take 8 { wraps := [137], subs := [136] } [.bool false, .string (l[i]!.Key), .string (l[i]!.Key)] [0, 5, 7, 46, 47, 48, 138, 140, 141, 143] [.int .i64 ((dl : Nat) : Int), .pointer (some ⟨tb, 0, none⟩), .pointer (some ⟨sb, 0, none⟩), .slice a n c, .int .i64 ((n : Nat) : Int), .int .i64 (i : Int), .bool false, .string (l[i]!.Key), .pointer (some ⟨tb, 0, none⟩), .string (l[i]!.Key)] (by kernel_rfl) ⟨(show Ld Try.prog w172 9 ⟨g39, 1, none⟩ (.string (l[i]!.Key)) from (Ld.row1 (P := Try.prog) (t := 9) (o := 1) (v := .string (l[i]!.Key)) hp173.get12 (by kernel_rfl))), trivial⟩ (fun w175 hS176 => QB.mk (.cons (show (.bool (!((decide (((floD C (l[i]!.Key) dl).Count) = ((floD C (l[i]!.Key) dl).Count))) && ((decide (((floD C (l[i]!.Key) dl).Client) = ((floD C (l[i]!.Key) dl).Client))) && true))) : Go.Value) = .bool false from congrArg Value.bool ((by simp))) (.cons (hS176.1) (.cons (hS176.1) .nil))) (by kernel_rfl)) (fun b177 => ?_)
      have hp180 := hp173.pull5
      have hp181 := hp180.pull5
      have hp182 := hp181.pull5
      have hp183 := hp182.pull5
      refine HOPS.effW _ rfl (by kernel_rfl) (opStep.call (some 144) [.pointer (some ⟨tb, 0, none⟩), .string (l[i]!.Key)] (by kernel_rfl) (ents_c tb m dl T80 F81 D82 (i+1) _ (TbH.of hp183) (hR100).same.ok (by omega) (hR100).same.tbd (l[i]!.Key)) ?_)
      rintro _ w184 ⟨a187, n188, c189, ls190, F191, D192, rfl, he193, hp185⟩
      refine ⟨_, rfl, ?_⟩
      have hl194 := own_flat (f := eC) (sz := 5) (fun _ => rfl) (by decide) hp185.get0
      have hm195 := he193.len (hR100).same.ok
      have hp186 := hp183.madeQ hp185
      simp only [List.cons_append, List.nil_append] at hp186
      refine ⟨.inr ⟨(show Ld Try.prog w184 9 ⟨g39, 1, none⟩ (.string (l[i]!.Key)) from (Ld.row1 (P := Try.prog) (t := 9) (o := 1) (v := .string (l[i]!.Key)) hp186.get14 (by kernel_rfl))), trivial⟩, ?_⟩
      have hp198 := hp186.pull0
      have hp199 := hp198.pull7
      have hp200 := hp199.pull7
      refine HOPS.effW _ rfl (by kernel_rfl) (opStep.call (some 145) [.pointer (some ⟨sb, 0, none⟩), .string (l[i]!.Key), .slice a187 n188 c189] (by kernel_rfl) (small_c sb dl a2 n2 c2 C _ (ShH.of hp200) (by have h_ := (hR100).cl; omega) (l[i]!.Key) hdl ls190 a187 n188 c189 hl194.symm (by omega) (SlR.own hp200.get2) (small_ok (hR100).same he193).1 (small_ok (hR100).same he193).2) ?_)
      rintro _ w201 ⟨rfl, hf203⟩
      refine ⟨_, rfl, ?_⟩
      have hp202 := hp200.step hf203
      refine ⟨.inr ⟨(show Ld Try.prog w201 9 ⟨g39, 1, none⟩ (.string (l[i]!.Key)) from (Ld.row1 (P := Try.prog) (t := 9) (o := 1) (v := .string (l[i]!.Key)) hp202.get14 (by kernel_rfl))), trivial⟩, ?_⟩
      refine HOPS.take 2 { wraps := [147] } [] [0, 5, 7, 46, 47, 48, 147] [.int .i64 ((dl : Nat) : Int), .pointer (some ⟨tb, 0, none⟩), .pointer (some ⟨sb, 0, none⟩), .slice a n c, .int .i64 ((n : Nat) : Int), .int .i64 (i : Int), .bool false] (by kernel_rfl) ⟨(show Ld Try.prog w201 9 ⟨g39, 1, none⟩ (.string (l[i]!.Key)) from (Ld.row1 (P := Try.prog) (t := 9) (o := 1) (v := .string (l[i]!.Key)) hp202.get14 (by kernel_rfl))), trivial⟩ (fun w204 hS205 => QB.mk .nil (by kernel_rfl)) (fun b206 => ?_)
      refine HOPS.nil ?_
      refine thn_n ?_
      refine WP.condF rfl ?_
      refine WP.skip ?_
      refine blk_n ?_
      refine thn_n ?_
      refine WP.pure {} [] [0, 5, 7, 46, 47, 48] [.int .i64 ((dl : Nat) : Int), .pointer (some ⟨tb, 0, none⟩), .pointer (some ⟨sb, 0, none⟩), .slice a n c, .int .i64 ((n : Nat) : Int), .int .i64 ((i : Int) + 1)] (.cons (show Rng .i64 ((i : Int) + 1) from Rng.i64 (by omega)) .nil) (by kernel_rfl) (fun b207 => ?_)
      refine thn_n ?_
      exact ⟨l.length - (i + 1), (by omega), i + 1, T80, F81, D82, C, FC, DC, a2, n2, c2, rfl, ⟨by omega, hR100⟩, by kernel_rfl, ((((((((hp202.pull11).pull2).pull2).pull8).pull8).pull8).pull8).sub (.cons_cons _ (.cons_cons _ (.cons_cons _ (.cons_cons _ (.cons_cons _ (.cons_cons _ (.cons_cons _ (.cons _ (.cons _ (.cons _ (.cons _ (.cons _ (.cons _ (.cons _ (.cons _ (.slnil)))))))))))))))))⟩
    · replace h99 := Classical.not_not.1 h99
      refine WP.seq ?_
      refine WP.region _ rfl (by kernel_rfl) ?_
      refine OPS.batch 1 {} [.agg #[.int .i64 ((dl : Nat) : Int), .slice a2 n2 c2]] [0, 5, 7, 9, 11, 12, 13, 14, 46, 47, 48, 86] [.int .i64 ((dl : Nat) : Int), .pointer (some ⟨tb, 0, none⟩), .pointer (some ⟨sb, 0, none⟩), .pointer (some ⟨g39, 0, none⟩), .bool f69, .int .i64 e70, .bool f78, .int .i64 e79, .slice a n c, .int .i64 ((n : Nat) : Int), .int .i64 (i : Int), .agg #[.int .i64 ((dl : Nat) : Int), .slice a2 n2 c2]] (.cons (show Ld Try.prog w93 29 ⟨sb, 0, none⟩ (.agg #[.int .i64 ((dl : Nat) : Int), .slice a2 n2 c2]) from Ld.rowN (cs := [.int .i64 ((dl : Nat) : Int), .slice a2 n2 c2]) hp95.get7 (by kernel_rfl)) .nil) (by kernel_rfl) (fun b208 => ?_)
      refine OPS.cons (opStep.alloc hp95 [.int .i64 0, .slice none 0 0] (by kernel_rfl) (fun g211 w209 hp210 => ?_))
      refine OPS.cons (opStep.store0 hp210 rfl [.int .i64 ((dl : Nat) : Int), .slice a2 n2 c2] [.int .i64 ((dl : Nat) : Int), .slice a2 n2 c2] (by kernel_rfl) (fun w212 hp213 => ?_))
      refine OPS.nil ?_
      refine thn_n ?_
      refine WP.seq ?_
      refine WP.region _ rfl (by kernel_rfl) ?_
      refine OPS.batch 2 {} [.slice a2 n2 c2] [0, 5, 7, 9, 11, 12, 13, 14, 15, 46, 47, 48, 88] [.int .i64 ((dl : Nat) : Int), .pointer (some ⟨tb, 0, none⟩), .pointer (some ⟨sb, 0, none⟩), .pointer (some ⟨g39, 0, none⟩), .bool f69, .int .i64 e70, .bool f78, .int .i64 e79, .pointer (some ⟨g211, 0, none⟩), .slice a n c, .int .i64 ((n : Nat) : Int), .int .i64 (i : Int), .slice a2 n2 c2] (.cons (Ld.row1 (P := Try.prog) (t := 27) (o := 1) (v := .slice a2 n2 c2) hp213.get8 (by kernel_rfl)) .nil) (by kernel_rfl) (fun b214 => ?_)
      have hp218 := (show Hp w Non [Res.own 66 6 (.slice none 0 0) 0 (List.flatMap cC ([] : List Ce)), Res.row g211 [.int .i64 ((dl : Nat) : Int), .slice a2 n2 c2] 29, Res.row tb [.int .i64 ((dl : Nat) : Int), .map (some m)] 54, Res.mp m kS vO T80, Res.all (T80.map shRes), Res.dat F81 D82, Res.dat F54 [(h53, valAt w l[i]!.Entry.Data)], Res.row g45 [.int .i64 (l[i]!.Kind), .string (l[i]!.Key), .int .i64 (l[i]!.Entry.Tag.Count), .int .i64 (l[i]!.Entry.Tag.Client), .bool (l[i]!.Entry.Fin), .bool (l[i]!.Entry.Has), .slice h53.a h53.n h53.c] 36, Res.row g39 [.int .i64 (l[i]!.Kind), .string (l[i]!.Key), .int .i64 (l[i]!.Entry.Tag.Count), .int .i64 (l[i]!.Entry.Tag.Client), .bool (l[i]!.Entry.Fin), .bool (l[i]!.Entry.Has), .slice (l[i]!.Entry.Data.a) (l[i]!.Entry.Data.n) (l[i]!.Entry.Data.c)] 36, Res.row sb [.int .i64 ((dl : Nat) : Int), .slice a2 n2 c2] 29, Res.own 66 6 (.slice a2 n2 c2) n2 (List.flatMap cC C), Res.dat FC DC] w212 from hp213.nilOwn 66 6)
      refine OPS.cons (opStep.appendS (A := []) hp218 64 (by kernel_rfl) rfl rfl (SlR.own (hp218.get10)) (flat_n (fun _ => rfl) (own_flat (sz := 6) (fun _ => rfl) (by decide) hp218.get10)) (one_flat (fun _ => rfl)) (by decide) (by omega) (by omega) (fun a219 c220 w221 hp222 => ?_))
      rw [show List.flatMap cC ([] : List Ce) ++ List.flatMap cC C = List.flatMap cC (([] : List Ce) ++ C) from List.flatMap_append.symm] at hp222
      simp only [List.cons_append, List.nil_append] at hp222
      refine OPS.batch 1 {} [] [0, 5, 7, 9, 11, 12, 13, 14, 15, 46, 47, 48, 89, 90] [.int .i64 ((dl : Nat) : Int), .pointer (some ⟨tb, 0, none⟩), .pointer (some ⟨sb, 0, none⟩), .pointer (some ⟨g39, 0, none⟩), .bool f69, .int .i64 e70, .bool f78, .int .i64 e79, .pointer (some ⟨g211, 0, none⟩), .slice a n c, .int .i64 ((n : Nat) : Int), .int .i64 (i : Int), .slice a219 (0 + n2) c220, .pointer (some ⟨g211, 1, none⟩)] .nil (by kernel_rfl) (fun b223 => ?_)
      refine OPS.cons (opStep.store1 hp222 rfl [.slice a219 (0 + n2) c220] [.int .i64 ((dl : Nat) : Int), .slice a219 (0 + n2) c220] (by kernel_rfl) (fun w224 hp225 => ?_))
      refine OPS.nil ?_
      refine thn_n ?_
      refine WP.seq ?_
      refine WP.region _ rfl (by kernel_rfl) ?_
      refine OPS.batch 1 {} [GUpdate.val (l[i]!)] [0, 5, 7, 9, 11, 12, 13, 14, 15, 46, 47, 48, 91] [.int .i64 ((dl : Nat) : Int), .pointer (some ⟨tb, 0, none⟩), .pointer (some ⟨sb, 0, none⟩), .pointer (some ⟨g39, 0, none⟩), .bool f69, .int .i64 e70, .bool f78, .int .i64 e79, .pointer (some ⟨g211, 0, none⟩), .slice a n c, .int .i64 ((n : Nat) : Int), .int .i64 (i : Int), GUpdate.val (l[i]!)] (.cons (show Ld Try.prog w224 36 ⟨g39, 0, none⟩ (GUpdate.val (l[i]!)) from Ld.rowN (cs := [.int .i64 (l[i]!.Kind), .string (l[i]!.Key), .int .i64 (l[i]!.Entry.Tag.Count), .int .i64 (l[i]!.Entry.Tag.Client), .bool (l[i]!.Entry.Fin), .bool (l[i]!.Entry.Has), .slice (l[i]!.Entry.Data.a) (l[i]!.Entry.Data.n) (l[i]!.Entry.Data.c)]) hp225.get8 (by kernel_rfl)) .nil) (by kernel_rfl) (fun b226 => ?_)
      have hp229 := hp225.pull11
      have hp230 := hp229.pull11
      have hp231 := hp230.pull11
      refine OPS.cons (opStep.call (some 92) [.pointer (some ⟨sb, 0, none⟩), GUpdate.val (l[i]!)] (by kernel_rfl) (applyD_c w _ _ sb dl a2 n2 c2 C FC DC hdl (by have h_ := (hR).cl; omega) l[i]! (valAt w l[i]!.Entry.Data) hin.1 (by have h_ := hin.1.1; have h2_ := hin.2; omega) hp231) ?_)
      rintro _ w232 ⟨a234, n235, c236, C237, F238, D239, rfl, hq240, hp233⟩
      obtain ⟨hR241, he242, he243, hb244, hd245⟩ := apply_rel hR hw71 ha83 h99 hq240 hin.1.1.symm
      refine ⟨_, rfl, ?_⟩
      refine OPS.nil ?_
      refine thn_n ?_
      refine WP.seq ?_
      refine WP.region _ rfl (by kernel_rfl) ?_
      refine OPS.batch 12 { wraps := [98], subs := [94, 97] } [.bool false, .bool false, .slice a219 (0 + n2) c220, .slice a234 n235 c236] [0, 5, 7, 9, 11, 13, 46, 47, 48, 99, 100, 102, 104] [.int .i64 ((dl : Nat) : Int), .pointer (some ⟨tb, 0, none⟩), .pointer (some ⟨sb, 0, none⟩), .pointer (some ⟨g39, 0, none⟩), .bool f69, .bool f78, .slice a n c, .int .i64 ((n : Nat) : Int), .int .i64 (i : Int), .bool false, .bool f78, .slice a219 (0 + n2) c220, .slice a234 n235 c236] (.cons (show (.bool (decide (¬ (e70 = 0))) : Go.Value) = .bool false from congrArg Value.bool ((by simp [he242]))) (.cons (show (.bool (decide (¬ (e79 = 0))) : Go.Value) = .bool false from congrArg Value.bool ((by simp [he243]))) (.cons (Ld.row1 (P := Try.prog) (t := 27) (o := 1) (v := .slice a219 (0 + n2) c220) hp233.get4 (by kernel_rfl)) (.cons (Ld.row1 (P := Try.prog) (t := 27) (o := 1) (v := .slice a234 n235 c236) hp233.get0 (by kernel_rfl)) .nil)))) (by kernel_rfl) (fun b246 => ?_)
      refine OPS.want (by kernel_rfl) ?_
      have hal := own_flat (f := cC) (sz := 6) (fun _ => rfl) (by decide) hp233.get3
      have hcl := own_flat (f := cC) (sz := 6) (fun _ => rfl) (by decide) hp233.get1
      have hcl2 := (hR).cl
      refine OPS.cons (opStep.call (some 105) [.slice a219 (0 + n2) c220, .slice a234 n235 c236] (by kernel_rfl) (sc_v (([] : List Ce) ++ C) C237 f78 _ _ _ _ _ _ _ hal.symm hcl.symm (by first | omega | (simp; omega)) (SlR.own hp233.get3) (SlR.own hp233.get1) (fun y hy => ⟨dat_at hp233.get2 (by have h_ := (hR).dk y (by simpa using hy); exact dk_old hq240 h_), ((hR).doc.good y (by simpa using hy)).size⟩) ((hR241).cb hp233.get2) (by simpa using hd245)) ?_)
      rintro _ w249 ⟨rfl, hf251⟩
      refine ⟨_, rfl, ?_⟩
      have hp250 := hp233.step hf251
      refine OPS.batch 8 { wraps := [108, 113], subs := [107, 112] } [.bool false, .bool false] [0, 5, 7, 9, 46, 47, 48, 113] [.int .i64 ((dl : Nat) : Int), .pointer (some ⟨tb, 0, none⟩), .pointer (some ⟨sb, 0, none⟩), .pointer (some ⟨g39, 0, none⟩), .slice a n c, .int .i64 ((n : Nat) : Int), .int .i64 (i : Int), .bool false] (.cons (show (.bool (!(f78 == (!(!f78)))) : Go.Value) = .bool false from congrArg Value.bool ((by cases f78 <;> simp))) (.cons (show (.bool (!(f69 == f78)) : Go.Value) = .bool false from congrArg Value.bool ((by simp [hb244]))) .nil)) (by kernel_rfl) (fun b252 => ?_)
      refine OPS.nil ?_
      refine thn_n ?_
      refine WP.condF rfl ?_
      refine WP.skip ?_
      refine thn_n ?_
      refine WP.seq ?_
      have hp253 := hp250.drew
      refine WP.held (fun w254 => Ld Try.prog w254 9 ⟨g39, 1, none⟩ (.string (l[i]!.Key)) ∧ True) [] [(0, true), (1, false), (2, false), (3, true), (4, true), (5, true), (6, true), (7, true), (9, true), (10, true), (8, false), (11, false), (12, true), (13, true), (14, true), (15, true), (16, true), (17, true), (19, true), (20, true), (18, false), (21, false), (22, true), (23, true), (24, true), (25, true), (26, true), (27, true), (28, true), (29, true), (30, false), (31, false), (32, true), (33, true)] (np_thn (np_blk (np_thn (np_thn (np_blk (np_thn np_body)))))) (by kernel_rfl) ?_
      refine HOPS.take 1 {} [] [0, 5, 7, 9, 46, 47, 48, 114] [.int .i64 ((dl : Nat) : Int), .pointer (some ⟨tb, 0, none⟩), .pointer (some ⟨sb, 0, none⟩), .pointer (some ⟨g39, 0, none⟩), .slice a n c, .int .i64 ((n : Nat) : Int), .int .i64 (i : Int), .pointer (some ⟨tb, 0, none⟩)] (by kernel_rfl) ⟨(show Ld Try.prog w249.drew 9 ⟨g39, 1, none⟩ (.string (l[i]!.Key)) from (Ld.row1 (P := Try.prog) (t := 9) (o := 1) (v := .string (l[i]!.Key)) hp253.get11 (by kernel_rfl))), trivial⟩ (fun w255 hS256 => QB.mk .nil (by kernel_rfl)) (fun b257 => ?_)
      have hp260 := hp253.pull8
      have hp261 := hp260.pull8
      have hp262 := hp261.pull8
      have hp263 := hp262.pull8
      refine HOPS.eff _ rfl (opStep.call (some 115) [.pointer (some ⟨tb, 0, none⟩)] (by kernel_rfl) (all_c tb m dl T80 F81 D82 (i+1) _ (TbH.of hp263) (hR241).same.ok (by omega) (hR241).same.tbd) ?_)
      rintro _ w264 ⟨a267, n268, c269, hs270, F271, D272, F273, rfl, hh274, hp265⟩
      refine ⟨_, rfl, ?_⟩
      have hl275 := own_flat (f := hC) (sz := 2) (fun _ => rfl) (by decide) hp265.get0
      have hk276 := hld_len (hR241).same.ok hh274
      have hp266 := hp263.madeQ hp265
      simp only [List.cons_append, List.nil_append] at hp266
      refine ⟨.inr ⟨(show Ld Try.prog w264 9 ⟨g39, 1, none⟩ (.string (l[i]!.Key)) from (Ld.row1 (P := Try.prog) (t := 9) (o := 1) (v := .string (l[i]!.Key)) hp266.get14 (by kernel_rfl))), trivial⟩, ?_⟩
      have hp279 := hp266.pull9
      have hp280 := hp279.pull3
      have hp281 := hp280.pull3
      have hp282 := hp281.pull3
      have hp283 := hp282.pull9
      have hp284 := hp283.pull9
      refine HOPS.eff _ rfl (opStep.call (some 116) [.pointer (some ⟨sb, 0, none⟩), .slice a267 n268 c269] (by kernel_rfl) (holds_c sb dl a234 n235 c236 C237 _ (ShH.of hp284) (by have h_ := (hR241).cl; omega) hs270 (by omega) a267 n268 c269 hl275.symm (SlR.own hp284.get2) (fun y hy => els_at hp284.get3 hy) ((hR241).cb hp284.get5) (fun y hy x hx => dat_at hp284.get4 ((hh274.2 y hy).2.2 x hx)) (hol_ok (hR241).same hh274)) ?_)
      rintro _ w285 ⟨rfl, hf287⟩
      refine ⟨_, rfl, ?_⟩
      have hp286 := hp284.step hf287
      refine ⟨.inr ⟨(show Ld Try.prog w285 9 ⟨g39, 1, none⟩ (.string (l[i]!.Key)) from (Ld.row1 (P := Try.prog) (t := 9) (o := 1) (v := .string (l[i]!.Key)) hp286.get14 (by kernel_rfl))), trivial⟩, ?_⟩
      refine HOPS.take 7 {} [.string (l[i]!.Key), .string (l[i]!.Key)] [0, 5, 7, 9, 46, 47, 48, 118, 119, 121, 124] [.int .i64 ((dl : Nat) : Int), .pointer (some ⟨tb, 0, none⟩), .pointer (some ⟨sb, 0, none⟩), .pointer (some ⟨g39, 0, none⟩), .slice a n c, .int .i64 ((n : Nat) : Int), .int .i64 (i : Int), .bool false, .pointer (some ⟨tb, 0, none⟩), .string (l[i]!.Key), .string (l[i]!.Key)] (by kernel_rfl) ⟨(show Ld Try.prog w285 9 ⟨g39, 1, none⟩ (.string (l[i]!.Key)) from (Ld.row1 (P := Try.prog) (t := 9) (o := 1) (v := .string (l[i]!.Key)) hp286.get14 (by kernel_rfl))), trivial⟩ (fun w288 hS289 => QB.mk (.cons (hS289.1) (.cons (hS289.1) .nil)) (by kernel_rfl)) (fun b290 => ?_)
      have hp293 := hp286.pull9
      have hp294 := hp293.pull9
      have hp295 := hp294.pull9
      have hp296 := hp295.pull9
      refine HOPS.effW _ rfl (by kernel_rfl) (opStep.call (some 122) [.pointer (some ⟨tb, 0, none⟩), .string (l[i]!.Key)] (by kernel_rfl) (top_c2 tb m dl T80 F81 D82 (i+1) _ C237 D239 (TbH.of hp296) hR241 (by omega) hdl (l[i]!.Key)) ?_)
      rintro _ w297 ⟨rfl, hf299⟩
      refine ⟨_, rfl, ?_⟩
      have hp298 := hp296.step hf299
      refine ⟨.inr ⟨(show Ld Try.prog w297 9 ⟨g39, 1, none⟩ (.string (l[i]!.Key)) from (Ld.row1 (P := Try.prog) (t := 9) (o := 1) (v := .string (l[i]!.Key)) hp298.get14 (by kernel_rfl))), trivial⟩, ?_⟩
      have hp302 := hp298.pull5
      have hp303 := hp302.pull5
      refine HOPS.effW _ rfl (by kernel_rfl) (opStep.call (some 125) [.pointer (some ⟨sb, 0, none⟩), .string (l[i]!.Key)] (by kernel_rfl) (topD_c sb dl a234 n235 c236 C237 _ (ShH.of hp303) (by have h_ := (hR241).cl; omega) (l[i]!.Key)) ?_)
      rintro _ w304 ⟨rfl, hf306⟩
      refine ⟨_, rfl, ?_⟩
      have hp305 := hp303.step hf306
      refine ⟨.inr ⟨(show Ld Try.prog w304 9 ⟨g39, 1, none⟩ (.string (l[i]!.Key)) from (Ld.row1 (P := Try.prog) (t := 9) (o := 1) (v := .string (l[i]!.Key)) hp305.get14 (by kernel_rfl))), trivial⟩, ?_⟩
      refine HOPS.take 8 { wraps := [127], subs := [126] } [.bool false, .string (l[i]!.Key), .string (l[i]!.Key)] [0, 5, 7, 9, 46, 47, 48, 128, 129, 131, 134] [.int .i64 ((dl : Nat) : Int), .pointer (some ⟨tb, 0, none⟩), .pointer (some ⟨sb, 0, none⟩), .pointer (some ⟨g39, 0, none⟩), .slice a n c, .int .i64 ((n : Nat) : Int), .int .i64 (i : Int), .bool false, .pointer (some ⟨tb, 0, none⟩), .string (l[i]!.Key), .string (l[i]!.Key)] (by kernel_rfl) ⟨(show Ld Try.prog w304 9 ⟨g39, 1, none⟩ (.string (l[i]!.Key)) from (Ld.row1 (P := Try.prog) (t := 9) (o := 1) (v := .string (l[i]!.Key)) hp305.get14 (by kernel_rfl))), trivial⟩ (fun w307 hS308 => QB.mk (.cons (show (.bool (!((decide (((topD C237 (l[i]!.Key)).Count) = ((topD C237 (l[i]!.Key)).Count))) && ((decide (((topD C237 (l[i]!.Key)).Client) = ((topD C237 (l[i]!.Key)).Client))) && true))) : Go.Value) = .bool false from congrArg Value.bool ((by simp))) (.cons (hS308.1) (.cons (hS308.1) .nil))) (by kernel_rfl)) (fun b309 => ?_)
      have hp312 := hp305.pull5
      have hp313 := hp312.pull5
      have hp314 := hp313.pull5
      have hp315 := hp314.pull5
      refine HOPS.effW _ rfl (by kernel_rfl) (opStep.call (some 132) [.pointer (some ⟨tb, 0, none⟩), .string (l[i]!.Key)] (by kernel_rfl) (floor_c2 tb m dl T80 F81 D82 (i+1) _ C237 D239 (TbH.of hp315) hR241 (by omega) hdl (l[i]!.Key)) ?_)
      rintro _ w316 ⟨rfl, hf318⟩
      refine ⟨_, rfl, ?_⟩
      have hp317 := hp315.step hf318
      refine ⟨.inr ⟨(show Ld Try.prog w316 9 ⟨g39, 1, none⟩ (.string (l[i]!.Key)) from (Ld.row1 (P := Try.prog) (t := 9) (o := 1) (v := .string (l[i]!.Key)) hp317.get14 (by kernel_rfl))), trivial⟩, ?_⟩
      have hp321 := hp317.pull5
      have hp322 := hp321.pull5
      refine HOPS.effW _ rfl (by kernel_rfl) (opStep.call (some 135) [.pointer (some ⟨sb, 0, none⟩), .string (l[i]!.Key)] (by kernel_rfl) (floD_c sb dl a234 n235 c236 C237 _ (ShH.of hp322) (by have h_ := (hR241).cl; omega) (l[i]!.Key) hdl) ?_)
      rintro _ w323 ⟨rfl, hf325⟩
      refine ⟨_, rfl, ?_⟩
      have hp324 := hp322.step hf325
      refine ⟨.inr ⟨(show Ld Try.prog w323 9 ⟨g39, 1, none⟩ (.string (l[i]!.Key)) from (Ld.row1 (P := Try.prog) (t := 9) (o := 1) (v := .string (l[i]!.Key)) hp324.get14 (by kernel_rfl))), trivial⟩, ?_⟩
      refine HOPS.take 8 { wraps := [137], subs := [136] } [.bool false, .string (l[i]!.Key), .string (l[i]!.Key)] [0, 5, 7, 46, 47, 48, 138, 140, 141, 143] [.int .i64 ((dl : Nat) : Int), .pointer (some ⟨tb, 0, none⟩), .pointer (some ⟨sb, 0, none⟩), .slice a n c, .int .i64 ((n : Nat) : Int), .int .i64 (i : Int), .bool false, .string (l[i]!.Key), .pointer (some ⟨tb, 0, none⟩), .string (l[i]!.Key)] (by kernel_rfl) ⟨(show Ld Try.prog w323 9 ⟨g39, 1, none⟩ (.string (l[i]!.Key)) from (Ld.row1 (P := Try.prog) (t := 9) (o := 1) (v := .string (l[i]!.Key)) hp324.get14 (by kernel_rfl))), trivial⟩ (fun w326 hS327 => QB.mk (.cons (show (.bool (!((decide (((floD C237 (l[i]!.Key) dl).Count) = ((floD C237 (l[i]!.Key) dl).Count))) && ((decide (((floD C237 (l[i]!.Key) dl).Client) = ((floD C237 (l[i]!.Key) dl).Client))) && true))) : Go.Value) = .bool false from congrArg Value.bool ((by simp))) (.cons (hS327.1) (.cons (hS327.1) .nil))) (by kernel_rfl)) (fun b328 => ?_)
      have hp331 := hp324.pull5
      have hp332 := hp331.pull5
      have hp333 := hp332.pull5
      have hp334 := hp333.pull5
      refine HOPS.effW _ rfl (by kernel_rfl) (opStep.call (some 144) [.pointer (some ⟨tb, 0, none⟩), .string (l[i]!.Key)] (by kernel_rfl) (ents_c tb m dl T80 F81 D82 (i+1) _ (TbH.of hp334) (hR241).same.ok (by omega) (hR241).same.tbd (l[i]!.Key)) ?_)
      rintro _ w335 ⟨a338, n339, c340, ls341, F342, D343, rfl, he344, hp336⟩
      refine ⟨_, rfl, ?_⟩
      have hl345 := own_flat (f := eC) (sz := 5) (fun _ => rfl) (by decide) hp336.get0
      have hm346 := he344.len (hR241).same.ok
      have hp337 := hp334.madeQ hp336
      simp only [List.cons_append, List.nil_append] at hp337
      refine ⟨.inr ⟨(show Ld Try.prog w335 9 ⟨g39, 1, none⟩ (.string (l[i]!.Key)) from (Ld.row1 (P := Try.prog) (t := 9) (o := 1) (v := .string (l[i]!.Key)) hp337.get16 (by kernel_rfl))), trivial⟩, ?_⟩
      have hp349 := hp337.pull0
      have hp350 := hp349.pull7
      have hp351 := hp350.pull7
      refine HOPS.effW _ rfl (by kernel_rfl) (opStep.call (some 145) [.pointer (some ⟨sb, 0, none⟩), .string (l[i]!.Key), .slice a338 n339 c340] (by kernel_rfl) (small_c sb dl a234 n235 c236 C237 _ (ShH.of hp351) (by have h_ := (hR241).cl; omega) (l[i]!.Key) hdl ls341 a338 n339 c340 hl345.symm (by omega) (SlR.own hp351.get2) (small_ok (hR241).same he344).1 (small_ok (hR241).same he344).2) ?_)
      rintro _ w352 ⟨rfl, hf354⟩
      refine ⟨_, rfl, ?_⟩
      have hp353 := hp351.step hf354
      refine ⟨.inr ⟨(show Ld Try.prog w352 9 ⟨g39, 1, none⟩ (.string (l[i]!.Key)) from (Ld.row1 (P := Try.prog) (t := 9) (o := 1) (v := .string (l[i]!.Key)) hp353.get16 (by kernel_rfl))), trivial⟩, ?_⟩
      refine HOPS.take 2 { wraps := [147] } [] [0, 5, 7, 46, 47, 48, 147] [.int .i64 ((dl : Nat) : Int), .pointer (some ⟨tb, 0, none⟩), .pointer (some ⟨sb, 0, none⟩), .slice a n c, .int .i64 ((n : Nat) : Int), .int .i64 (i : Int), .bool false] (by kernel_rfl) ⟨(show Ld Try.prog w352 9 ⟨g39, 1, none⟩ (.string (l[i]!.Key)) from (Ld.row1 (P := Try.prog) (t := 9) (o := 1) (v := .string (l[i]!.Key)) hp353.get16 (by kernel_rfl))), trivial⟩ (fun w355 hS356 => QB.mk .nil (by kernel_rfl)) (fun b357 => ?_)
      refine HOPS.nil ?_
      refine thn_n ?_
      refine WP.condF rfl ?_
      refine WP.skip ?_
      refine blk_n ?_
      refine thn_n ?_
      refine WP.pure {} [] [0, 5, 7, 46, 47, 48] [.int .i64 ((dl : Nat) : Int), .pointer (some ⟨tb, 0, none⟩), .pointer (some ⟨sb, 0, none⟩), .slice a n c, .int .i64 ((n : Nat) : Int), .int .i64 ((i : Int) + 1)] (.cons (show Rng .i64 ((i : Int) + 1) from Rng.i64 (by omega)) .nil) (by kernel_rfl) (fun b358 => ?_)
      refine thn_n ?_
      exact ⟨l.length - (i + 1), (by omega), i + 1, T80, F81, D82, C237, F238, D239, a234, n235, c236, rfl, ⟨by omega, hR241⟩, by kernel_rfl, ((((((((hp353.pull11).pull2).pull2).pull8).pull8).pull8).pull8).sub (.cons_cons _ (.cons_cons _ (.cons_cons _ (.cons_cons _ (.cons_cons _ (.cons_cons _ (.cons_cons _ (.cons _ (.cons _ (.cons _ (.cons _ (.cons _ (.cons _ (.cons _ (.cons _ (.cons _ (.cons _ (.slnil)))))))))))))))))))⟩
  · refine WP.exit ?_
    refine thn_x ?_
    refine thn_x ?_
    refine blk_hit ?_
    refine thn_n ?_
    refine WP.seq ?_
    refine WP.region _ rfl (by kernel_rfl) ?_
    refine OPS.batch 1 {} [] [5, 7, 150] [.pointer (some ⟨tb, 0, none⟩), .pointer (some ⟨sb, 0, none⟩), .int .i64 ((dl : Nat) : Int)] .nil (by kernel_rfl) (fun b359 => ?_)
    refine OPS.cons (opStep.call (some 151) [.int .i64 ((dl : Nat) : Int)] (by kernel_rfl) (new_ok dl hdl _) ?_)
    rintro _ w362 ⟨tb2, m2, rfl, hp363⟩
    refine ⟨_, rfl, ?_⟩
    have hp364 := hp26.madeQ hp363
    simp only [List.cons_append, List.nil_append] at hp364
    refine OPS.batch 5 {} [] [5, 6, 7, 16] [.pointer (some ⟨tb, 0, none⟩), .int .i64 0, .pointer (some ⟨sb, 0, none⟩), .pointer (some ⟨tb2, 0, none⟩)] .nil (by kernel_rfl) (fun b365 => ?_)
    refine OPS.nil ?_
    refine thn_n ?_
    refine WP.seq ?_
    refine WP.seq ?_
    refine WP.pure {} [] [5, 7, 16, 155] [.pointer (some ⟨tb, 0, none⟩), .pointer (some ⟨sb, 0, none⟩), .pointer (some ⟨tb2, 0, none⟩), .bool false] .nil (by kernel_rfl) (fun b366 => ?_)
    refine thn_n ?_
    refine WP.condF rfl ?_
    refine WP.skip ?_
    refine thn_n ?_
    refine WP.seq ?_
    refine WP.seq ?_
    refine WP.region _ rfl (by kernel_rfl) ?_
    refine OPS.batch 1 {} [] [7, 16, 156] [.pointer (some ⟨sb, 0, none⟩), .pointer (some ⟨tb2, 0, none⟩), .pointer (some ⟨tb, 0, none⟩)] .nil (by kernel_rfl) (fun b367 => ?_)
    have hp370 := hp364.pull7
    have hp371 := hp370.pull7
    have hp372 := hp371.pull7
    have hp373 := hp372.pull7
    refine OPS.cons (opStep.call (some 157) [.pointer (some ⟨tb, 0, none⟩)] (by kernel_rfl) (upds_c tb m dl T F D i _ (TbH.of hp373) (hR).same.ok (by omega) (hR).same.tbd) ?_)
    rintro _ w374 ⟨a377, n378, c379, us, hs_, F380, D381, F382, rfl, ⟨hhu, heu⟩, hp375⟩
    refine ⟨_, rfl, ?_⟩
    have hul := own_flat (f := uC) (sz := 7) (fun _ => rfl) (by decide) hp375.get0
    have hups : UpsOk us C := by rw [heu]; exact ups_ok (hR).same hhu
    have hdk : ∀ x ∈ us, Dk D381 x.u.Entry.Data x.d := by rw [heu]; exact ups_dk hhu
    have husz := ups_sz hups (hR).doc
    have hun : us.length ≤ i := by rw [heu, ups_size (hR).same hhu]; exact (hR).cl
    have hp376 := hp373.madeQ hp375
    simp only [List.cons_append, List.nil_append] at hp376
    refine OPS.batch 2 {} [] [7, 16, 157, 158, 159] [.pointer (some ⟨sb, 0, none⟩), .pointer (some ⟨tb2, 0, none⟩), .slice a377 n378 c379, .int .i64 ((n378 : Nat) : Int), .int .i64 0] .nil (by kernel_rfl) (fun b383 => ?_)
    refine OPS.nil ?_
    refine thn_n ?_
    refine WP.block ?_
    have hp384 := hp376.pull7
    have hp385 := hp384.pull8
    have hp386 := hp385.pull10
    have hp387 := hp386.pull10
    refine WP.loop (fun mz_ e388 w389 => ∃ (j : Nat) (T2 : Tb) (F2 : Nat → Prop) (D2 : List (SlH × ByteArray)), mz_ = us.length - j ∧ (j ≤ us.length ∧ PartI T2 D2 j us j) ∧ List.map e388 [7, 16, 157, 158, 159] = [.pointer (some ⟨sb, 0, none⟩), .pointer (some ⟨tb2, 0, none⟩), .slice a377 n378 c379, .int .i64 ((n378 : Nat) : Int), .int .i64 (j : Int)] ∧ Hp w Non [Res.row tb2 [.int .i64 ((dl : Nat) : Int), .map (some m2)] 54, Res.mp m2 kS vO T2, Res.all (T2.map shRes), Res.dat F2 D2, Res.own 36 7 (.slice a377 n378 c379) n378 (List.flatMap uC us), Res.dat F380 D381, Res.row sb [.int .i64 ((dl : Nat) : Int), .slice a2 n2 c2] 29, Res.own 66 6 (.slice a2 n2 c2) n2 (List.flatMap cC C), Res.dat FC DC] w389) (us.length - (0)) ⟨0, ([] : Tb), (fun _ => False), [], rfl, ⟨Nat.zero_le _, part_nil us⟩, by kernel_rfl, (hp387.sub (.cons_cons _ (.cons_cons _ (.cons_cons _ (.cons_cons _ (.cons_cons _ (.cons _ (.cons_cons _ (.cons _ (.cons _ (.cons _ (.cons _ (.cons_cons _ (.cons_cons _ (.cons_cons _ (.slnil))))))))))))))))⟩ ?_
    rintro _ e388 w389 ⟨j, T2, F2, D2, rfl, hI391, hE392, hp390⟩
    obtain ⟨b393, rfl⟩ := toMk hE392
    clear hE392
    obtain ⟨pj, hP⟩ := hI391
    refine WP.seq ?_
    refine WP.pure {} [] [7, 16, 157, 158, 159, 160] [.pointer (some ⟨sb, 0, none⟩), .pointer (some ⟨tb2, 0, none⟩), .slice a377 n378 c379, .int .i64 ((n378 : Nat) : Int), .int .i64 (j : Int), .bool (decide ((j : Int) < ((n378 : Nat) : Int)))] .nil (by kernel_rfl) (fun b394 => ?_)
    refine thn_n ?_
    refine WP.seq ?_
    refine WP.test (p := (j : Int) < ((n378 : Nat) : Int)) rfl Bp.dec (fun h395 => ?_) (fun h395 => ?_)
    · refine WP.skip ?_
      refine thn_n ?_
      refine WP.seq ?_
      refine WP.block ?_
      refine WP.seq ?_
      refine WP.region _ rfl (by kernel_rfl) ?_
      have := own_flat (sz := 7) (fun _ => rfl) (by decide) hp390.get4
      have hy399 : (us)[j]? = some us[j]! := get_bang (by first | (omega) | (simp only [List.length_append, List.length_cons, List.length_nil]; omega) | (simp only [List.length_take, List.length_append, List.length_cons, List.length_nil]; omega))
      refine OPS.batch 2 {} [GUpdate.val (us[j]!.u)] [7, 16, 157, 158, 159, 162] [.pointer (some ⟨sb, 0, none⟩), .pointer (some ⟨tb2, 0, none⟩), .slice a377 n378 c379, .int .i64 ((n378 : Nat) : Int), .int .i64 (j : Int), GUpdate.val (us[j]!.u)] (.cons (show InB ((j : Int)) (n378) from ⟨by omega, by omega⟩) (.cons ((SlR.own (hp390.get4)).some (by omega)) (.cons (Ld.add0 (Ld.elN (P := Try.prog) (t := 36) (SlR.own (hp390.get4)).rd 7 (fun _ => rfl) hy399 (o := 0) (cs := [.int .i64 (us[j]!.u.Kind), .string (us[j]!.u.Key), .int .i64 (us[j]!.u.Entry.Tag.Count), .int .i64 (us[j]!.u.Entry.Tag.Client), .bool (us[j]!.u.Entry.Fin), .bool (us[j]!.u.Entry.Has), .slice (us[j]!.u.Entry.Data.a) (us[j]!.u.Entry.Data.n) (us[j]!.u.Entry.Data.c)]) (by kernel_rfl))) .nil))) (by kernel_rfl) (fun b400 => ?_)
      refine OPS.cons (opStep.alloc hp390 [.int .i64 0, .string ByteArray.empty, .int .i64 0, .int .i64 0, .bool false, .bool false, .slice none 0 0] (by kernel_rfl) (fun g403 w401 hp402 => ?_))
      refine OPS.cons (opStep.store0 hp402 rfl [.int .i64 (us[j]!.u.Kind), .string (us[j]!.u.Key), .int .i64 (us[j]!.u.Entry.Tag.Count), .int .i64 (us[j]!.u.Entry.Tag.Client), .bool (us[j]!.u.Entry.Fin), .bool (us[j]!.u.Entry.Has), .slice (us[j]!.u.Entry.Data.a) (us[j]!.u.Entry.Data.n) (us[j]!.u.Entry.Data.c)] [.int .i64 (us[j]!.u.Kind), .string (us[j]!.u.Key), .int .i64 (us[j]!.u.Entry.Tag.Count), .int .i64 (us[j]!.u.Entry.Tag.Client), .bool (us[j]!.u.Entry.Fin), .bool (us[j]!.u.Entry.Has), .slice (us[j]!.u.Entry.Data.a) (us[j]!.u.Entry.Data.n) (us[j]!.u.Entry.Data.c)] (by kernel_rfl) (fun w404 hp405 => ?_))
      refine OPS.nil ?_
      refine thn_n ?_
      refine WP.seq ?_
      refine WP.region _ rfl (by kernel_rfl) ?_
      refine OPS.batch 2 {} [GUpdate.val (us[j]!.u)] [7, 16, 18, 157, 158, 159, 164, 165] [.pointer (some ⟨sb, 0, none⟩), .pointer (some ⟨tb2, 0, none⟩), .pointer (some ⟨g403, 0, none⟩), .slice a377 n378 c379, .int .i64 ((n378 : Nat) : Int), .int .i64 (j : Int), .pointer (some ⟨tb2, 0, none⟩), GUpdate.val (us[j]!.u)] (.cons (show Ld Try.prog w404 36 ⟨g403, 0, none⟩ (GUpdate.val (us[j]!.u)) from Ld.rowN (cs := [.int .i64 (us[j]!.u.Kind), .string (us[j]!.u.Key), .int .i64 (us[j]!.u.Entry.Tag.Count), .int .i64 (us[j]!.u.Entry.Tag.Client), .bool (us[j]!.u.Entry.Fin), .bool (us[j]!.u.Entry.Has), .slice (us[j]!.u.Entry.Data.a) (us[j]!.u.Entry.Data.n) (us[j]!.u.Entry.Data.c)]) hp405.get0 (by kernel_rfl)) .nil) (by kernel_rfl) (fun b406 => ?_)
      have hp418 := hp405.pull4
      have hp419 := hp418.pull4
      have hp420 := hp419.pull4
      have hp421 := hp420.pull4
      refine OPS.cons (opStep.call (some 166) [.pointer (some ⟨tb2, 0, none⟩), GUpdate.val (us[j]!.u)] (by kernel_rfl) (apply_c w _ _ tb2 m2 dl T2 F2 D2 us[j]!.u us[j]!.d (fun w1_ h1_ => dat_at h1_.get2 (hdk _ (bang_mem (by omega)))) (by have h_ := husz _ (bang_mem (by omega : j < us.length)); omega) hdl j hP.ok (by omega) hp421) ?_)
      rintro _ w409 ⟨f411, e412, T413, F414, D415, rfl, ⟨ha416, hok417⟩, hp410⟩
      have hud := (dat_at hp410.get6 (hdk _ (bang_mem (by omega : j < us.length)))).1
      obtain ⟨hf_, he_, hP2⟩ := re_step (hR).doc hups hP (by omega) (show us[j]! = ⟨us[j]!.u, us[j]!.d⟩ from rfl) hud.symm ha416
      refine ⟨_, rfl, ?_⟩
      refine OPS.batch 5 {} [] [7, 16, 18, 19, 20, 157, 158, 159] [.pointer (some ⟨sb, 0, none⟩), .pointer (some ⟨tb2, 0, none⟩), .pointer (some ⟨g403, 0, none⟩), .bool f411, .int .i64 e412, .slice a377 n378 c379, .int .i64 ((n378 : Nat) : Int), .int .i64 (j : Int)] .nil (by kernel_rfl) (fun b422 => ?_)
      refine OPS.nil ?_
      refine thn_n ?_
      refine WP.seq ?_
      refine WP.pure { wraps := [174, 179], subs := [170, 173, 178] } [.bool false, .bool false, .int .i64 (us[j]!.u.Kind), .bool false] [7, 16, 157, 158, 159, 179] [.pointer (some ⟨sb, 0, none⟩), .pointer (some ⟨tb2, 0, none⟩), .slice a377 n378 c379, .int .i64 ((n378 : Nat) : Int), .int .i64 (j : Int), .bool false] (.cons (show (.bool (!f411) : Go.Value) = .bool false from congrArg Value.bool ((by simp [hf_]))) (.cons (show (.bool (decide (¬ (e412 = 0))) : Go.Value) = .bool false from congrArg Value.bool ((by simp [he_]))) (.cons (Ld.row1 (P := Try.prog) (t := 3) (o := 0) (v := .int .i64 (us[j]!.u.Kind)) hp410.get4 (by kernel_rfl)) (.cons (show (.bool (decide (¬ ((us[j]!.u.Kind) = 3))) : Go.Value) = .bool false from congrArg Value.bool ((decide_eq_false (fun q => q (hups.kind _ (bang_mem (by omega : j < us.length))))))) .nil)))) (by kernel_rfl) (fun b423 => ?_)
      refine thn_n ?_
      refine WP.condF rfl ?_
      refine WP.skip ?_
      refine blk_n ?_
      refine thn_n ?_
      refine WP.pure {} [] [7, 16, 157, 158, 159] [.pointer (some ⟨sb, 0, none⟩), .pointer (some ⟨tb2, 0, none⟩), .slice a377 n378 c379, .int .i64 ((n378 : Nat) : Int), .int .i64 ((j : Int) + 1)] (.cons (show Rng .i64 ((j : Int) + 1) from Rng.i64 (by omega)) .nil) (by kernel_rfl) (fun b424 => ?_)
      refine thn_n ?_
      exact ⟨us.length - (j + 1), (by omega), j + 1, T413, F414, D415, rfl, ⟨by omega, hP2⟩, by kernel_rfl, (hp410.sub (.cons_cons _ (.cons_cons _ (.cons_cons _ (.cons_cons _ (.cons _ (.cons_cons _ (.cons_cons _ (.cons_cons _ (.cons_cons _ (.cons_cons _ (.slnil))))))))))))⟩
    · refine WP.exit ?_
      refine thn_x ?_
      refine thn_x ?_
      refine blk_hit ?_
      refine thn_n ?_
      refine WP.seq ?_
      refine WP.region _ rfl (by kernel_rfl) ?_
      refine OPS.batch 1 {} [] [7, 181] [.pointer (some ⟨sb, 0, none⟩), .pointer (some ⟨tb2, 0, none⟩)] .nil (by kernel_rfl) (fun b425 => ?_)
      have hS2 : SameI T2 D2 us.length C dl := by have e_ : j = us.length := (by omega); subst e_; exact re_end (hR).doc hups hP
      have hp428 := hp390.pull3
      have hp429 := hp428.pull3
      have hp430 := hp429.pull3
      have hp431 := hp430.pull3
      refine OPS.cons (opStep.call (some 182) [.pointer (some ⟨tb2, 0, none⟩)] (by kernel_rfl) (all_c tb2 m2 dl T2 F2 D2 us.length _ (TbH.of hp431) hS2.ok (by omega) hS2.tbd) ?_)
      rintro _ w432 ⟨a435, n436, c437, hs438, F439, D440, F441, rfl, hh442, hp433⟩
      refine ⟨_, rfl, ?_⟩
      have hl443 := own_flat (f := hC) (sz := 2) (fun _ => rfl) (by decide) hp433.get0
      have hk444 := hld_len hS2.ok hh442
      have hp434 := hp431.madeQ hp433
      simp only [List.cons_append, List.nil_append] at hp434
      have hp447 := hp434.pull11
      have hp448 := hp447.pull3
      have hp449 := hp448.pull3
      have hp450 := hp449.pull3
      have hp451 := hp450.pull11
      have hp452 := hp451.pull11
      refine OPS.cons (opStep.call (some 183) [.pointer (some ⟨sb, 0, none⟩), .slice a435 n436 c437] (by kernel_rfl) (holds_c sb dl a2 n2 c2 C _ (ShH.of hp452) (by have h_ := (hR).cl; omega) hs438 (by omega) a435 n436 c437 hl443.symm (SlR.own hp452.get2) (fun y hy => els_at hp452.get3 hy) ((hR).cb hp452.get5) (fun y hy x hx => dat_at hp452.get4 ((hh442.2 y hy).2.2 x hx)) (hol_ok hS2 hh442)) ?_)
      rintro _ w453 ⟨rfl, hf455⟩
      refine ⟨_, rfl, ?_⟩
      have hp454 := hp452.step hf455
      refine OPS.batch 1 {} [] [4] [.bool true] .nil (by kernel_rfl) (fun b456 => ?_)
      refine OPS.nil ?_
      refine thn_n ?_
      refine WP.ret ?_
      refine bodyQ.of _ rfl [.bool true] ⟨rfl, trivial⟩ ?_
      exact ⟨rfl, hp454.fr⟩

theorem tt_neg (dl : Int) (hd : dl < 0) (a : Option Addr) (n c : Nat) (w : World) :
    Calls Try.prog 3 #[.int .i64 dl, .slice a n c] w (fun x w' => x = .returned (.bool true) ∧ Fram Non w w') := by
  refine calls_of Try.func3 rfl 184 rfl (by simp) ?_
  have hp0 := Hp.init w
  have he0 : List.map (env0 [.int .i64 dl, .slice a n c]) [0, 1] = [.int .i64 dl, .slice a n c] := by kernel_rfl
  obtain ⟨b0, he0⟩ := toMk he0
  rw [he0]
  clear he0
  refine WP.seq ?_
  refine WP.pure {} [] [0, 1] [.int .i64 dl, .slice a n c] .nil (by kernel_rfl) (fun b1 => ?_)
  refine thn_n ?_
  refine WP.seq ?_
  refine WP.region _ rfl (by kernel_rfl) ?_
  refine OPS.batch 1 {} [] [0, 1, 22] [.int .i64 dl, .slice a n c, .int .i64 dl] .nil (by kernel_rfl) (fun b2 => ?_)
  refine OPS.cons (opStep.call (some 23) [.int .i64 dl] (by kernel_rfl) (new_bad dl (by omega) _) ?_)
  rintro _ w5 ⟨rfl, hf6⟩
  refine ⟨_, rfl, ?_⟩
  have hp7 := hp0.step hf6
  refine OPS.batch 5 {} [] [0, 1, 5, 6] [.int .i64 dl, .slice a n c, .pointer none, .int .i64 1] .nil (by kernel_rfl) (fun b8 => ?_)
  refine OPS.nil ?_
  refine thn_n ?_
  refine WP.seq ?_
  refine WP.seq ?_
  refine WP.pure { wraps := [31], subs := [27] } [.bool true] [0, 1, 5, 6, 31] [.int .i64 dl, .slice a n c, .pointer none, .int .i64 1, .bool true] (.cons (show (.bool (decide (dl < 0)) : Go.Value) = .bool true from congrArg Value.bool (decide_eq_true (by omega))) .nil) (by kernel_rfl) (fun b9 => ?_)
  refine thn_n ?_
  refine WP.condT rfl ?_
  refine WP.seq ?_
  refine WP.pure { wraps := [37] } [] [4] [.bool true] .nil (by kernel_rfl) (fun b10 => ?_)
  refine thn_n ?_
  refine WP.ret ?_
  refine thn_r ?_
  refine bodyQ.of _ rfl [.bool true] ⟨rfl, trivial⟩ ?_
  exact ⟨rfl, hp7.fr⟩

theorem tt_big (dl : Int) (hd : 4611686018427387903 < dl) (a : Option Addr) (n c : Nat) (w : World) :
    Calls Try.prog 3 #[.int .i64 dl, .slice a n c] w (fun x w' => x = .returned (.bool true) ∧ Fram Non w w') := by
  refine calls_of Try.func3 rfl 184 rfl (by simp) ?_
  have hp0 := Hp.init w
  have he0 : List.map (env0 [.int .i64 dl, .slice a n c]) [0, 1] = [.int .i64 dl, .slice a n c] := by kernel_rfl
  obtain ⟨b0, he0⟩ := toMk he0
  rw [he0]
  clear he0
  refine WP.seq ?_
  refine WP.pure {} [] [0, 1] [.int .i64 dl, .slice a n c] .nil (by kernel_rfl) (fun b1 => ?_)
  refine thn_n ?_
  refine WP.seq ?_
  refine WP.region _ rfl (by kernel_rfl) ?_
  refine OPS.batch 1 {} [] [0, 1, 22] [.int .i64 dl, .slice a n c, .int .i64 dl] .nil (by kernel_rfl) (fun b2 => ?_)
  refine OPS.cons (opStep.call (some 23) [.int .i64 dl] (by kernel_rfl) (new_bad dl (by omega) _) ?_)
  rintro _ w5 ⟨rfl, hf6⟩
  refine ⟨_, rfl, ?_⟩
  have hp7 := hp0.step hf6
  refine OPS.batch 5 {} [] [0, 1, 5, 6] [.int .i64 dl, .slice a n c, .pointer none, .int .i64 1] .nil (by kernel_rfl) (fun b8 => ?_)
  refine OPS.nil ?_
  refine thn_n ?_
  refine WP.seq ?_
  refine WP.seq ?_
  refine WP.pure { wraps := [31], subs := [27, 30] } [.bool false, .bool true] [0, 1, 5, 6, 31] [.int .i64 dl, .slice a n c, .pointer none, .int .i64 1, .bool true] (.cons (show (.bool (decide (dl < 0)) : Go.Value) = .bool false from congrArg Value.bool (decide_eq_false (by omega))) (.cons (show (.bool (decide (4611686018427387903 < dl)) : Go.Value) = .bool true from congrArg Value.bool (decide_eq_true (by omega))) .nil)) (by kernel_rfl) (fun b9 => ?_)
  refine thn_n ?_
  refine WP.condT rfl ?_
  refine WP.seq ?_
  refine WP.pure { wraps := [37] } [] [4] [.bool true] .nil (by kernel_rfl) (fun b10 => ?_)
  refine thn_n ?_
  refine WP.ret ?_
  refine thn_r ?_
  refine bodyQ.of _ rfl [.bool true] ⟨rfl, trivial⟩ ?_
  exact ⟨rfl, hp7.fr⟩

theorem TopTable (dl : Int) (l : List GUpdate) (a : Option Addr) (n c : Nat) (w : World) (hn : n = l.length) (hb : l.length ≤ 1048576) (hs : SlR w a n (l.flatMap GUpdate.cells)) (hB : ∀ y ∈ l, Bt w y.Entry.Data (valAt w y.Entry.Data) ∧ y.Entry.Data.n ≤ 1048576) : Calls Try.prog 3 #[.int .i64 dl, .slice a n c] w (fun x w' => x = .returned (.bool true) ∧ Fram Non w w') := by
  rcases Classical.em (dl < 0) with h | h
  · exact tt_neg dl h a n c w
  · rcases Classical.em (4611686018427387903 < dl) with h2 | h2
    · exact tt_big dl h2 a n c w
    · obtain ⟨k, rfl⟩ : ∃ k : Nat, dl = k := ⟨dl.toNat, by omega⟩
      exact tt_ok k (by omega) l a n c w hn hb hs hB
end Go.Proofs.Ytdkgdidnknojlaa.K
