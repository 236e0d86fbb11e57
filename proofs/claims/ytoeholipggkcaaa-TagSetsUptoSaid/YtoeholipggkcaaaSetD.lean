/- The walks of SetD: what each function computes. -/
import Derived.Test.YtoeholipggkcaaaProg
import Derived.Test.YtoeholipggkcaaaCoreO
import Derived.Test.YtoeholipggkcaaaSetC
namespace Go.Proofs.Ytoeholipggkcaaa.K
open Go Go.Proofs Go.RowKit
set_option linter.unusedVariables false
set_option linter.unusedSimpArgs false
set_option maxRecDepth 20000
set_option maxHeartbeats 4000000

theorem set_Cut (w0 : World) (L : List Res) (xs : List GTag) (a : Option Addr) (n c sb : Nat) (t : GTag) (w : World) (hb2 : n ≤ 4194304) (hp0 : Hp w0 Non (Res.row sb [.slice a n c] 52 :: Res.own 29 2 (.slice a n c) n (List.flatMap GTag.cells xs) :: L) w) :
    Calls Try.prog 7 #[.pointer (some ⟨sb, 0, none⟩), GTag.val t] w (fun r_ w' => ∃ at_ b, r_ = .returned (.int .i64 ((at_ : Nat) : Int)) ∧ fndR xs t at_ b ∧ Hp w0 Non (Res.row sb [.slice a (n - at_) c] 52 :: Res.own 29 2 (.slice a (n - at_) c) (n - at_) (List.flatMap GTag.cells (xs.drop at_)) :: L) w') := by
  have hn : n = xs.length := (own_flat (sz := 2) (fun _ => rfl) (by decide) hp0.get1).symm
  have hnc := own_cap hp0.get1
  refine calls_of Try.func7 rfl 25 rfl (by simp) ?_
  have he0 : List.map (env0 [.pointer (some ⟨sb, 0, none⟩), GTag.val t]) [0, 1] = [.pointer (some ⟨sb, 0, none⟩), GTag.val t] := by kernel_rfl
  obtain ⟨b0, he0⟩ := toMk he0
  rw [he0]
  clear he0
  refine WP.seq ?_
  refine WP.region _ rfl (by kernel_rfl) ?_
  refine OPS.cons (opStep.box hp0 [.int .i64 t.Count, .int .i64 t.Client] (by kernel_rfl) (fun g3 w1 hp2 => ?_))
  refine OPS.batch 1 {} [] [0, 3] [.pointer (some ⟨sb, 0, none⟩), .pointer (some ⟨g3, 0, none⟩)] .nil (by kernel_rfl) (fun b4 => ?_)
  refine OPS.nil ?_
  refine thn_n ?_
  refine WP.seq ?_
  refine WP.seq ?_
  refine WP.pure {} [] [0, 3, 8] [.pointer (some ⟨sb, 0, none⟩), .pointer (some ⟨g3, 0, none⟩), .bool false] .nil (by kernel_rfl) (fun b5 => ?_)
  refine thn_n ?_
  refine WP.condF rfl ?_
  refine WP.skip ?_
  refine thn_n ?_
  refine WP.seq ?_
  refine WP.region _ rfl (by kernel_rfl) ?_
  refine OPS.batch 2 {} [GTag.val t] [0, 10, 11] [.pointer (some ⟨sb, 0, none⟩), .pointer (some ⟨sb, 0, none⟩), GTag.val t] (.cons (show Ld Try.prog w1 29 ⟨g3, 0, none⟩ (GTag.val t) from Ld.rowN (cs := [.int .i64 t.Count, .int .i64 t.Client]) hp2.get0 (by kernel_rfl)) .nil) (by kernel_rfl) (fun b6 => ?_)
  refine OPS.cons (opStep.call (some 12) [.pointer (some ⟨sb, 0, none⟩), GTag.val t, .func (.func 18) #[] #[]] (by kernel_rfl) (tag_find xs a n c sb t _ hn (by omega) (SlR.own hp2.get2) hp2.get1) ?_)
  rintro _ w9 ⟨at10, b11, rfl, hq12, hf13⟩
  have hq12l := hq12.1
  refine ⟨_, rfl, ?_⟩
  have hp14 := hp2.step hf13
  refine OPS.batch 5 {} [] [0, 5] [.pointer (some ⟨sb, 0, none⟩), .int .i64 ((at10 : Nat) : Int)] .nil (by kernel_rfl) (fun b15 => ?_)
  refine OPS.nil ?_
  refine thn_n ?_
  refine WP.seq ?_
  refine WP.region _ rfl (by kernel_rfl) ?_
  refine OPS.batch 6 {} [.slice a n c] [5, 15, 19, 20] [.int .i64 ((at10 : Nat) : Int), .pointer (some ⟨sb, 0, none⟩), .slice a n c, .int .i64 ((at10 : Nat) : Int)] (.cons (Ld.row1 (P := Try.prog) (t := 22) (o := 0) (v := .slice a n c) hp14.get1 (by kernel_rfl)) .nil) (by kernel_rfl) (fun b16 => ?_)
  have hp19 := hp14.pull2
  refine OPS.cons (opStep.call (some 21) [.slice a n c, .int .i64 0, .int .i64 ((at10 : Nat) : Int)] (by kernel_rfl) (t_Delete w0 _ xs a n c at10 _ (by omega) (by omega) hp19) ?_)
  rintro _ w20 ⟨rfl, hp21⟩
  refine ⟨_, rfl, ?_⟩
  refine OPS.batch 2 {} [] [5, 21, 23] [.int .i64 ((at10 : Nat) : Int), .slice a (n - at10) c, .pointer (some ⟨sb, 0, none⟩)] .nil (by kernel_rfl) (fun b22 => ?_)
  refine OPS.cons (opStep.store2 hp21 rfl [.slice a (n - at10) c] [.slice a (n - at10) c] (by kernel_rfl) (fun w23 hp24 => ?_))
  refine OPS.nil ?_
  refine thn_n ?_
  refine WP.seq ?_
  refine WP.pure {} [] [4] [.int .i64 ((at10 : Nat) : Int)] .nil (by kernel_rfl) (fun b25 => ?_)
  refine thn_n ?_
  refine WP.ret ?_
  refine bodyQ.of _ rfl [.int .i64 ((at10 : Nat) : Int)] ⟨rfl, trivial⟩ ?_
  exact ⟨_, _, rfl, hq12, (((hp24.pull0).pull2).sub (.cons_cons _ (.cons_cons _ (.cons _ (.refl _)))))⟩

def addR (xs : List GTag) (t : GTag) (b : Bool) (e : Int) (ys : List GTag) : Prop := (¬ tagProper t ∧ b = false ∧ e = 41 ∧ ys = xs) ∨ (tagProper t ∧ e = 0 ∧ ∃ at_ f, fndR xs t at_ f ∧ ((f = true ∧ b = false ∧ ys = xs) ∨ (¬ f = true ∧ b = true ∧ ys = xs.take at_ ++ t :: xs.drop at_)))
theorem set_Add (w0 : World) (L : List Res) (xs : List GTag) (a : Option Addr) (n c sb : Nat) (t : GTag) (w : World) (hb2 : n ≤ 4194304) (hp0 : Hp w0 Non (Res.row sb [.slice a n c] 52 :: Res.own 29 2 (.slice a n c) n (List.flatMap GTag.cells xs) :: L) w) :
    Calls Try.prog 4 #[.pointer (some ⟨sb, 0, none⟩), GTag.val t] w (fun r_ w' => ∃ b e a2 n2 c2 ys, r_ = .returned (.tuple #[.bool b, .int .i64 e]) ∧ addR xs t b e ys ∧ Hp w0 Non (Res.row sb [.slice a2 n2 c2] 52 :: Res.own 29 2 (.slice a2 n2 c2) n2 (List.flatMap GTag.cells ys) :: L) w') := by
  have hn : n = xs.length := (own_flat (sz := 2) (fun _ => rfl) (by decide) hp0.get1).symm
  have hnc := own_cap hp0.get1
  refine calls_of Try.func4 rfl 31 rfl (by simp) ?_
  have he0 : List.map (env0 [.pointer (some ⟨sb, 0, none⟩), GTag.val t]) [0, 1] = [.pointer (some ⟨sb, 0, none⟩), GTag.val t] := by kernel_rfl
  obtain ⟨b0, he0⟩ := toMk he0
  rw [he0]
  clear he0
  refine WP.seq ?_
  refine WP.region _ rfl (by kernel_rfl) ?_
  refine OPS.cons (opStep.box hp0 [.int .i64 t.Count, .int .i64 t.Client] (by kernel_rfl) (fun g3 w1 hp2 => ?_))
  refine OPS.batch 2 {} [] [0, 3] [.pointer (some ⟨sb, 0, none⟩), .pointer (some ⟨g3, 0, none⟩)] .nil (by kernel_rfl) (fun b4 => ?_)
  refine OPS.nil ?_
  refine thn_n ?_
  refine WP.seq ?_
  refine WP.seq ?_
  refine WP.pure {} [] [0, 3, 9] [.pointer (some ⟨sb, 0, none⟩), .pointer (some ⟨g3, 0, none⟩), .bool false] .nil (by kernel_rfl) (fun b5 => ?_)
  refine thn_n ?_
  refine WP.condF rfl ?_
  refine WP.skip ?_
  refine thn_n ?_
  refine WP.seq ?_
  refine WP.seq ?_
  refine WP.region _ rfl (by kernel_rfl) ?_
  refine OPS.batch 1 {} [GTag.val t] [0, 3, 10] [.pointer (some ⟨sb, 0, none⟩), .pointer (some ⟨g3, 0, none⟩), GTag.val t] (.cons (show Ld Try.prog w1 29 ⟨g3, 0, none⟩ (GTag.val t) from Ld.rowN (cs := [.int .i64 t.Count, .int .i64 t.Client]) hp2.get0 (by kernel_rfl)) .nil) (by kernel_rfl) (fun b6 => ?_)
  refine OPS.cons (opStep.call (some 11) [GTag.val t] (by kernel_rfl) (tag_proper t _) ?_)
  rintro _ w9 ⟨b12, rfl, hb13, hf10⟩
  refine ⟨_, rfl, ?_⟩
  have hp11 := hp2.step hf10
  refine OPS.batch 1 {} [] [0, 3, 12] [.pointer (some ⟨sb, 0, none⟩), .pointer (some ⟨g3, 0, none⟩), .bool (!b12)] .nil (by kernel_rfl) (fun b14 => ?_)
  refine OPS.nil ?_
  refine thn_n ?_
  refine WP.test (p := ¬ (tagProper t)) rfl (Bp.not hb13) (fun h15 => ?_) (fun h15 => ?_)
  · refine WP.seq ?_
    refine WP.pure {} [] [4, 5] [.bool false, .int .i64 41] .nil (by kernel_rfl) (fun b16 => ?_)
    refine thn_n ?_
    refine WP.ret ?_
    refine thn_r ?_
    refine bodyQ.of _ rfl [.bool false, .int .i64 41] ⟨rfl, rfl, trivial⟩ ?_
    exact ⟨_, _, _, _, _, _, rfl, .inl ⟨h15, rfl, rfl, rfl⟩, (hp11.sub (.cons _ (.cons_cons _ (.cons_cons _ (.refl _)))))⟩
  · replace h15 := Classical.not_not.1 h15
    refine WP.skip ?_
    refine thn_n ?_
    refine WP.seq ?_
    refine WP.region _ rfl (by kernel_rfl) ?_
    refine OPS.batch 2 {} [GTag.val t] [0, 3, 14, 15] [.pointer (some ⟨sb, 0, none⟩), .pointer (some ⟨g3, 0, none⟩), .pointer (some ⟨sb, 0, none⟩), GTag.val t] (.cons (show Ld Try.prog w9 29 ⟨g3, 0, none⟩ (GTag.val t) from Ld.rowN (cs := [.int .i64 t.Count, .int .i64 t.Client]) hp11.get0 (by kernel_rfl)) .nil) (by kernel_rfl) (fun b17 => ?_)
    refine OPS.cons (opStep.call (some 16) [.pointer (some ⟨sb, 0, none⟩), GTag.val t, .func (.func 18) #[] #[]] (by kernel_rfl) (tag_find xs a n c sb t _ hn (by omega) (SlR.own hp11.get2) hp11.get1) ?_)
    rintro _ w20 ⟨at21, b22, rfl, hq23, hf24⟩
    have hq23l := hq23.1
    refine ⟨_, rfl, ?_⟩
    have hp25 := hp11.step hf24
    refine OPS.batch 5 {} [] [0, 3, 6, 7] [.pointer (some ⟨sb, 0, none⟩), .pointer (some ⟨g3, 0, none⟩), .int .i64 ((at21 : Nat) : Int), .bool b22] .nil (by kernel_rfl) (fun b26 => ?_)
    refine OPS.nil ?_
    refine thn_n ?_
    refine WP.seq ?_
    refine WP.seq ?_
    refine WP.pure {} [] [0, 3, 6, 19] [.pointer (some ⟨sb, 0, none⟩), .pointer (some ⟨g3, 0, none⟩), .int .i64 ((at21 : Nat) : Int), .bool b22] .nil (by kernel_rfl) (fun b27 => ?_)
    refine thn_n ?_
    refine WP.test (p := b22 = true) rfl Bp.var (fun h28 => ?_) (fun h28 => ?_)
    · refine WP.seq ?_
      refine WP.pure {} [] [4, 5] [.bool false, .int .i64 0] .nil (by kernel_rfl) (fun b29 => ?_)
      refine thn_n ?_
      refine WP.ret ?_
      refine thn_r ?_
      refine bodyQ.of _ rfl [.bool false, .int .i64 0] ⟨rfl, rfl, trivial⟩ ?_
      exact ⟨_, _, _, _, _, _, rfl, .inr ⟨by first | exact h15 | exact Classical.not_not.1 h15, rfl, _, _, hq23, .inl ⟨h28, rfl, rfl⟩⟩, (hp25.sub (.cons _ (.cons_cons _ (.cons_cons _ (.refl _)))))⟩
    · refine WP.skip ?_
      refine thn_n ?_
      refine WP.seq ?_
      have hp30 := hp25.drew
      refine WP.held (fun w31 => Ld Try.prog w31 22 ⟨sb, 0, none⟩ (.slice a n c) ∧ Ld Try.prog w31 29 ⟨g3, 0, none⟩ (GTag.val t) ∧ True) [11] [(0, true), (1, true), (2, true), (3, true), (4, true), (5, true), (6, true), (7, false), (8, false), (9, false), (10, true), (11, false)] (np_thn np_body) (by kernel_rfl) ?_
      refine HOPS.take 7 {} [.slice a n c, GTag.val t] [20, 24, 25, 26] [.pointer (some ⟨sb, 0, none⟩), .slice a n c, .int .i64 ((at21 : Nat) : Int), GTag.val t] (by kernel_rfl) ⟨(show Ld Try.prog w20.drew 22 ⟨sb, 0, none⟩ (.slice a n c) from (Ld.row1 (P := Try.prog) (t := 22) (o := 0) (v := .slice a n c) hp30.get1 (by kernel_rfl))), (show Ld Try.prog w20.drew 29 ⟨g3, 0, none⟩ (GTag.val t) from (show Ld Try.prog w20.drew 29 ⟨g3, 0, none⟩ (GTag.val t) from Ld.rowN (cs := [.int .i64 t.Count, .int .i64 t.Client]) hp30.get0 (by kernel_rfl))), trivial⟩ (fun w32 hS33 => QB.mk (.cons (hS33.1) (.cons (hS33.2.1) .nil)) (by kernel_rfl)) (fun b34 => ?_)
      refine HOPS.eff _ rfl (opStep.buildSlice (E := 29) hp30 [.int .i64 t.Count, .int .i64 t.Client] (by kernel_rfl) (fun g37 w35 hp36 => ?_))
      refine ⟨.inr ⟨(show Ld Try.prog w35 22 ⟨sb, 0, none⟩ (.slice a n c) from (Ld.row1 (P := Try.prog) (t := 22) (o := 0) (v := .slice a n c) hp36.get2 (by kernel_rfl))), (show Ld Try.prog w35 29 ⟨g3, 0, none⟩ (GTag.val t) from (show Ld Try.prog w35 29 ⟨g3, 0, none⟩ (GTag.val t) from Ld.rowN (cs := [.int .i64 t.Count, .int .i64 t.Client]) hp36.get1 (by kernel_rfl))), trivial⟩, ?_⟩
      have hp40 := hp36.pull0
      have hp41 := hp40.pull3
      refine HOPS.eff _ rfl (opStep.call (some 28) [.slice a n c, .int .i64 ((at21 : Nat) : Int), .slice (some ⟨g37, 0, none⟩) 1 1] (by kernel_rfl) (t_Insert w0 _ xs a n c at21 t g37 _ (by omega) (by omega) hp41) ?_)
      rintro _ w42 ⟨a44, c45, rfl, hp43⟩
      refine ⟨_, rfl, ?_⟩
      refine ⟨.inr ⟨(show Ld Try.prog w42 22 ⟨sb, 0, none⟩ (.slice a n c) from (Ld.row1 (P := Try.prog) (t := 22) (o := 0) (v := .slice a n c) hp43.get3 (by kernel_rfl))), (show Ld Try.prog w42 29 ⟨g3, 0, none⟩ (GTag.val t) from (show Ld Try.prog w42 29 ⟨g3, 0, none⟩ (GTag.val t) from Ld.rowN (cs := [.int .i64 t.Count, .int .i64 t.Client]) hp43.get2 (by kernel_rfl))), trivial⟩, ?_⟩
      refine HOPS.one _ rfl {} [] [28, 29] [.slice a44 (n + 1) c45, .pointer (some ⟨sb, 0, none⟩)] .nil (by kernel_rfl) ⟨(show Ld Try.prog w42 22 ⟨sb, 0, none⟩ (.slice a n c) from (Ld.row1 (P := Try.prog) (t := 22) (o := 0) (v := .slice a n c) hp43.get3 (by kernel_rfl))), (show Ld Try.prog w42 29 ⟨g3, 0, none⟩ (GTag.val t) from (show Ld Try.prog w42 29 ⟨g3, 0, none⟩ (GTag.val t) from Ld.rowN (cs := [.int .i64 t.Count, .int .i64 t.Client]) hp43.get2 (by kernel_rfl))), trivial⟩ (fun b48 => ?_)
      refine HOPS.take 1 {} [] [28, 30] [.slice a44 (n + 1) c45, .pointer (some ⟨sb, 0, none⟩)] (by kernel_rfl) ⟨(show Ld Try.prog w42 22 ⟨sb, 0, none⟩ (.slice a n c) from (Ld.row1 (P := Try.prog) (t := 22) (o := 0) (v := .slice a n c) hp43.get3 (by kernel_rfl))), (show Ld Try.prog w42 29 ⟨g3, 0, none⟩ (GTag.val t) from (show Ld Try.prog w42 29 ⟨g3, 0, none⟩ (GTag.val t) from Ld.rowN (cs := [.int .i64 t.Count, .int .i64 t.Client]) hp43.get2 (by kernel_rfl))), trivial⟩ (fun w49 hS50 => QB.mk .nil (by kernel_rfl)) (fun b51 => ?_)
      refine HOPS.eff _ rfl (opStep.store3 hp43 rfl [.slice a44 (n + 1) c45] [.slice a44 (n + 1) c45] (by kernel_rfl) (fun w52 hp53 => ?_))
      refine ⟨.inl rfl, ?_⟩
      refine HOPS.nil ?_
      refine thn_n ?_
      refine WP.seq ?_
      refine WP.pure {} [] [4, 5] [.bool true, .int .i64 0] .nil (by kernel_rfl) (fun b54 => ?_)
      refine thn_n ?_
      refine WP.ret ?_
      refine bodyQ.of _ rfl [.bool true, .int .i64 0] ⟨rfl, rfl, trivial⟩ ?_
      exact ⟨_, _, _, _, _, _, rfl, .inr ⟨by first | exact h15 | exact Classical.not_not.1 h15, rfl, _, _, hq23, .inr ⟨h28, rfl, rfl⟩⟩, (((hp53.pull0).pull3).sub (.cons_cons _ (.cons_cons _ (.cons _ (.cons _ (.refl _))))))⟩

end Go.Proofs.Ytoeholipggkcaaa.K
