/- The walks of SetI: what each function computes. -/
import Derived.Test.YtoeholipggkcaaaProg
import Derived.Test.YtoeholipggkcaaaCoreO
import Derived.Test.YtoeholipggkcaaaSetH
namespace Go.Proofs.Ytoeholipggkcaaa.K
open Go Go.Proofs Go.RowKit
set_option linter.unusedVariables false
set_option linter.unusedSimpArgs false
set_option maxRecDepth 20000
set_option maxHeartbeats 4000000

theorem ref_Cut (w0 : World) (L : List Res) (rs : List GTag) (a : Option Addr) (n c rb : Nat) (ys : List GTag) (t : GTag) (w : World) (E : Eqv ys rs) (hb2 : n ≤ 4194304) (hp0 : Hp w0 Non (Res.row rb [.slice a n c] 55 :: Res.own 29 2 (.slice a n c) n (List.flatMap GTag.cells rs) :: L) w) :
    Calls Try.prog 27 #[.pointer (some ⟨rb, 0, none⟩), GTag.val t] w (fun r_ w' => ∃ a2 n2 c2, r_ = .returned (.int .i64 ((blw rs t : Nat) : Int)) ∧ Hp w0 Non (Res.row rb [.slice a2 n2 c2] 55 :: Res.own 29 2 (.slice a2 n2 c2) n2 (List.flatMap GTag.cells (ys.drop (blw rs t))) :: L) w') := by
  have hn : n = rs.length := (own_flat (sz := 2) (fun _ => rfl) (by decide) hp0.get1).symm
  have hnc := own_cap hp0.get1
  refine calls_of Try.func27 rfl 18 rfl (by simp) ?_
  have he0 : List.map (env0 [.pointer (some ⟨rb, 0, none⟩), GTag.val t]) [0, 1] = [.pointer (some ⟨rb, 0, none⟩), GTag.val t] := by kernel_rfl
  obtain ⟨b0, he0⟩ := toMk he0
  rw [he0]
  clear he0
  refine WP.seq ?_
  refine WP.region _ rfl (by kernel_rfl) ?_
  refine OPS.cons (opStep.box hp0 [.int .i64 t.Count, .int .i64 t.Client] (by kernel_rfl) (fun g3 w1 hp2 => ?_))
  refine OPS.batch 1 {} [] [0, 3] [.pointer (some ⟨rb, 0, none⟩), .pointer (some ⟨g3, 0, none⟩)] .nil (by kernel_rfl) (fun b4 => ?_)
  refine OPS.nil ?_
  refine thn_n ?_
  refine WP.seq ?_
  refine WP.seq ?_
  refine WP.pure {} [] [0, 3, 7] [.pointer (some ⟨rb, 0, none⟩), .pointer (some ⟨g3, 0, none⟩), .bool false] .nil (by kernel_rfl) (fun b5 => ?_)
  refine thn_n ?_
  refine WP.condF rfl ?_
  refine WP.skip ?_
  refine thn_n ?_
  refine WP.seq ?_
  refine WP.region _ rfl (by kernel_rfl) ?_
  refine OPS.batch 2 {} [GTag.val t] [0, 3, 8, 9] [.pointer (some ⟨rb, 0, none⟩), .pointer (some ⟨g3, 0, none⟩), .pointer (some ⟨rb, 0, none⟩), GTag.val t] (.cons (show Ld Try.prog w1 29 ⟨g3, 0, none⟩ (GTag.val t) from Ld.rowN (cs := [.int .i64 t.Count, .int .i64 t.Client]) hp2.get0 (by kernel_rfl)) .nil) (by kernel_rfl) (fun b6 => ?_)
  refine OPS.cons (opStep.call (some 10) [.pointer (some ⟨rb, 0, none⟩), GTag.val t] (by kernel_rfl) (ref_below rs a n c rb t _ hn (by omega) (SlR.own hp2.get2) hp2.get1) ?_)
  rintro _ w9 ⟨rfl, hf10⟩
  refine ⟨_, rfl, ?_⟩
  have hp11 := hp2.step hf10
  refine OPS.batch 1 {} [] [0, 3, 5] [.pointer (some ⟨rb, 0, none⟩), .pointer (some ⟨g3, 0, none⟩), .int .i64 ((blw rs t : Nat) : Int)] .nil (by kernel_rfl) (fun b12 => ?_)
  refine OPS.nil ?_
  refine thn_n ?_
  refine WP.seq ?_
  refine WP.region _ rfl (by kernel_rfl) ?_
  refine OPS.batch 3 {} [GTag.val t] [5, 11, 12, 13] [.int .i64 ((blw rs t : Nat) : Int), .pointer (some ⟨rb, 0, none⟩), .pointer (some ⟨rb, 0, none⟩), GTag.val t] (.cons (show Ld Try.prog w9 29 ⟨g3, 0, none⟩ (GTag.val t) from Ld.rowN (cs := [.int .i64 t.Count, .int .i64 t.Client]) hp11.get0 (by kernel_rfl)) .nil) (by kernel_rfl) (fun b13 => ?_)
  refine OPS.cons (opStep.call (some 14) [.pointer (some ⟨rb, 0, none⟩), GTag.val t] (by kernel_rfl) (ref_From rs a n c rb ys t _ hn (by omega) (SlR.own hp11.get2) hp11.get1 E) ?_)
  rintro _ w16 ⟨a18, n19, c20, rfl, hp17⟩
  refine ⟨_, rfl, ?_⟩
  have hp21 := hp11.made hp17
  refine OPS.batch 2 {} [] [5, 14, 16] [.int .i64 ((blw rs t : Nat) : Int), .slice a18 n19 c20, .pointer (some ⟨rb, 0, none⟩)] .nil (by kernel_rfl) (fun b22 => ?_)
  refine OPS.cons (opStep.store2 hp21 rfl [.slice a18 n19 c20] [.slice a18 n19 c20] (by kernel_rfl) (fun w23 hp24 => ?_))
  refine OPS.nil ?_
  refine thn_n ?_
  refine WP.seq ?_
  refine WP.pure {} [] [4] [.int .i64 ((blw rs t : Nat) : Int)] .nil (by kernel_rfl) (fun b25 => ?_)
  refine thn_n ?_
  refine WP.ret ?_
  refine bodyQ.of _ rfl [.int .i64 ((blw rs t : Nat) : Int)] ⟨rfl, trivial⟩ ?_
  exact ⟨_, _, _, rfl, (((hp24.pull0).pull2).sub (.cons_cons _ (.cons_cons _ (.cons _ (.cons _ (.refl _))))))⟩

def raddR (rs : List GTag) (t : GTag) (b : Bool) (e : Int) (rs2 : List GTag) : Prop := (¬ tagProper t ∧ b = false ∧ e = 41 ∧ rs2 = rs) ∨ (tagProper t ∧ e = 0 ∧ ((t ∈ rs ∧ b = false ∧ rs2 = rs) ∨ (¬ t ∈ rs ∧ b = true ∧ rs2 = rs ++ [t])))
theorem ref_Add (w0 : World) (L : List Res) (rs : List GTag) (a : Option Addr) (n c rb : Nat) (t : GTag) (w : World) (hb2 : n ≤ 4194304) (hp0 : Hp w0 Non (Res.row rb [.slice a n c] 55 :: Res.own 29 2 (.slice a n c) n (List.flatMap GTag.cells rs) :: L) w) :
    Calls Try.prog 22 #[.pointer (some ⟨rb, 0, none⟩), GTag.val t] w (fun r_ w' => ∃ b e a2 n2 c2 rs2, r_ = .returned (.tuple #[.bool b, .int .i64 e]) ∧ raddR rs t b e rs2 ∧ Hp w0 Non (Res.row rb [.slice a2 n2 c2] 55 :: Res.own 29 2 (.slice a2 n2 c2) n2 (List.flatMap GTag.cells rs2) :: L) w') := by
  have hn : n = rs.length := (own_flat (sz := 2) (fun _ => rfl) (by decide) hp0.get1).symm
  have hnc := own_cap hp0.get1
  refine calls_of Try.func22 rfl 24 rfl (by simp) ?_
  have he0 : List.map (env0 [.pointer (some ⟨rb, 0, none⟩), GTag.val t]) [0, 1] = [.pointer (some ⟨rb, 0, none⟩), GTag.val t] := by kernel_rfl
  obtain ⟨b0, he0⟩ := toMk he0
  rw [he0]
  clear he0
  refine WP.seq ?_
  refine WP.region _ rfl (by kernel_rfl) ?_
  refine OPS.cons (opStep.box hp0 [.int .i64 t.Count, .int .i64 t.Client] (by kernel_rfl) (fun g3 w1 hp2 => ?_))
  refine OPS.batch 2 {} [] [0, 3] [.pointer (some ⟨rb, 0, none⟩), .pointer (some ⟨g3, 0, none⟩)] .nil (by kernel_rfl) (fun b4 => ?_)
  refine OPS.nil ?_
  refine thn_n ?_
  refine WP.seq ?_
  refine WP.seq ?_
  refine WP.pure {} [] [0, 3, 7] [.pointer (some ⟨rb, 0, none⟩), .pointer (some ⟨g3, 0, none⟩), .bool false] .nil (by kernel_rfl) (fun b5 => ?_)
  refine thn_n ?_
  refine WP.condF rfl ?_
  refine WP.skip ?_
  refine thn_n ?_
  refine WP.seq ?_
  refine WP.seq ?_
  refine WP.region _ rfl (by kernel_rfl) ?_
  refine OPS.batch 1 {} [GTag.val t] [0, 3, 8] [.pointer (some ⟨rb, 0, none⟩), .pointer (some ⟨g3, 0, none⟩), GTag.val t] (.cons (show Ld Try.prog w1 29 ⟨g3, 0, none⟩ (GTag.val t) from Ld.rowN (cs := [.int .i64 t.Count, .int .i64 t.Client]) hp2.get0 (by kernel_rfl)) .nil) (by kernel_rfl) (fun b6 => ?_)
  refine OPS.cons (opStep.call (some 9) [GTag.val t] (by kernel_rfl) (r8_proper t _) ?_)
  rintro _ w9 ⟨b12, rfl, hb13, hf10⟩
  refine ⟨_, rfl, ?_⟩
  have hp11 := hp2.step hf10
  refine OPS.batch 1 {} [] [0, 3, 10] [.pointer (some ⟨rb, 0, none⟩), .pointer (some ⟨g3, 0, none⟩), .bool (!b12)] .nil (by kernel_rfl) (fun b14 => ?_)
  refine OPS.nil ?_
  refine thn_n ?_
  refine WP.test (p := ¬ (tagProper t)) rfl (Bp.not hb13) (fun h15 => ?_) (fun h15 => ?_)
  · refine WP.seq ?_
    refine WP.pure {} [] [4, 5] [.bool false, .int .i64 41] .nil (by kernel_rfl) (fun b16 => ?_)
    refine thn_n ?_
    refine WP.ret ?_
    refine thn_r ?_
    refine bodyQ.of _ rfl [.bool false, .int .i64 41] ⟨rfl, rfl, trivial⟩ ?_
    exact ⟨_, _, _, _, _, _, rfl, .inl ⟨h15, rfl, rfl, rfl⟩, (hp11.sub (.cons _ (.cons_cons _ (.cons_cons _ (.refl _)))))⟩
  · replace h15 := Classical.not_not.1 h15
    refine WP.skip ?_
    refine thn_n ?_
    refine WP.seq ?_
    refine WP.seq ?_
    refine WP.region _ rfl (by kernel_rfl) ?_
    refine OPS.batch 2 {} [GTag.val t] [0, 3, 11, 12] [.pointer (some ⟨rb, 0, none⟩), .pointer (some ⟨g3, 0, none⟩), .pointer (some ⟨rb, 0, none⟩), GTag.val t] (.cons (show Ld Try.prog w9 29 ⟨g3, 0, none⟩ (GTag.val t) from Ld.rowN (cs := [.int .i64 t.Count, .int .i64 t.Client]) hp11.get0 (by kernel_rfl)) .nil) (by kernel_rfl) (fun b17 => ?_)
    refine OPS.cons (opStep.call (some 13) [.pointer (some ⟨rb, 0, none⟩), GTag.val t] (by kernel_rfl) (ref_Has rs a n c rb t _ hn (by omega) (SlR.own hp11.get2) hp11.get1) ?_)
    rintro _ w20 ⟨b23, rfl, hb24, hf21⟩
    refine ⟨_, rfl, ?_⟩
    have hp22 := hp11.step hf21
    refine OPS.nil ?_
    refine thn_n ?_
    refine WP.test (p := t ∈ rs) rfl hb24 (fun h25 => ?_) (fun h25 => ?_)
    · refine WP.seq ?_
      refine WP.pure {} [] [4, 5] [.bool false, .int .i64 0] .nil (by kernel_rfl) (fun b26 => ?_)
      refine thn_n ?_
      refine WP.ret ?_
      refine thn_r ?_
      refine bodyQ.of _ rfl [.bool false, .int .i64 0] ⟨rfl, rfl, trivial⟩ ?_
      exact ⟨_, _, _, _, _, _, rfl, .inr ⟨by first | exact h15 | exact Classical.not_not.1 h15, rfl, .inl ⟨h25, rfl, rfl⟩⟩, (hp22.sub (.cons _ (.cons_cons _ (.cons_cons _ (.refl _)))))⟩
    · refine WP.skip ?_
      refine thn_n ?_
      refine WP.seq ?_
      have hp27 := hp22.drew
      refine WP.held (fun w28 => Ld Try.prog w28 22 ⟨rb, 0, none⟩ (.slice a n c) ∧ Ld Try.prog w28 29 ⟨g3, 0, none⟩ (GTag.val t) ∧ True) [10] [(0, true), (1, true), (2, true), (3, true), (4, true), (5, true), (6, false), (7, false), (8, false), (9, true), (10, false)] (np_thn np_body) (by kernel_rfl) ?_
      refine HOPS.take 6 {} [.slice a n c, GTag.val t] [14, 18, 19] [.pointer (some ⟨rb, 0, none⟩), .slice a n c, GTag.val t] (by kernel_rfl) ⟨(show Ld Try.prog w20.drew 22 ⟨rb, 0, none⟩ (.slice a n c) from (Ld.row1 (P := Try.prog) (t := 22) (o := 0) (v := .slice a n c) hp27.get1 (by kernel_rfl))), (show Ld Try.prog w20.drew 29 ⟨g3, 0, none⟩ (GTag.val t) from (show Ld Try.prog w20.drew 29 ⟨g3, 0, none⟩ (GTag.val t) from Ld.rowN (cs := [.int .i64 t.Count, .int .i64 t.Client]) hp27.get0 (by kernel_rfl))), trivial⟩ (fun w29 hS30 => QB.mk (.cons (hS30.1) (.cons (hS30.2.1) .nil)) (by kernel_rfl)) (fun b31 => ?_)
      refine HOPS.eff _ rfl (opStep.buildSlice (E := 29) hp27 [.int .i64 t.Count, .int .i64 t.Client] (by kernel_rfl) (fun g34 w32 hp33 => ?_))
      refine ⟨.inr ⟨(show Ld Try.prog w32 22 ⟨rb, 0, none⟩ (.slice a n c) from (Ld.row1 (P := Try.prog) (t := 22) (o := 0) (v := .slice a n c) hp33.get2 (by kernel_rfl))), (show Ld Try.prog w32 29 ⟨g3, 0, none⟩ (GTag.val t) from (show Ld Try.prog w32 29 ⟨g3, 0, none⟩ (GTag.val t) from Ld.rowN (cs := [.int .i64 t.Count, .int .i64 t.Client]) hp33.get1 (by kernel_rfl))), trivial⟩, ?_⟩
      refine HOPS.eff _ rfl (opStep.append3 [.int .i64 t.Count, .int .i64 t.Client] hp33 16 (by kernel_rfl) rfl rfl rfl (SlR.row (n := 1) hp33.get0 rfl).rd (List.all_eq_true.1 (by kernel_rfl)) (by decide) (by omega) (by omega) (fun a37 c38 w39 hp40 hn41 => ?_))
      rw [(show List.flatMap GTag.cells rs ++ [.int .i64 t.Count, .int .i64 t.Client] = List.flatMap GTag.cells (rs ++ [t]) from (List.flatMap_append (xs := rs) (ys := [t])).symm)] at hp40
      refine ⟨.inr ⟨(show Ld Try.prog w39 22 ⟨rb, 0, none⟩ (.slice a n c) from (Ld.row1 (P := Try.prog) (t := 22) (o := 0) (v := .slice a n c) hp40.get2 (by kernel_rfl))), (show Ld Try.prog w39 29 ⟨g3, 0, none⟩ (GTag.val t) from (show Ld Try.prog w39 29 ⟨g3, 0, none⟩ (GTag.val t) from Ld.rowN (cs := [.int .i64 t.Count, .int .i64 t.Client]) hp40.get1 (by kernel_rfl))), trivial⟩, ?_⟩
      refine HOPS.one _ rfl {} [] [21, 22] [.slice a37 (n + 1) c38, .pointer (some ⟨rb, 0, none⟩)] .nil (by kernel_rfl) ⟨(show Ld Try.prog w39 22 ⟨rb, 0, none⟩ (.slice a n c) from (Ld.row1 (P := Try.prog) (t := 22) (o := 0) (v := .slice a n c) hp40.get2 (by kernel_rfl))), (show Ld Try.prog w39 29 ⟨g3, 0, none⟩ (GTag.val t) from (show Ld Try.prog w39 29 ⟨g3, 0, none⟩ (GTag.val t) from Ld.rowN (cs := [.int .i64 t.Count, .int .i64 t.Client]) hp40.get1 (by kernel_rfl))), trivial⟩ (fun b44 => ?_)
      refine HOPS.take 1 {} [] [21, 23] [.slice a37 (n + 1) c38, .pointer (some ⟨rb, 0, none⟩)] (by kernel_rfl) ⟨(show Ld Try.prog w39 22 ⟨rb, 0, none⟩ (.slice a n c) from (Ld.row1 (P := Try.prog) (t := 22) (o := 0) (v := .slice a n c) hp40.get2 (by kernel_rfl))), (show Ld Try.prog w39 29 ⟨g3, 0, none⟩ (GTag.val t) from (show Ld Try.prog w39 29 ⟨g3, 0, none⟩ (GTag.val t) from Ld.rowN (cs := [.int .i64 t.Count, .int .i64 t.Client]) hp40.get1 (by kernel_rfl))), trivial⟩ (fun w45 hS46 => QB.mk .nil (by kernel_rfl)) (fun b47 => ?_)
      refine HOPS.eff _ rfl (opStep.store2 hp40 rfl [.slice a37 (n + 1) c38] [.slice a37 (n + 1) c38] (by kernel_rfl) (fun w48 hp49 => ?_))
      refine ⟨.inl rfl, ?_⟩
      refine HOPS.nil ?_
      refine thn_n ?_
      refine WP.seq ?_
      refine WP.pure {} [] [4, 5] [.bool true, .int .i64 0] .nil (by kernel_rfl) (fun b50 => ?_)
      refine thn_n ?_
      refine WP.ret ?_
      refine bodyQ.of _ rfl [.bool true, .int .i64 0] ⟨rfl, rfl, trivial⟩ ?_
      exact ⟨_, _, _, _, _, _, rfl, .inr ⟨by first | exact h15 | exact Classical.not_not.1 h15, rfl, .inr ⟨h25, rfl, rfl⟩⟩, (hp49.sub (.cons _ (.cons _ (.cons_cons _ (.cons_cons _ (.refl _))))))⟩

theorem Eqv.add {ys rs ys2 rs2 : List GTag} {t : GTag} {b b2 : Bool} {e e2 : Int} (E : Eqv ys rs) (h : addR ys t b e ys2) (h2 : raddR rs t b2 e2 rs2) : b = b2 ∧ e = e2 ∧ Eqv ys2 rs2 := by
  obtain ⟨s, q⟩ := add_srt E.1 h
  rcases q with ⟨a1, a2, a3, a4, _⟩ | ⟨a1, a2, a3, a4⟩
  · rcases h2 with ⟨b1, _⟩ | ⟨_, b1, q⟩
    · exact absurd a1 b1
    · rcases q with ⟨c1, c2, c3⟩ | ⟨c1, c2, c3⟩
      · have hm := (E.2.2 t).2 c1
        refine ⟨?_, by omega, s, by rw [c3]; exact E.2.1, fun u => ?_⟩
        · rw [c2]; cases b with
          | false => rfl
          | true => exact absurd hm (a4.1 rfl)
        · rw [a3, c3, E.2.2]; exact ⟨fun q => q.elim id fun e => e ▸ c1, .inl⟩
      · have hm : ¬ t ∈ ys := fun q => c1 ((E.2.2 t).1 q)
        refine ⟨by rw [c2]; exact a4.2 hm, by omega, s, ?_, fun u => ?_⟩
        · rw [c3, List.nodup_iff_pairwise_ne, List.pairwise_append]
          refine ⟨List.nodup_iff_pairwise_ne.1 E.2.1, by simp, fun x hx y hy q => ?_⟩
          rw [List.mem_singleton] at hy
          exact c1 (hy ▸ q ▸ hx)
        · rw [a3, c3, E.2.2, List.mem_append, List.mem_singleton]
  · rcases h2 with ⟨_, b2, b3, b4⟩ | ⟨b1, _⟩
    · rw [a4, b4]; exact ⟨by rw [a3, b2], by omega, E⟩
    · exact absurd b1 a1
theorem Eqv.cut {ys rs : List GTag} (E : Eqv ys rs) (k : Nat) : Eqv (ys.drop k) (ys.drop k) := by
  have hs : Srt (ys.drop k) := by rw [srt_pw]; exact (srt_pw.1 E.1).sublist (List.drop_sublist _ _)
  exact ⟨hs, srt_nodup hs, fun _ => Iff.rfl⟩
end Go.Proofs.Ytoeholipggkcaaa.K
