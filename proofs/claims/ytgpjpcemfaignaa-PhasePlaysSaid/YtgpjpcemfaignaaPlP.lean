/- The walks of PlP: what each function computes. -/
import Derived.Test.YtgpjpcemfaignaaProg
import Derived.Test.YtgpjpcemfaignaaCoreO
import Derived.Test.YtgpjpcemfaignaaCoreI
import Derived.Test.YtgpjpcemfaignaaPhP
namespace Go.Proofs.Ytgpjpcemfaignaa.K
open Go Go.Proofs Go.RowKit
set_option linter.unusedVariables false
set_option linter.unusedSimpArgs false
set_option maxRecDepth 20000
set_option maxHeartbeats 4000000

theorem r17_New0 (n : Nat) (K D : Int) (w : World) (hok : okCfg (⟨(n : Int), K, D⟩ : GConfig)) :
    Calls Try.prog 22 #[GConfig.val (⟨(n : Int), K, D⟩ : GConfig)] w (fun r_ w' => ∃ b aC kC aL kL, r_ = .returned (.tuple #[.pointer (some ⟨b, 0, none⟩), .int .i64 0]) ∧ Hp w Non [Res.row b [.int .i64 ((⟨(n : Int), K, D⟩ : GConfig).N), .int .i64 ((⟨(n : Int), K, D⟩ : GConfig).K), .int .i64 ((⟨(n : Int), K, D⟩ : GConfig).Delta), .slice aC ((⟨(n : Int), K, D⟩ : GConfig).N.toNat) kC, .slice aL ((⟨(n : Int), K, D⟩ : GConfig).N.toNat) kL] 95, Res.own 4 1 (.slice aC ((⟨(n : Int), K, D⟩ : GConfig).N.toNat) kC) ((⟨(n : Int), K, D⟩ : GConfig).N.toNat) (List.flatMap (fun (y : Bool) => [Go.Value.bool y]) (List.replicate (⟨(n : Int), K, D⟩ : GConfig).N.toNat false)), Res.own 3 1 (.slice aL ((⟨(n : Int), K, D⟩ : GConfig).N.toNat) kL) ((⟨(n : Int), K, D⟩ : GConfig).N.toNat) (List.flatMap (fun (y : Int) => [Go.Value.int .i64 y]) (List.replicate (⟨(n : Int), K, D⟩ : GConfig).N.toNat (0 : Int)))] w') := by
  have hnn : n ≤ 255 := by have := hok.2.2.1; simp only at this; omega
  refine calls_of Try.func22 rfl 19 rfl (by simp) ?_
  have hp0 := Hp.init w
  have he0 : List.map (env0 [GConfig.val (⟨(n : Int), K, D⟩ : GConfig)]) [0] = [GConfig.val (⟨(n : Int), K, D⟩ : GConfig)] := by kernel_rfl
  obtain ⟨b0, he0⟩ := toMk he0
  rw [he0]
  clear he0
  refine WP.seq ?_
  refine WP.region _ rfl (by kernel_rfl) ?_
  refine OPS.cons (opStep.box hp0 [.int .i64 (n : Int), .int .i64 K, .int .i64 D] (by kernel_rfl) (fun g3 w1 hp2 => ?_))
  refine OPS.batch 2 {} [] [1] [.pointer (some ⟨g3, 0, none⟩)] .nil (by kernel_rfl) (fun b4 => ?_)
  refine OPS.nil ?_
  refine thn_n ?_
  refine WP.seq ?_
  refine WP.region _ rfl (by kernel_rfl) ?_
  refine OPS.batch 1 {} [GConfig.val (⟨(n : Int), K, D⟩ : GConfig)] [1, 5] [.pointer (some ⟨g3, 0, none⟩), GConfig.val (⟨(n : Int), K, D⟩ : GConfig)] (.cons (show Ld Try.prog w1 23 ⟨g3, 0, none⟩ (GConfig.val (⟨(n : Int), K, D⟩ : GConfig)) from Ld.rowN (cs := [.int .i64 (n : Int), .int .i64 K, .int .i64 D]) hp2.get0 (by kernel_rfl)) .nil) (by kernel_rfl) (fun b5 => ?_)
  refine OPS.cons (opStep.call (some 6) [GConfig.val (⟨(n : Int), K, D⟩ : GConfig)] (by kernel_rfl) (r_Check (⟨(n : Int), K, D⟩ : GConfig) _) ?_)
  rintro _ w8 ⟨rfl, hf9⟩
  refine ⟨_, rfl, ?_⟩
  have hp10 := hp2.step hf9
  refine OPS.batch 1 {} [] [1, 4] [.pointer (some ⟨g3, 0, none⟩), .int .i64 (qChk (⟨(n : Int), K, D⟩ : GConfig))] .nil (by kernel_rfl) (fun b11 => ?_)
  refine OPS.nil ?_
  refine thn_n ?_
  refine WP.seq ?_
  refine WP.seq ?_
  refine WP.pure {} [] [1, 4, 8] [.pointer (some ⟨g3, 0, none⟩), .int .i64 (qChk (⟨(n : Int), K, D⟩ : GConfig)), .bool (decide (¬ ((qChk (⟨(n : Int), K, D⟩ : GConfig)) = 0)))] .nil (by kernel_rfl) (fun b12 => ?_)
  refine thn_n ?_
  refine WP.test (p := ¬ ((qChk (⟨(n : Int), K, D⟩ : GConfig)) = 0)) rfl Bp.dec (fun h13 => ?_) (fun h13 => ?_)
  · refine WP.seq ?_
    refine WP.pure {} [] [2, 3] [.pointer none, .int .i64 (qChk (⟨(n : Int), K, D⟩ : GConfig))] .nil (by kernel_rfl) (fun b14 => ?_)
    refine thn_n ?_
    refine WP.ret ?_
    refine thn_r ?_
    refine bodyQ.of _ rfl [.pointer none, .int .i64 (qChk (⟨(n : Int), K, D⟩ : GConfig))] ⟨rfl, rfl, trivial⟩ ?_
    exfalso
    exact h13 (qChk_ok hok)
  · replace h13 := Classical.not_not.1 h13
    refine WP.skip ?_
    refine thn_n ?_
    refine WP.seq ?_
    have hp15 := hp10.drew
    refine WP.tree (fun w16 => Ld Try.prog w16 23 ⟨g3, 0, none⟩ (GConfig.val (⟨(n : Int), K, D⟩ : GConfig)) ∧ Ld Try.prog w16 3 ⟨g3, 0, none⟩ (.int .i64 (n : Int)) ∧ True) [] 11 (np_thn np_body) (by kernel_rfl) ?_
    refine HT.pre (l := [(0, true), (1, true), (2, true), (4, true), (5, true)]) (n := 6) (by kernel_rfl) ?_
    refine HOPS.take 5 {} [GConfig.val (⟨(n : Int), K, D⟩ : GConfig), .int .i64 (n : Int), .int .i64 (n : Int)] [10, 12, 15] [GConfig.val (⟨(n : Int), K, D⟩ : GConfig), .int .i64 (n : Int), .int .i64 (n : Int)] (by kernel_rfl) ⟨(show Ld Try.prog w8.drew 23 ⟨g3, 0, none⟩ (GConfig.val (⟨(n : Int), K, D⟩ : GConfig)) from (show Ld Try.prog w8.drew 23 ⟨g3, 0, none⟩ (GConfig.val (⟨(n : Int), K, D⟩ : GConfig)) from Ld.rowN (cs := [.int .i64 (n : Int), .int .i64 K, .int .i64 D]) hp15.get0 (by kernel_rfl))), (show Ld Try.prog w8.drew 3 ⟨g3, 0, none⟩ (.int .i64 (n : Int)) from (Ld.row1 (P := Try.prog) (t := 3) (o := 0) (v := .int .i64 (n : Int)) hp15.get0 (by kernel_rfl))), trivial⟩ (fun w17 hS18 => QB.mk (.cons (hS18.1) (.cons (hS18.2.1) (.cons (hS18.2.1) .nil))) (by kernel_rfl)) (fun b19 => ?_)
    refine HOPS.nil (QN.n ?_)
    refine HT.br (n := 5) [3, 6] (by kernel_rfl) (by simp) ?_
    refine AllR.cons _ rfl ?_ ?_
    · refine (opStep.makeSlice (f := (fun y => [.bool y])) (E := 4) (sz := 1) (bytes := 1) (n := n) false hp15 (by kernel_rfl) (by decide) (by kernel_rfl) (by omega) (by unfold maxLen; omega) (fun g22 w20 hp21 => ?_))
      refine ⟨.inr ⟨(show Ld Try.prog w20 23 ⟨g3, 0, none⟩ (GConfig.val (⟨(n : Int), K, D⟩ : GConfig)) from (show Ld Try.prog w20 23 ⟨g3, 0, none⟩ (GConfig.val (⟨(n : Int), K, D⟩ : GConfig)) from Ld.rowN (cs := [.int .i64 (n : Int), .int .i64 K, .int .i64 D]) hp21.get1 (by kernel_rfl))), (show Ld Try.prog w20 3 ⟨g3, 0, none⟩ (.int .i64 (n : Int)) from (Ld.row1 (P := Try.prog) (t := 3) (o := 0) (v := .int .i64 (n : Int)) hp21.get1 (by kernel_rfl))), trivial⟩, ?_⟩
      refine HT.br (n := 4) [6] (by kernel_rfl) (by simp) ?_
      refine AllR.cons _ rfl ?_ AllR.nil
      refine (opStep.makeSlice (f := (fun y => [.int .i64 y])) (E := 3) (sz := 1) (bytes := 8) (n := n) (0 : Int) hp21 (by kernel_rfl) (by decide) (by kernel_rfl) (by omega) (by unfold maxLen; omega) (fun g25 w23 hp24 => ?_))
      refine ⟨.inr ⟨(show Ld Try.prog w23 23 ⟨g3, 0, none⟩ (GConfig.val (⟨(n : Int), K, D⟩ : GConfig)) from (show Ld Try.prog w23 23 ⟨g3, 0, none⟩ (GConfig.val (⟨(n : Int), K, D⟩ : GConfig)) from Ld.rowN (cs := [.int .i64 (n : Int), .int .i64 K, .int .i64 D]) hp24.get2 (by kernel_rfl))), (show Ld Try.prog w23 3 ⟨g3, 0, none⟩ (.int .i64 (n : Int)) from (Ld.row1 (P := Try.prog) (t := 3) (o := 0) (v := .int .i64 (n : Int)) hp24.get2 (by kernel_rfl))), trivial⟩, ?_⟩
      refine HT.pre (l := [(7, true)]) (n := 3) (by kernel_rfl) ?_
      refine HOPS.take 1 {} [] [17] [.agg #[.int .i64 (n : Int), .int .i64 K, .int .i64 D, .slice (some ⟨g22, 0, none⟩) n n, .slice (some ⟨g25, 0, none⟩) n n]] (by kernel_rfl) ⟨(show Ld Try.prog w23 23 ⟨g3, 0, none⟩ (GConfig.val (⟨(n : Int), K, D⟩ : GConfig)) from (show Ld Try.prog w23 23 ⟨g3, 0, none⟩ (GConfig.val (⟨(n : Int), K, D⟩ : GConfig)) from Ld.rowN (cs := [.int .i64 (n : Int), .int .i64 K, .int .i64 D]) hp24.get2 (by kernel_rfl))), (show Ld Try.prog w23 3 ⟨g3, 0, none⟩ (.int .i64 (n : Int)) from (Ld.row1 (P := Try.prog) (t := 3) (o := 0) (v := .int .i64 (n : Int)) hp24.get2 (by kernel_rfl))), trivial⟩ (fun w26 hS27 => QB.mk .nil (by kernel_rfl)) (fun b28 => ?_)
      refine HOPS.nil (QN.n ?_)
      refine HT.br (n := 2) [8] (by kernel_rfl) (by simp) ?_
      refine AllR.cons _ rfl ?_ AllR.nil
      refine (opStep.box hp24 [.int .i64 (n : Int), .int .i64 K, .int .i64 D, .slice (some ⟨g22, 0, none⟩) n n, .slice (some ⟨g25, 0, none⟩) n n] (by kernel_rfl) (fun g31 w29 hp30 => ?_))
      refine ⟨.inr ⟨(show Ld Try.prog w29 23 ⟨g3, 0, none⟩ (GConfig.val (⟨(n : Int), K, D⟩ : GConfig)) from (show Ld Try.prog w29 23 ⟨g3, 0, none⟩ (GConfig.val (⟨(n : Int), K, D⟩ : GConfig)) from Ld.rowN (cs := [.int .i64 (n : Int), .int .i64 K, .int .i64 D]) hp30.get3 (by kernel_rfl))), (show Ld Try.prog w29 3 ⟨g3, 0, none⟩ (.int .i64 (n : Int)) from (Ld.row1 (P := Try.prog) (t := 3) (o := 0) (v := .int .i64 (n : Int)) hp30.get3 (by kernel_rfl))), trivial⟩, ?_⟩
      refine HT.pre (l := [(9, true), (10, true)]) (n := 0) (by kernel_rfl) ?_
      refine HOPS.take 2 {} [] [2, 3] [.pointer (some ⟨g31, 0, none⟩), .int .i64 0] (by kernel_rfl) ⟨(show Ld Try.prog w29 23 ⟨g3, 0, none⟩ (GConfig.val (⟨(n : Int), K, D⟩ : GConfig)) from (show Ld Try.prog w29 23 ⟨g3, 0, none⟩ (GConfig.val (⟨(n : Int), K, D⟩ : GConfig)) from Ld.rowN (cs := [.int .i64 (n : Int), .int .i64 K, .int .i64 D]) hp30.get3 (by kernel_rfl))), (show Ld Try.prog w29 3 ⟨g3, 0, none⟩ (.int .i64 (n : Int)) from (Ld.row1 (P := Try.prog) (t := 3) (o := 0) (v := .int .i64 (n : Int)) hp30.get3 (by kernel_rfl))), trivial⟩ (fun w32 hS33 => QB.mk .nil (by kernel_rfl)) (fun b34 => ?_)
      refine HOPS.nil (QN.n ?_)
      refine HT.done (by kernel_rfl) ?_
      refine thn_n ?_
      refine WP.ret ?_
      refine bodyQ.of _ rfl [.pointer (some ⟨g31, 0, none⟩), .int .i64 0] ⟨rfl, rfl, trivial⟩ ?_
      exact ⟨_, _, _, _, _, rfl, ((((hp30.pull1).pull2).pull2).sub (.cons_cons _ (.cons_cons _ (.cons_cons _ (.cons _ (.slnil))))))⟩
    refine AllR.cons _ rfl ?_ AllR.nil
    refine (opStep.makeSlice (f := (fun y => [.int .i64 y])) (E := 3) (sz := 1) (bytes := 8) (n := n) (0 : Int) hp15 (by kernel_rfl) (by decide) (by kernel_rfl) (by omega) (by unfold maxLen; omega) (fun g37 w35 hp36 => ?_))
    refine ⟨.inr ⟨(show Ld Try.prog w35 23 ⟨g3, 0, none⟩ (GConfig.val (⟨(n : Int), K, D⟩ : GConfig)) from (show Ld Try.prog w35 23 ⟨g3, 0, none⟩ (GConfig.val (⟨(n : Int), K, D⟩ : GConfig)) from Ld.rowN (cs := [.int .i64 (n : Int), .int .i64 K, .int .i64 D]) hp36.get1 (by kernel_rfl))), (show Ld Try.prog w35 3 ⟨g3, 0, none⟩ (.int .i64 (n : Int)) from (Ld.row1 (P := Try.prog) (t := 3) (o := 0) (v := .int .i64 (n : Int)) hp36.get1 (by kernel_rfl))), trivial⟩, ?_⟩
    refine HT.br (n := 4) [3] (by kernel_rfl) (by simp) ?_
    refine AllR.cons _ rfl ?_ AllR.nil
    refine (opStep.makeSlice (f := (fun y => [.bool y])) (E := 4) (sz := 1) (bytes := 1) (n := n) false hp36 (by kernel_rfl) (by decide) (by kernel_rfl) (by omega) (by unfold maxLen; omega) (fun g40 w38 hp39 => ?_))
    refine ⟨.inr ⟨(show Ld Try.prog w38 23 ⟨g3, 0, none⟩ (GConfig.val (⟨(n : Int), K, D⟩ : GConfig)) from (show Ld Try.prog w38 23 ⟨g3, 0, none⟩ (GConfig.val (⟨(n : Int), K, D⟩ : GConfig)) from Ld.rowN (cs := [.int .i64 (n : Int), .int .i64 K, .int .i64 D]) hp39.get2 (by kernel_rfl))), (show Ld Try.prog w38 3 ⟨g3, 0, none⟩ (.int .i64 (n : Int)) from (Ld.row1 (P := Try.prog) (t := 3) (o := 0) (v := .int .i64 (n : Int)) hp39.get2 (by kernel_rfl))), trivial⟩, ?_⟩
    refine HT.pre (l := [(7, true)]) (n := 3) (by kernel_rfl) ?_
    refine HOPS.take 1 {} [] [17] [.agg #[.int .i64 (n : Int), .int .i64 K, .int .i64 D, .slice (some ⟨g40, 0, none⟩) n n, .slice (some ⟨g37, 0, none⟩) n n]] (by kernel_rfl) ⟨(show Ld Try.prog w38 23 ⟨g3, 0, none⟩ (GConfig.val (⟨(n : Int), K, D⟩ : GConfig)) from (show Ld Try.prog w38 23 ⟨g3, 0, none⟩ (GConfig.val (⟨(n : Int), K, D⟩ : GConfig)) from Ld.rowN (cs := [.int .i64 (n : Int), .int .i64 K, .int .i64 D]) hp39.get2 (by kernel_rfl))), (show Ld Try.prog w38 3 ⟨g3, 0, none⟩ (.int .i64 (n : Int)) from (Ld.row1 (P := Try.prog) (t := 3) (o := 0) (v := .int .i64 (n : Int)) hp39.get2 (by kernel_rfl))), trivial⟩ (fun w41 hS42 => QB.mk .nil (by kernel_rfl)) (fun b43 => ?_)
    refine HOPS.nil (QN.n ?_)
    refine HT.br (n := 2) [8] (by kernel_rfl) (by simp) ?_
    refine AllR.cons _ rfl ?_ AllR.nil
    refine (opStep.box hp39 [.int .i64 (n : Int), .int .i64 K, .int .i64 D, .slice (some ⟨g40, 0, none⟩) n n, .slice (some ⟨g37, 0, none⟩) n n] (by kernel_rfl) (fun g46 w44 hp45 => ?_))
    refine ⟨.inr ⟨(show Ld Try.prog w44 23 ⟨g3, 0, none⟩ (GConfig.val (⟨(n : Int), K, D⟩ : GConfig)) from (show Ld Try.prog w44 23 ⟨g3, 0, none⟩ (GConfig.val (⟨(n : Int), K, D⟩ : GConfig)) from Ld.rowN (cs := [.int .i64 (n : Int), .int .i64 K, .int .i64 D]) hp45.get3 (by kernel_rfl))), (show Ld Try.prog w44 3 ⟨g3, 0, none⟩ (.int .i64 (n : Int)) from (Ld.row1 (P := Try.prog) (t := 3) (o := 0) (v := .int .i64 (n : Int)) hp45.get3 (by kernel_rfl))), trivial⟩, ?_⟩
    refine HT.pre (l := [(9, true), (10, true)]) (n := 0) (by kernel_rfl) ?_
    refine HOPS.take 2 {} [] [2, 3] [.pointer (some ⟨g46, 0, none⟩), .int .i64 0] (by kernel_rfl) ⟨(show Ld Try.prog w44 23 ⟨g3, 0, none⟩ (GConfig.val (⟨(n : Int), K, D⟩ : GConfig)) from (show Ld Try.prog w44 23 ⟨g3, 0, none⟩ (GConfig.val (⟨(n : Int), K, D⟩ : GConfig)) from Ld.rowN (cs := [.int .i64 (n : Int), .int .i64 K, .int .i64 D]) hp45.get3 (by kernel_rfl))), (show Ld Try.prog w44 3 ⟨g3, 0, none⟩ (.int .i64 (n : Int)) from (Ld.row1 (P := Try.prog) (t := 3) (o := 0) (v := .int .i64 (n : Int)) hp45.get3 (by kernel_rfl))), trivial⟩ (fun w47 hS48 => QB.mk .nil (by kernel_rfl)) (fun b49 => ?_)
    refine HOPS.nil (QN.n ?_)
    refine HT.done (by kernel_rfl) ?_
    refine thn_n ?_
    refine WP.ret ?_
    refine bodyQ.of _ rfl [.pointer (some ⟨g46, 0, none⟩), .int .i64 0] ⟨rfl, rfl, trivial⟩ ?_
    exact ⟨_, _, _, _, _, rfl, (hp45.sub (.cons_cons _ (.cons_cons _ (.cons_cons _ (.cons _ (.slnil))))))⟩

theorem r17_New (c : GConfig) (w : World) (hok : okCfg c) : Calls Try.prog 22 #[GConfig.val c] w (fun r_ w' => ∃ b aC kC aL kL, r_ = .returned (.tuple #[.pointer (some ⟨b, 0, none⟩), .int .i64 0]) ∧ Hp w Non [Res.row b [.int .i64 c.N, .int .i64 c.K, .int .i64 c.Delta, .slice aC c.N.toNat kC, .slice aL c.N.toNat kL] 95, Res.own 4 1 (.slice aC c.N.toNat kC) c.N.toNat (List.flatMap (fun (y : Bool) => [Go.Value.bool y]) (List.replicate c.N.toNat false)), Res.own 3 1 (.slice aL c.N.toNat kL) c.N.toNat (List.flatMap (fun (y : Int) => [Go.Value.int .i64 y]) (List.replicate c.N.toNat (0 : Int)))] w') := by
  have e : (⟨((c.N.toNat : Nat) : Int), c.K, c.Delta⟩ : GConfig) = c := by
    have := hok.1; have := hok.2.1
    cases c; simp only [GConfig.mk.injEq, and_true] at *; omega
  have h := r17_New0 c.N.toNat c.K c.Delta w (by rw [e]; exact hok)
  rw [e] at h
  exact h
theorem r17_New_no (c : GConfig) (w : World) (hno : ¬ okCfg c) :
    Calls Try.prog 22 #[GConfig.val c] w (fun r_ w' => r_ = .returned (.tuple #[.pointer none, .int .i64 40]) ∧ Fram Non w w') := by
  refine calls_of Try.func22 rfl 19 rfl (by simp) ?_
  have hp0 := Hp.init w
  have he0 : List.map (env0 [GConfig.val c]) [0] = [GConfig.val c] := by kernel_rfl
  obtain ⟨b0, he0⟩ := toMk he0
  rw [he0]
  clear he0
  refine WP.seq ?_
  refine WP.region _ rfl (by kernel_rfl) ?_
  refine OPS.cons (opStep.box hp0 [.int .i64 c.N, .int .i64 c.K, .int .i64 c.Delta] (by kernel_rfl) (fun g3 w1 hp2 => ?_))
  refine OPS.batch 2 {} [] [1] [.pointer (some ⟨g3, 0, none⟩)] .nil (by kernel_rfl) (fun b4 => ?_)
  refine OPS.nil ?_
  refine thn_n ?_
  refine WP.seq ?_
  refine WP.region _ rfl (by kernel_rfl) ?_
  refine OPS.batch 1 {} [GConfig.val c] [1, 5] [.pointer (some ⟨g3, 0, none⟩), GConfig.val c] (.cons (show Ld Try.prog w1 23 ⟨g3, 0, none⟩ (GConfig.val c) from Ld.rowN (cs := [.int .i64 c.N, .int .i64 c.K, .int .i64 c.Delta]) hp2.get0 (by kernel_rfl)) .nil) (by kernel_rfl) (fun b5 => ?_)
  refine OPS.cons (opStep.call (some 6) [GConfig.val c] (by kernel_rfl) (r_Check c _) ?_)
  rintro _ w8 ⟨rfl, hf9⟩
  refine ⟨_, rfl, ?_⟩
  have hp10 := hp2.step hf9
  refine OPS.batch 1 {} [] [1, 4] [.pointer (some ⟨g3, 0, none⟩), .int .i64 (qChk c)] .nil (by kernel_rfl) (fun b11 => ?_)
  refine OPS.nil ?_
  refine thn_n ?_
  refine WP.seq ?_
  refine WP.seq ?_
  refine WP.pure {} [] [1, 4, 8] [.pointer (some ⟨g3, 0, none⟩), .int .i64 (qChk c), .bool (decide (¬ ((qChk c) = 0)))] .nil (by kernel_rfl) (fun b12 => ?_)
  refine thn_n ?_
  refine WP.test (p := ¬ ((qChk c) = 0)) rfl Bp.dec (fun h13 => ?_) (fun h13 => ?_)
  · refine WP.seq ?_
    refine WP.pure {} [] [2, 3] [.pointer none, .int .i64 (qChk c)] .nil (by kernel_rfl) (fun b14 => ?_)
    refine thn_n ?_
    refine WP.ret ?_
    refine thn_r ?_
    refine bodyQ.of _ rfl [.pointer none, .int .i64 (qChk c)] ⟨rfl, rfl, trivial⟩ ?_
    exact ⟨by simp only [pack]; rw [qChk_no hno], hp10.fr⟩
  · replace h13 := Classical.not_not.1 h13
    refine WP.skip ?_
    refine thn_n ?_
    refine WP.seq ?_
    exfalso
    rw [qChk_no hno] at h13; exact absurd h13 (by decide)

theorem r17_Answer (w0 : World) (L : List Res) (rb : Nat) (c : GConfig) (aC : Option Addr) (kC : Nat) (aL : Option Addr) (kL : Nat) (cs : List Bool) (ls : List Int) (w : World) (hcl : cs.length = c.N.toNat) (hll : ls.length = c.N.toNat) (s v : Int) (hp0 : Hp w0 Non (Res.row rb [.int .i64 c.N, .int .i64 c.K, .int .i64 c.Delta, .slice aC c.N.toNat kC, .slice aL c.N.toNat kL] 95 :: Res.own 4 1 (.slice aC c.N.toNat kC) c.N.toNat (List.flatMap (fun (y : Bool) => [Go.Value.bool y]) cs) :: Res.own 3 1 (.slice aL c.N.toNat kL) c.N.toNat (List.flatMap (fun (y : Int) => [Go.Value.int .i64 y]) ls) :: L) w) :
    Calls Try.prog 52 #[.pointer (some ⟨rb, 0, none⟩), .int .i64 s, .int .i64 v] w (fun r_ w' => ∃ f_, r_ = .returned (.tuple #[.bool f_, .int .i64 (errP c s)]) ∧ Bp f_ (inP c s ∧ ¬ cs[s.toNat]! = true) ∧ Hp w0 Non (Res.row rb [.int .i64 c.N, .int .i64 c.K, .int .i64 c.Delta, .slice aC c.N.toNat kC, .slice aL c.N.toNat kL] 95 :: Res.own 4 1 (.slice aC c.N.toNat kC) c.N.toNat (List.flatMap (fun (y : Bool) => [Go.Value.bool y]) (ansC c cs s)) :: Res.own 3 1 (.slice aL c.N.toNat kL) c.N.toNat (List.flatMap (fun (y : Int) => [Go.Value.int .i64 y]) (ansI c ls s v)) :: L) w') := by
  refine calls_of Try.func52 rfl 44 rfl (by simp) ?_
  have he0 : List.map (env0 [.pointer (some ⟨rb, 0, none⟩), .int .i64 s, .int .i64 v]) [0, 1, 2] = [.pointer (some ⟨rb, 0, none⟩), .int .i64 s, .int .i64 v] := by kernel_rfl
  obtain ⟨b0, he0⟩ := toMk he0
  rw [he0]
  clear he0
  refine WP.seq ?_
  refine WP.pure {} [] [0, 1, 2] [.pointer (some ⟨rb, 0, none⟩), .int .i64 s, .int .i64 v] .nil (by kernel_rfl) (fun b1 => ?_)
  refine thn_n ?_
  refine WP.seq ?_
  refine WP.seq ?_
  refine WP.pure {} [] [0, 1, 2, 10] [.pointer (some ⟨rb, 0, none⟩), .int .i64 s, .int .i64 v, .bool false] .nil (by kernel_rfl) (fun b2 => ?_)
  refine thn_n ?_
  refine WP.condF rfl ?_
  refine WP.skip ?_
  refine thn_n ?_
  refine WP.seq ?_
  refine WP.cut (fun e12 w13 => ∃ (x10 : Bool), (True) ∧ Bp x10 (((s < 0)) ∨ ((¬ (s < 0)) ∧ (c.N ≤ s))) ∧ List.map e12 [0, 1, 2, 21] = [.pointer (some ⟨rb, 0, none⟩), .int .i64 s, .int .i64 v, .bool x10] ∧ Hp w0 Non (Res.row rb [.int .i64 c.N, .int .i64 c.K, .int .i64 c.Delta, .slice aC c.N.toNat kC, .slice aL c.N.toNat kL] 95 :: Res.own 4 1 (.slice aC c.N.toNat kC) c.N.toNat (List.flatMap (fun (y : Bool) => [Go.Value.bool y]) cs) :: Res.own 3 1 (.slice aL c.N.toNat kL) c.N.toNat (List.flatMap (fun (y : Int) => [Go.Value.int .i64 y]) ls) :: L) w13) ?_ ?_
  · refine WP.region _ rfl (by kernel_rfl) ?_
    refine OPS.batch 3 {} [] [0, 1, 2, 13] [.pointer (some ⟨rb, 0, none⟩), .int .i64 s, .int .i64 v, .bool (decide (s < 0))] .nil (by kernel_rfl) (fun b4 => ?_)
    by_cases h5 : s < 0
    · refine OPS.batch 0 {} [] [0, 1, 2, 13] [.pointer (some ⟨rb, 0, none⟩), .int .i64 s, .int .i64 v, .bool (decide (s < 0))] .nil (by kernel_rfl) (fun b6 => ?_)
      refine OPS.re [.pointer (some ⟨rb, 0, none⟩), .int .i64 s, .int .i64 v, .bool true] (by rw [show (decide (s < 0)) = true from Bp.dec.tt h5]) ?_
      refine OPS.batch 8 { wraps := [21] } [] [0, 1, 2, 21] [.pointer (some ⟨rb, 0, none⟩), .int .i64 s, .int .i64 v, .bool true] .nil (by kernel_rfl) (fun b7 => ?_)
      refine OPS.nil ?_
      refine thn_n ?_
      exact ⟨true, trivial, Bp.of Bp.t (by first | (simp only [h5, iff_false, false_iff, iff_true, true_iff, Classical.not_not, and_true, true_and, and_false, false_and, or_true, true_or, or_false, false_or, not_true_eq_false, not_false_eq_true, and_self, or_self, iff_self]; done) | (simp [h5]; done) | simp_all), by kernel_rfl, hp0⟩
    · refine OPS.batch 0 {} [] [0, 1, 2, 13] [.pointer (some ⟨rb, 0, none⟩), .int .i64 s, .int .i64 v, .bool (decide (s < 0))] .nil (by kernel_rfl) (fun b8 => ?_)
      refine OPS.re [.pointer (some ⟨rb, 0, none⟩), .int .i64 s, .int .i64 v, .bool false] (by rw [show (decide (s < 0)) = false from Bp.dec.ff h5]) ?_
      refine OPS.batch 8 { wraps := [21] } [.int .i64 c.N] [0, 1, 2, 21] [.pointer (some ⟨rb, 0, none⟩), .int .i64 s, .int .i64 v, .bool (decide (c.N ≤ s))] (.cons (Ld.row1 (P := Try.prog) (t := 3) (o := 0) (v := .int .i64 c.N) hp0.get0 (by kernel_rfl)) .nil) (by kernel_rfl) (fun b9 => ?_)
      refine OPS.nil ?_
      refine thn_n ?_
      exact ⟨decide (c.N ≤ s), trivial, Bp.of Bp.dec (by first | (simp only [h5, iff_false, false_iff, iff_true, true_iff, Classical.not_not, and_true, true_and, and_false, false_and, or_true, true_or, or_false, false_or, not_true_eq_false, not_false_eq_true, and_self, or_self, iff_self]; done) | (simp [h5]; done) | simp_all), by kernel_rfl, hp0⟩
  rintro e12 w13 ⟨x10, hd15, hb11, hE16, hp14⟩
  obtain ⟨b17, rfl⟩ := toMk hE16
  clear hE16
  clear hd15
  refine WP.test (p := ((s < 0)) ∨ ((¬ (s < 0)) ∧ (c.N ≤ s))) rfl hb11 (fun h18 => ?_) (fun h18 => ?_)
  · refine WP.seq ?_
    refine WP.pure {} [] [6, 7] [.bool false, .int .i64 51] .nil (by kernel_rfl) (fun b19 => ?_)
    refine thn_n ?_
    refine WP.ret ?_
    refine thn_r ?_
    refine bodyQ.of _ rfl [.bool false, .int .i64 51] ⟨rfl, rfl, trivial⟩ ?_
    have hin_ : ¬ inP c s := by unfold inP; omega
    exact ⟨_, by simp only [pack, errP]; rw [if_neg hin_], Bp.of Bp.f (by simp [hin_]), by unfold ansC ansI; rw [if_neg hin_, if_neg hin_]; exact hp14⟩
  · refine WP.skip ?_
    refine thn_n ?_
    refine WP.seq ?_
    have := own_flat (sz := 1) (fun _ => rfl) (by decide) hp14.get1
    have hy21 : (cs)[(s : Int).toNat]? = some cs[(s : Int).toNat]! := get_bang (by first | (omega) | (simp only [List.length_append, List.length_cons, List.length_nil]; omega) | (simp only [List.length_take, List.length_append, List.length_cons, List.length_nil]; omega))
    refine WP.pure {} [.slice aC c.N.toNat kC, .bool (cs[(s : Int).toNat]!)] [0, 1, 2, 8] [.pointer (some ⟨rb, 0, none⟩), .int .i64 s, .int .i64 v, .bool (!(cs[(s : Int).toNat]!))] (.cons (Ld.row1 (P := Try.prog) (t := 79) (o := 3) (v := .slice aC c.N.toNat kC) hp14.get0 (by kernel_rfl)) (.cons (show InB (s) (c.N.toNat) from ⟨by omega, by omega⟩) (.cons ((SlR.own (hp14.get1)).some (by omega)) (.cons (Ld.add0 (Ld.el1 (P := Try.prog) (t := 4) (SlR.own (hp14.get1)).rd 1 (fun _ => rfl) hy21 (o := 0) (v := .bool (cs[(s : Int).toNat]!)) (by kernel_rfl))) .nil)))) (by kernel_rfl) (fun b22 => ?_)
    refine thn_n ?_
    refine WP.seq ?_
    refine WP.region _ rfl (by kernel_rfl) ?_
    refine OPS.batch 6 {} [.slice aC c.N.toNat kC] [0, 1, 2, 8, 35] [.pointer (some ⟨rb, 0, none⟩), .int .i64 s, .int .i64 v, .bool (!(cs[(s : Int).toNat]!)), .pointer (some ((adr aC).add ((s : Int).toNat * 1)))] (.cons (Ld.row1 (P := Try.prog) (t := 79) (o := 3) (v := .slice aC c.N.toNat kC) hp14.get0 (by kernel_rfl)) (.cons (show InB (s) (c.N.toNat) from ⟨by omega, by omega⟩) (.cons ((SlR.own (hp14.get1)).some (by omega)) .nil))) (by kernel_rfl) (fun b23 => ?_)
    have := own_flat (sz := 1) (fun _ => rfl) (by decide) hp14.get1
    try simp only [List.length_set] at this
    refine OPS.cons (opStep.storeOwn1 ((s : Int).toNat * 1) hp14 rfl [.bool true] (by kernel_rfl) (by simp) (show (s : Int).toNat * 1 + 1 ≤ c.N.toNat * 1 by omega) (fun w24 hp25 => ?_))
    have hp26 := hp25
    rw [show ow (List.flatMap (fun (y : Bool) => [Go.Value.bool y]) cs) ((s : Int).toNat * 1) [.bool true] = List.flatMap (fun (y : Bool) => [Go.Value.bool y]) (cs.set ((s : Int).toNat) true) from ow_flat (sz := 1) (fun _ => rfl) (by first | (omega) | (simp only [List.length_set]; omega)) true] at hp26
    refine OPS.nil ?_
    refine thn_n ?_
    refine WP.seq ?_
    refine WP.region _ rfl (by kernel_rfl) ?_
    refine OPS.batch 7 {} [.slice aL c.N.toNat kL] [8, 41, 42] [.bool (!(cs[(s : Int).toNat]!)), .int .i64 v, .pointer (some ((adr aL).add ((s : Int).toNat * 1)))] (.cons (Ld.row1 (P := Try.prog) (t := 24) (o := 4) (v := .slice aL c.N.toNat kL) hp26.get0 (by kernel_rfl)) (.cons (show InB (s) (c.N.toNat) from ⟨by omega, by omega⟩) (.cons ((SlR.own (hp26.get2)).some (by omega)) .nil))) (by kernel_rfl) (fun b27 => ?_)
    have := own_flat (sz := 1) (fun _ => rfl) (by decide) hp26.get2
    try simp only [List.length_set] at this
    refine OPS.cons (opStep.storeOwn2 ((s : Int).toNat * 1) hp26 rfl [.int .i64 v] (by kernel_rfl) (by simp) (show (s : Int).toNat * 1 + 1 ≤ c.N.toNat * 1 by omega) (fun w28 hp29 => ?_))
    have hp30 := hp29
    rw [show ow (List.flatMap (fun (y : Int) => [Go.Value.int .i64 y]) ls) ((s : Int).toNat * 1) [.int .i64 v] = List.flatMap (fun (y : Int) => [Go.Value.int .i64 y]) (ls.set ((s : Int).toNat) v) from ow_flat (sz := 1) (fun _ => rfl) (by first | (omega) | (simp only [List.length_set]; omega)) v] at hp30
    refine OPS.nil ?_
    refine thn_n ?_
    refine WP.seq ?_
    refine WP.pure {} [] [6, 7] [.bool (!(cs[(s : Int).toNat]!)), .int .i64 0] .nil (by kernel_rfl) (fun b31 => ?_)
    refine thn_n ?_
    refine WP.ret ?_
    refine bodyQ.of _ rfl [.bool (!(cs[(s : Int).toNat]!)), .int .i64 0] ⟨rfl, rfl, trivial⟩ ?_
    have hin_ : inP c s := by unfold inP; omega
    exact ⟨_, by simp only [pack, errP]; rw [if_pos hin_], Bp.of (Bp.not Bp.var) (by simp [hin_]), by unfold ansC ansI; rw [if_pos hin_, if_pos hin_]; exact hp30⟩

theorem r17_Answer_nil (s v : Int) (w : World) :
    Calls Try.prog 52 #[.pointer none, .int .i64 s, .int .i64 v] w (fun r_ w' => r_ = .returned (.tuple #[.bool false, .int .i64 0]) ∧ Fram Non w w') := by
  refine calls_of Try.func52 rfl 44 rfl (by simp) ?_
  have hp0 := Hp.init w
  have he0 : List.map (env0 [.pointer none, .int .i64 s, .int .i64 v]) [0, 1, 2] = [.pointer none, .int .i64 s, .int .i64 v] := by kernel_rfl
  obtain ⟨b0, he0⟩ := toMk he0
  rw [he0]
  clear he0
  refine WP.seq ?_
  refine WP.pure {} [] [0, 1, 2] [.pointer none, .int .i64 s, .int .i64 v] .nil (by kernel_rfl) (fun b1 => ?_)
  refine thn_n ?_
  refine WP.seq ?_
  refine WP.seq ?_
  refine WP.pure {} [] [0, 1, 2, 10] [.pointer none, .int .i64 s, .int .i64 v, .bool true] .nil (by kernel_rfl) (fun b2 => ?_)
  refine thn_n ?_
  refine WP.condT rfl ?_
  refine WP.seq ?_
  refine WP.pure {} [] [6, 7] [.bool false, .int .i64 0] .nil (by kernel_rfl) (fun b3 => ?_)
  refine thn_n ?_
  refine WP.ret ?_
  refine thn_r ?_
  refine bodyQ.of _ rfl [.bool false, .int .i64 0] ⟨rfl, rfl, trivial⟩ ?_
  exact ⟨by rfl, hp0.fr⟩

theorem r17_Servers (w0 : World) (L : List Res) (rb : Nat) (c : GConfig) (aC : Option Addr) (kC : Nat) (aL : Option Addr) (kL : Nat) (cs : List Bool) (ls : List Int) (w : World) (hcl : cs.length = c.N.toNat) (hll : ls.length = c.N.toNat) (bb : Bool) (hN : c.N ≤ 100000) (hp0 : Hp w0 Non (Res.row rb [.int .i64 c.N, .int .i64 c.K, .int .i64 c.Delta, .slice aC c.N.toNat kC, .slice aL c.N.toNat kL] 95 :: Res.own 4 1 (.slice aC c.N.toNat kC) c.N.toNat (List.flatMap (fun (y : Bool) => [Go.Value.bool y]) cs) :: Res.own 3 1 (.slice aL c.N.toNat kL) c.N.toNat (List.flatMap (fun (y : Int) => [Go.Value.int .i64 y]) ls) :: L) w) :
    Calls Try.prog 63 #[.pointer (some ⟨rb, 0, none⟩), .bool bb] w (fun r_ w' => ∃ ao co, r_ = .returned (.slice ao (servQ cs bb).length co) ∧ Hp w0 Non (Res.own 3 1 (.slice ao (servQ cs bb).length co) (servQ cs bb).length (List.flatMap (fun (y : Nat) => [Go.Value.int .i64 (y : Int)]) (servQ cs bb)) :: Res.row rb [.int .i64 c.N, .int .i64 c.K, .int .i64 c.Delta, .slice aC c.N.toNat kC, .slice aL c.N.toNat kL] 95 :: Res.own 4 1 (.slice aC c.N.toNat kC) c.N.toNat (List.flatMap (fun (y : Bool) => [Go.Value.bool y]) cs) :: Res.own 3 1 (.slice aL c.N.toNat kL) c.N.toNat (List.flatMap (fun (y : Int) => [Go.Value.int .i64 y]) ls) :: L) w') := by
  refine calls_of Try.func63 rfl 33 rfl (by simp) ?_
  have he0 : List.map (env0 [.pointer (some ⟨rb, 0, none⟩), .bool bb]) [0, 1] = [.pointer (some ⟨rb, 0, none⟩), .bool bb] := by kernel_rfl
  obtain ⟨b0, he0⟩ := toMk he0
  rw [he0]
  clear he0
  refine WP.seq ?_
  refine WP.pure {} [] [0, 1] [.pointer (some ⟨rb, 0, none⟩), .bool bb] .nil (by kernel_rfl) (fun b1 => ?_)
  refine thn_n ?_
  refine WP.seq ?_
  refine WP.pure {} [] [0, 1, 5] [.pointer (some ⟨rb, 0, none⟩), .bool bb, .slice none 0 0] .nil (by kernel_rfl) (fun b2 => ?_)
  refine thn_n ?_
  refine WP.seq ?_
  refine WP.seq ?_
  refine WP.pure {} [] [0, 1, 5, 8] [.pointer (some ⟨rb, 0, none⟩), .bool bb, .slice none 0 0, .bool false] .nil (by kernel_rfl) (fun b3 => ?_)
  refine thn_n ?_
  refine WP.condF rfl ?_
  refine WP.skip ?_
  refine thn_n ?_
  refine WP.seq ?_
  refine WP.seq ?_
  refine WP.pure {} [.slice aC c.N.toNat kC] [0, 1, 5, 14, 15] [.pointer (some ⟨rb, 0, none⟩), .bool bb, .slice none 0 0, .int .i64 ((c.N.toNat : Nat) : Int), .int .i64 0] (.cons (Ld.row1 (P := Try.prog) (t := 79) (o := 3) (v := .slice aC c.N.toNat kC) hp0.get0 (by kernel_rfl)) .nil) (by kernel_rfl) (fun b4 => ?_)
  refine thn_n ?_
  refine WP.block ?_
  have hp5 := (show Hp w0 Non (Res.own 3 1 (.slice none 0 0) 0 (List.flatMap (fun (y : Nat) => [Go.Value.int .i64 (y : Int)]) ([] : List Nat)) :: Res.row rb [.int .i64 c.N, .int .i64 c.K, .int .i64 c.Delta, .slice aC c.N.toNat kC, .slice aL c.N.toNat kL] 95 :: Res.own 4 1 (.slice aC c.N.toNat kC) c.N.toNat (List.flatMap (fun (y : Bool) => [Go.Value.bool y]) cs) :: Res.own 3 1 (.slice aL c.N.toNat kL) c.N.toNat (List.flatMap (fun (y : Int) => [Go.Value.int .i64 y]) ls) :: L) w from hp0.nilOwn 3 1)
  refine WP.loop (fun mz_ e6 w7 => ∃ (k : Nat) (xs : List Nat) (ao : Option Addr) (no : Nat) (co : Nat), mz_ = c.N.toNat - k ∧ (k ≤ c.N.toNat ∧ xs = servT cs bb k) ∧ List.map e6 [0, 1, 5, 14, 15] = [.pointer (some ⟨rb, 0, none⟩), .bool bb, .slice ao no co, .int .i64 ((c.N.toNat : Nat) : Int), .int .i64 (k : Int)] ∧ Hp w0 Non (Res.own 3 1 (.slice ao no co) no (List.flatMap (fun (y : Nat) => [Go.Value.int .i64 (y : Int)]) xs) :: Res.row rb [.int .i64 c.N, .int .i64 c.K, .int .i64 c.Delta, .slice aC c.N.toNat kC, .slice aL c.N.toNat kL] 95 :: Res.own 4 1 (.slice aC c.N.toNat kC) c.N.toNat (List.flatMap (fun (y : Bool) => [Go.Value.bool y]) cs) :: Res.own 3 1 (.slice aL c.N.toNat kL) c.N.toNat (List.flatMap (fun (y : Int) => [Go.Value.int .i64 y]) ls) :: L) w7) (c.N.toNat - (0)) ⟨0, [], none, 0, 0, rfl, ⟨by omega, rfl⟩, by kernel_rfl, hp5⟩ ?_
  rintro _ e6 w7 ⟨k, xs, ao, no, co, rfl, hI9, hE10, hp8⟩
  obtain ⟨b11, rfl⟩ := toMk hE10
  clear hE10
  obtain ⟨pa, pb⟩ := hI9
  have pe := own_flat (sz := 1) (fun _ => rfl) (by decide) hp8.get0
  have pl := servT_le cs bb k
  rw [← pb] at pl
  refine WP.seq ?_
  refine WP.pure {} [] [0, 1, 5, 14, 15, 16] [.pointer (some ⟨rb, 0, none⟩), .bool bb, .slice ao no co, .int .i64 ((c.N.toNat : Nat) : Int), .int .i64 (k : Int), .bool (decide ((k : Int) < ((c.N.toNat : Nat) : Int)))] .nil (by kernel_rfl) (fun b12 => ?_)
  refine thn_n ?_
  refine WP.seq ?_
  refine WP.test (p := (k : Int) < ((c.N.toNat : Nat) : Int)) rfl Bp.dec (fun h13 => ?_) (fun h13 => ?_)
  · refine WP.skip ?_
    refine thn_n ?_
    refine WP.seq ?_
    refine WP.block ?_
    refine WP.seq ?_
    refine WP.pure {} [] [0, 1, 5, 6, 14, 15] [.pointer (some ⟨rb, 0, none⟩), .bool bb, .slice ao no co, .int .i64 (k : Int), .int .i64 ((c.N.toNat : Nat) : Int), .int .i64 (k : Int)] .nil (by kernel_rfl) (fun b14 => ?_)
    refine thn_n ?_
    refine WP.seq ?_
    have := own_flat (sz := 1) (fun _ => rfl) (by decide) hp8.get2
    have hy16 : (cs)[k]? = some cs[k]! := get_bang (by first | (omega) | (simp only [List.length_append, List.length_cons, List.length_nil]; omega) | (simp only [List.length_take, List.length_append, List.length_cons, List.length_nil]; omega))
    refine WP.pure {} [.slice aC c.N.toNat kC, .bool (cs[k]!)] [0, 1, 5, 6, 14, 15, 26] [.pointer (some ⟨rb, 0, none⟩), .bool bb, .slice ao no co, .int .i64 (k : Int), .int .i64 ((c.N.toNat : Nat) : Int), .int .i64 (k : Int), .bool ((cs[k]!) == bb)] (.cons (Ld.row1 (P := Try.prog) (t := 79) (o := 3) (v := .slice aC c.N.toNat kC) hp8.get1 (by kernel_rfl)) (.cons (show InB ((k : Int)) (c.N.toNat) from ⟨by omega, by omega⟩) (.cons ((SlR.own (hp8.get2)).some (by omega)) (.cons (Ld.add0 (Ld.el1 (P := Try.prog) (t := 4) (SlR.own (hp8.get2)).rd 1 (fun _ => rfl) hy16 (o := 0) (v := .bool (cs[k]!)) (by kernel_rfl))) .nil)))) (by kernel_rfl) (fun b17 => ?_)
    refine thn_n ?_
    refine WP.test (p := (((cs[k]!) = true) ↔ (bb = true))) rfl (Bp.beq Bp.var Bp.var) (fun h18 => ?_) (fun h18 => ?_)
    · refine WP.region _ rfl (by kernel_rfl) ?_
      refine OPS.batch 2 {} [] [0, 1, 14, 15, 27, 28] [.pointer (some ⟨rb, 0, none⟩), .bool bb, .int .i64 ((c.N.toNat : Nat) : Int), .int .i64 (k : Int), .slice ao no co, .int .i64 (k : Int)] .nil (by kernel_rfl) (fun b19 => ?_)
      refine OPS.cons (opStep.buildSlice (E := 3) hp8 [.int .i64 (k : Int)] (by kernel_rfl) (fun g22 w20 hp21 => ?_))
      refine OPS.cons (opStep.append1 [.int .i64 (k : Int)] hp21 8 (by kernel_rfl) rfl rfl rfl (SlR.row (n := 1) hp21.get0 rfl).rd (List.all_eq_true.1 (by kernel_rfl)) (by decide) (by omega) (by omega) (fun a25 c26 w27 hp28 hn29 => ?_))
      rw [(show List.flatMap (fun (y : Nat) => [Go.Value.int .i64 (y : Int)]) xs ++ [.int .i64 (k : Int)] = List.flatMap (fun (y : Nat) => [Go.Value.int .i64 (y : Int)]) (xs ++ [k]) from (List.flatMap_append (xs := xs) (ys := [k])).symm)] at hp28
      refine OPS.batch 1 {} [] [0, 1, 5, 14, 15] [.pointer (some ⟨rb, 0, none⟩), .bool bb, .slice a25 (no + 1) c26, .int .i64 ((c.N.toNat : Nat) : Int), .int .i64 (k : Int)] .nil (by kernel_rfl) (fun b30 => ?_)
      refine OPS.nil ?_
      refine blk_n ?_
      refine thn_n ?_
      refine WP.pure {} [] [0, 1, 5, 14, 15] [.pointer (some ⟨rb, 0, none⟩), .bool bb, .slice a25 (no + 1) c26, .int .i64 ((c.N.toNat : Nat) : Int), .int .i64 ((k : Int) + 1)] (.cons (show Rng .i64 ((k : Int) + 1) from Rng.i64 (by omega)) .nil) (by kernel_rfl) (fun b31 => ?_)
      refine thn_n ?_
      exact ⟨c.N.toNat - (k + 1), (by omega), k + 1, xs ++ [k], a25, no + 1, c26, rfl, ⟨by omega, (servT_succ pb).1 h18⟩, by kernel_rfl, (hp28.sub (.cons _ (.cons_cons _ (.cons_cons _ (.cons_cons _ (.cons_cons _ (.refl _)))))))⟩
    · refine WP.skip ?_
      refine blk_n ?_
      refine thn_n ?_
      refine WP.pure {} [] [0, 1, 5, 14, 15] [.pointer (some ⟨rb, 0, none⟩), .bool bb, .slice ao no co, .int .i64 ((c.N.toNat : Nat) : Int), .int .i64 ((k : Int) + 1)] (.cons (show Rng .i64 ((k : Int) + 1) from Rng.i64 (by omega)) .nil) (by kernel_rfl) (fun b32 => ?_)
      refine thn_n ?_
      exact ⟨c.N.toNat - (k + 1), (by omega), k + 1, xs, ao, no, co, rfl, ⟨by omega, (servT_succ pb).2 h18⟩, by kernel_rfl, hp8⟩
  · refine WP.exit ?_
    refine thn_x ?_
    refine thn_x ?_
    refine blk_hit ?_
    refine thn_n ?_
    refine WP.seq ?_
    refine WP.pure {} [] [4] [.slice ao no co] .nil (by kernel_rfl) (fun b33 => ?_)
    refine thn_n ?_
    refine WP.ret ?_
    refine bodyQ.of _ rfl [.slice ao no co] ⟨rfl, trivial⟩ ?_
    have hkn : k = c.N.toNat := by omega
    rw [hkn] at pb
    have hq : servQ cs bb = xs := by rw [pb]; unfold servQ servT; rw [hcl]
    obtain rfl : no = xs.length := by omega
    rw [hq]
    exact ⟨_, _, rfl, hp8⟩

theorem r17_Servers_nil (bb : Bool) (w : World) :
    Calls Try.prog 63 #[.pointer none, .bool bb] w (fun r_ w' => r_ = .returned (.slice none 0 0) ∧ Fram Non w w') := by
  refine calls_of Try.func63 rfl 33 rfl (by simp) ?_
  have hp0 := Hp.init w
  have he0 : List.map (env0 [.pointer none, .bool bb]) [0, 1] = [.pointer none, .bool bb] := by kernel_rfl
  obtain ⟨b0, he0⟩ := toMk he0
  rw [he0]
  clear he0
  refine WP.seq ?_
  refine WP.pure {} [] [0, 1] [.pointer none, .bool bb] .nil (by kernel_rfl) (fun b1 => ?_)
  refine thn_n ?_
  refine WP.seq ?_
  refine WP.pure {} [] [0, 1, 5] [.pointer none, .bool bb, .slice none 0 0] .nil (by kernel_rfl) (fun b2 => ?_)
  refine thn_n ?_
  refine WP.seq ?_
  refine WP.seq ?_
  refine WP.pure {} [] [0, 1, 5, 8] [.pointer none, .bool bb, .slice none 0 0, .bool true] .nil (by kernel_rfl) (fun b3 => ?_)
  refine thn_n ?_
  refine WP.condT rfl ?_
  refine WP.seq ?_
  refine WP.pure {} [] [4] [.slice none 0 0] .nil (by kernel_rfl) (fun b4 => ?_)
  refine thn_n ?_
  refine WP.ret ?_
  refine thn_r ?_
  refine bodyQ.of _ rfl [.slice none 0 0] ⟨rfl, trivial⟩ ?_
  exact ⟨by rfl, hp0.fr⟩

theorem r17_Met (w0 : World) (L : List Res) (rb : Nat) (c : GConfig) (aC : Option Addr) (kC : Nat) (aL : Option Addr) (kL : Nat) (cs : List Bool) (ls : List Int) (w : World) (hcl : cs.length = c.N.toNat) (hll : ls.length = c.N.toNat) (hN : c.N ≤ 100000) (hp0 : Hp w0 Non (Res.row rb [.int .i64 c.N, .int .i64 c.K, .int .i64 c.Delta, .slice aC c.N.toNat kC, .slice aL c.N.toNat kL] 95 :: Res.own 4 1 (.slice aC c.N.toNat kC) c.N.toNat (List.flatMap (fun (y : Bool) => [Go.Value.bool y]) cs) :: Res.own 3 1 (.slice aL c.N.toNat kL) c.N.toNat (List.flatMap (fun (y : Int) => [Go.Value.int .i64 y]) ls) :: L) w) :
    Calls Try.prog 61 #[.pointer (some ⟨rb, 0, none⟩)] w (fun r_ w' => ∃ f_, r_ = .returned (.bool f_) ∧ Bp f_ (qSize c ≤ (((servQ cs true).length : Nat) : Int)) ∧ Hp w0 Non (Res.row rb [.int .i64 c.N, .int .i64 c.K, .int .i64 c.Delta, .slice aC c.N.toNat kC, .slice aL c.N.toNat kL] 95 :: Res.own 4 1 (.slice aC c.N.toNat kC) c.N.toNat (List.flatMap (fun (y : Bool) => [Go.Value.bool y]) cs) :: Res.own 3 1 (.slice aL c.N.toNat kL) c.N.toNat (List.flatMap (fun (y : Int) => [Go.Value.int .i64 y]) ls) :: L) w') := by
  refine calls_of Try.func61 rfl 20 rfl (by simp) ?_
  have he0 : List.map (env0 [.pointer (some ⟨rb, 0, none⟩)]) [0] = [.pointer (some ⟨rb, 0, none⟩)] := by kernel_rfl
  obtain ⟨b0, he0⟩ := toMk he0
  rw [he0]
  clear he0
  refine WP.seq ?_
  refine WP.pure {} [] [0] [.pointer (some ⟨rb, 0, none⟩)] .nil (by kernel_rfl) (fun b1 => ?_)
  refine thn_n ?_
  refine WP.seq ?_
  refine WP.seq ?_
  refine WP.pure {} [] [0, 6] [.pointer (some ⟨rb, 0, none⟩), .bool false] .nil (by kernel_rfl) (fun b2 => ?_)
  refine thn_n ?_
  refine WP.condF rfl ?_
  refine WP.skip ?_
  refine thn_n ?_
  refine WP.seq ?_
  refine WP.region _ rfl (by kernel_rfl) ?_
  refine OPS.batch 4 {} [.agg #[.int .i64 c.N, .int .i64 c.K, .int .i64 c.Delta]] [0, 11] [.pointer (some ⟨rb, 0, none⟩), .agg #[.int .i64 c.N, .int .i64 c.K, .int .i64 c.Delta]] (.cons (show Ld Try.prog w 23 ⟨rb, 0, none⟩ (.agg #[.int .i64 c.N, .int .i64 c.K, .int .i64 c.Delta]) from Ld.rowN (cs := [.int .i64 c.N, .int .i64 c.K, .int .i64 c.Delta]) hp0.get0 (by kernel_rfl)) .nil) (by kernel_rfl) (fun b3 => ?_)
  refine OPS.cons (opStep.call (some 12) [.agg #[.int .i64 c.N, .int .i64 c.K, .int .i64 c.Delta]] (by kernel_rfl) (r_Size c _) ?_)
  rintro _ w6 ⟨rfl, hf7⟩
  refine ⟨_, rfl, ?_⟩
  have hp8 := hp0.step hf7
  refine OPS.batch 5 {} [] [0, 3] [.pointer (some ⟨rb, 0, none⟩), .int .i64 (qSize c)] .nil (by kernel_rfl) (fun b9 => ?_)
  refine OPS.nil ?_
  refine thn_n ?_
  refine WP.seq ?_
  refine WP.region _ rfl (by kernel_rfl) ?_
  refine OPS.batch 1 {} [] [3, 15] [.int .i64 (qSize c), .pointer (some ⟨rb, 0, none⟩)] .nil (by kernel_rfl) (fun b10 => ?_)
  have hp13 := hp8.pull2
  have hp14 := hp13.pull2
  have hp15 := hp14.pull2
  refine OPS.cons (opStep.call (some 16) [.pointer (some ⟨rb, 0, none⟩), .bool true] (by kernel_rfl) (r17_Servers _ _ _ c _ _ _ _ cs ls _ hcl hll true (by omega) hp15) ?_)
  rintro _ w16 ⟨a18, c19, rfl, hp17⟩
  refine ⟨_, rfl, ?_⟩
  have hp21 := hp17
  rw [show List.flatMap (fun (y : Nat) => [Go.Value.int .i64 (y : Int)]) (servQ cs true) = List.flatMap (fun (y : Int) => [Go.Value.int .i64 y]) ((servQ cs true).map (fun (y : Nat) => (y : Int))) from flat_natI _] at hp21
  refine OPS.batch 4 {} [] [2] [.bool (decide ((qSize c) ≤ (((servQ cs true).length : Nat) : Int)))] .nil (by kernel_rfl) (fun b22 => ?_)
  refine OPS.nil ?_
  refine thn_n ?_
  refine WP.ret ?_
  refine bodyQ.of _ rfl [.bool (decide ((qSize c) ≤ (((servQ cs true).length : Nat) : Int)))] ⟨rfl, trivial⟩ ?_
  exact ⟨_, rfl, Bp.of Bp.dec (by first | rfl | simp_all), (hp21.sub (.cons _ (.cons_cons _ (.cons_cons _ (.cons_cons _ (.refl _))))))⟩

theorem r17_Met_nil (w : World) :
    Calls Try.prog 61 #[.pointer none] w (fun r_ w' => r_ = .returned (.bool false) ∧ Fram Non w w') := by
  refine calls_of Try.func61 rfl 20 rfl (by simp) ?_
  have hp0 := Hp.init w
  have he0 : List.map (env0 [.pointer none]) [0] = [.pointer none] := by kernel_rfl
  obtain ⟨b0, he0⟩ := toMk he0
  rw [he0]
  clear he0
  refine WP.seq ?_
  refine WP.pure {} [] [0] [.pointer none] .nil (by kernel_rfl) (fun b1 => ?_)
  refine thn_n ?_
  refine WP.seq ?_
  refine WP.seq ?_
  refine WP.pure {} [] [0, 6] [.pointer none, .bool true] .nil (by kernel_rfl) (fun b2 => ?_)
  refine thn_n ?_
  refine WP.condT rfl ?_
  refine WP.seq ?_
  refine WP.pure {} [] [2] [.bool false] .nil (by kernel_rfl) (fun b3 => ?_)
  refine thn_n ?_
  refine WP.ret ?_
  refine thn_r ?_
  refine bodyQ.of _ rfl [.bool false] ⟨rfl, trivial⟩ ?_
  exact ⟨by rfl, hp0.fr⟩

theorem r17_Get (w0 : World) (L : List Res) (rb : Nat) (c : GConfig) (aC : Option Addr) (kC : Nat) (aL : Option Addr) (kL : Nat) (cs : List Bool) (ls : List Int) (w : World) (hcl : cs.length = c.N.toNat) (hll : ls.length = c.N.toNat) (s : Int) (hp0 : Hp w0 Non (Res.row rb [.int .i64 c.N, .int .i64 c.K, .int .i64 c.Delta, .slice aC c.N.toNat kC, .slice aL c.N.toNat kL] 95 :: Res.own 4 1 (.slice aC c.N.toNat kC) c.N.toNat (List.flatMap (fun (y : Bool) => [Go.Value.bool y]) cs) :: Res.own 3 1 (.slice aL c.N.toNat kL) c.N.toNat (List.flatMap (fun (y : Int) => [Go.Value.int .i64 y]) ls) :: L) w) :
    Calls Try.prog 54 #[.pointer (some ⟨rb, 0, none⟩), .int .i64 s] w (fun r_ w' => ∃ f_, r_ = .returned (.tuple #[.int .i64 (getI c cs ls s), .bool f_]) ∧ Bp f_ (getC c cs s) ∧ Hp w0 Non (Res.row rb [.int .i64 c.N, .int .i64 c.K, .int .i64 c.Delta, .slice aC c.N.toNat kC, .slice aL c.N.toNat kL] 95 :: Res.own 4 1 (.slice aC c.N.toNat kC) c.N.toNat (List.flatMap (fun (y : Bool) => [Go.Value.bool y]) cs) :: Res.own 3 1 (.slice aL c.N.toNat kL) c.N.toNat (List.flatMap (fun (y : Int) => [Go.Value.int .i64 y]) ls) :: L) w') := by
  refine calls_of Try.func54 rfl 38 rfl (by simp) ?_
  have he0 : List.map (env0 [.pointer (some ⟨rb, 0, none⟩), .int .i64 s]) [0, 1] = [.pointer (some ⟨rb, 0, none⟩), .int .i64 s] := by kernel_rfl
  obtain ⟨b0, he0⟩ := toMk he0
  rw [he0]
  clear he0
  refine WP.seq ?_
  refine WP.pure {} [] [0, 1] [.pointer (some ⟨rb, 0, none⟩), .int .i64 s] .nil (by kernel_rfl) (fun b1 => ?_)
  refine thn_n ?_
  refine WP.seq ?_
  refine WP.cut (fun e18 w19 => ∃ (x16 : Bool), (True) ∧ Bp x16 (((s < 0)) ∨ ((¬ (s < 0)) ∧ (c.N ≤ s)) ∨ ((¬ (s < 0)) ∧ (¬ (c.N ≤ s)) ∧ (¬ ((cs[(s : Int).toNat]!) = true)))) ∧ List.map e18 [0, 1, 30] = [.pointer (some ⟨rb, 0, none⟩), .int .i64 s, .bool x16] ∧ Hp w0 Non (Res.row rb [.int .i64 c.N, .int .i64 c.K, .int .i64 c.Delta, .slice aC c.N.toNat kC, .slice aL c.N.toNat kL] 95 :: Res.own 4 1 (.slice aC c.N.toNat kC) c.N.toNat (List.flatMap (fun (y : Bool) => [Go.Value.bool y]) cs) :: Res.own 3 1 (.slice aL c.N.toNat kL) c.N.toNat (List.flatMap (fun (y : Int) => [Go.Value.int .i64 y]) ls) :: L) w19) ?_ ?_
  · refine WP.region _ rfl (by kernel_rfl) ?_
    refine OPS.batch 7 { wraps := [11] } [] [0, 1, 12] [.pointer (some ⟨rb, 0, none⟩), .int .i64 s, .bool (decide (s < 0))] .nil (by kernel_rfl) (fun b3 => ?_)
    by_cases h4 : s < 0
    · refine OPS.batch 0 {} [] [0, 1, 12] [.pointer (some ⟨rb, 0, none⟩), .int .i64 s, .bool (decide (s < 0))] .nil (by kernel_rfl) (fun b5 => ?_)
      refine OPS.re [.pointer (some ⟨rb, 0, none⟩), .int .i64 s, .bool true] (by rw [show (decide (s < 0)) = true from Bp.dec.tt h4]) ?_
      refine OPS.batch 18 { wraps := [20, 30] } [] [0, 1, 30] [.pointer (some ⟨rb, 0, none⟩), .int .i64 s, .bool true] .nil (by kernel_rfl) (fun b6 => ?_)
      refine OPS.nil ?_
      refine thn_n ?_
      exact ⟨true, trivial, Bp.of Bp.t (by first | (simp only [h4, iff_false, false_iff, iff_true, true_iff, Classical.not_not, and_true, true_and, and_false, false_and, or_true, true_or, or_false, false_or, not_true_eq_false, not_false_eq_true, and_self, or_self, iff_self]; done) | (simp [h4]; done) | simp_all), by kernel_rfl, hp0⟩
    · refine OPS.batch 0 {} [] [0, 1, 12] [.pointer (some ⟨rb, 0, none⟩), .int .i64 s, .bool (decide (s < 0))] .nil (by kernel_rfl) (fun b7 => ?_)
      refine OPS.re [.pointer (some ⟨rb, 0, none⟩), .int .i64 s, .bool false] (by rw [show (decide (s < 0)) = false from Bp.dec.ff h4]) ?_
      refine OPS.batch 9 { wraps := [20] } [.int .i64 c.N] [0, 1, 21] [.pointer (some ⟨rb, 0, none⟩), .int .i64 s, .bool (decide (c.N ≤ s))] (.cons (Ld.row1 (P := Try.prog) (t := 3) (o := 0) (v := .int .i64 c.N) hp0.get0 (by kernel_rfl)) .nil) (by kernel_rfl) (fun b8 => ?_)
      by_cases h9 : c.N ≤ s
      · refine OPS.batch 0 {} [] [0, 1, 21] [.pointer (some ⟨rb, 0, none⟩), .int .i64 s, .bool (decide (c.N ≤ s))] .nil (by kernel_rfl) (fun b10 => ?_)
        refine OPS.re [.pointer (some ⟨rb, 0, none⟩), .int .i64 s, .bool true] (by rw [show (decide (c.N ≤ s)) = true from Bp.dec.tt h9]) ?_
        refine OPS.batch 9 { wraps := [30] } [] [0, 1, 30] [.pointer (some ⟨rb, 0, none⟩), .int .i64 s, .bool true] .nil (by kernel_rfl) (fun b11 => ?_)
        refine OPS.nil ?_
        refine thn_n ?_
        exact ⟨true, trivial, Bp.of Bp.t (by first | (simp only [h4, h9, iff_false, false_iff, iff_true, true_iff, Classical.not_not, and_true, true_and, and_false, false_and, or_true, true_or, or_false, false_or, not_true_eq_false, not_false_eq_true, and_self, or_self, iff_self]; done) | (simp [h4, h9]; done) | simp_all), by kernel_rfl, hp0⟩
      · refine OPS.batch 0 {} [] [0, 1, 21] [.pointer (some ⟨rb, 0, none⟩), .int .i64 s, .bool (decide (c.N ≤ s))] .nil (by kernel_rfl) (fun b12 => ?_)
        refine OPS.re [.pointer (some ⟨rb, 0, none⟩), .int .i64 s, .bool false] (by rw [show (decide (c.N ≤ s)) = false from Bp.dec.ff h9]) ?_
        have := own_flat (sz := 1) (fun _ => rfl) (by decide) hp0.get1
        have hy14 : (cs)[(s : Int).toNat]? = some cs[(s : Int).toNat]! := get_bang (by first | (omega) | (simp only [List.length_append, List.length_cons, List.length_nil]; omega) | (simp only [List.length_take, List.length_append, List.length_cons, List.length_nil]; omega))
        refine OPS.batch 9 { wraps := [30] } [.slice aC c.N.toNat kC, .bool (cs[(s : Int).toNat]!)] [0, 1, 30] [.pointer (some ⟨rb, 0, none⟩), .int .i64 s, .bool (!(cs[(s : Int).toNat]!))] (.cons (Ld.row1 (P := Try.prog) (t := 79) (o := 3) (v := .slice aC c.N.toNat kC) hp0.get0 (by kernel_rfl)) (.cons (show InB (s) (c.N.toNat) from ⟨by omega, by omega⟩) (.cons ((SlR.own (hp0.get1)).some (by omega)) (.cons (Ld.add0 (Ld.el1 (P := Try.prog) (t := 4) (SlR.own (hp0.get1)).rd 1 (fun _ => rfl) hy14 (o := 0) (v := .bool (cs[(s : Int).toNat]!)) (by kernel_rfl))) .nil)))) (by kernel_rfl) (fun b15 => ?_)
        refine OPS.nil ?_
        refine thn_n ?_
        exact ⟨!(cs[(s : Int).toNat]!), trivial, Bp.of (Bp.not Bp.var) (by first | (simp only [h4, h9, iff_false, false_iff, iff_true, true_iff, Classical.not_not, and_true, true_and, and_false, false_and, or_true, true_or, or_false, false_or, not_true_eq_false, not_false_eq_true, and_self, or_self, iff_self]; done) | (simp [h4, h9]; done) | simp_all), by kernel_rfl, hp0⟩
  rintro e18 w19 ⟨x16, hd21, hb17, hE22, hp20⟩
  obtain ⟨b23, rfl⟩ := toMk hE22
  clear hE22
  clear hd21
  refine WP.test (p := ((s < 0)) ∨ ((¬ (s < 0)) ∧ (c.N ≤ s)) ∨ ((¬ (s < 0)) ∧ (¬ (c.N ≤ s)) ∧ (¬ ((cs[(s : Int).toNat]!) = true)))) rfl hb17 (fun h24 => ?_) (fun h24 => ?_)
  · refine WP.seq ?_
    refine WP.pure {} [] [4, 5] [.int .i64 0, .bool false] .nil (by kernel_rfl) (fun b25 => ?_)
    refine thn_n ?_
    refine WP.ret ?_
    refine thn_r ?_
    refine bodyQ.of _ rfl [.int .i64 0, .bool false] ⟨rfl, rfl, trivial⟩ ?_
    have hg_ : ¬ getC c cs s := by unfold getC inP; rintro ⟨⟨h1, h2⟩, h3⟩; first | omega | (simp_all; done) | (simp_all; omega)
    exact ⟨_, by simp only [pack, getI]; rw [if_neg hg_], Bp.of Bp.f (by simp [hg_]), hp20⟩
  · refine WP.skip ?_
    refine thn_n ?_
    refine WP.seq ?_
    have := own_flat (sz := 1) (fun _ => rfl) (by decide) hp20.get2
    have hy27 : (ls)[(s : Int).toNat]? = some ls[(s : Int).toNat]! := get_bang (by first | (omega) | (simp only [List.length_append, List.length_cons, List.length_nil]; omega) | (simp only [List.length_take, List.length_append, List.length_cons, List.length_nil]; omega))
    refine WP.pure {} [.slice aL c.N.toNat kL, .int .i64 (ls[(s : Int).toNat]!)] [4, 5] [.int .i64 (ls[(s : Int).toNat]!), .bool true] (.cons (Ld.row1 (P := Try.prog) (t := 24) (o := 4) (v := .slice aL c.N.toNat kL) hp20.get0 (by kernel_rfl)) (.cons (show InB (s) (c.N.toNat) from ⟨by omega, by omega⟩) (.cons ((SlR.own (hp20.get2)).some (by omega)) (.cons (Ld.add0 (Ld.el1 (P := Try.prog) (t := 3) (SlR.own (hp20.get2)).rd 1 (fun _ => rfl) hy27 (o := 0) (v := .int .i64 (ls[(s : Int).toNat]!)) (by kernel_rfl))) .nil)))) (by kernel_rfl) (fun b28 => ?_)
    refine thn_n ?_
    refine WP.ret ?_
    refine bodyQ.of _ rfl [.int .i64 (ls[(s : Int).toNat]!), .bool true] ⟨rfl, rfl, trivial⟩ ?_
    have hg_ : getC c cs s := by unfold getC inP; exact ⟨⟨by omega, by omega⟩, by simp_all⟩
    exact ⟨_, by simp only [pack, getI]; rw [if_pos hg_], Bp.of Bp.t (by simp [hg_]), hp20⟩

theorem r17_Get_nil (s : Int) (w : World) :
    Calls Try.prog 54 #[.pointer none, .int .i64 s] w (fun r_ w' => r_ = .returned (.tuple #[.int .i64 0, .bool false]) ∧ Fram Non w w') := by
  refine calls_of Try.func54 rfl 38 rfl (by simp) ?_
  have hp0 := Hp.init w
  have he0 : List.map (env0 [.pointer none, .int .i64 s]) [0, 1] = [.pointer none, .int .i64 s] := by kernel_rfl
  obtain ⟨b0, he0⟩ := toMk he0
  rw [he0]
  clear he0
  refine WP.seq ?_
  refine WP.pure {} [] [0, 1] [.pointer none, .int .i64 s] .nil (by kernel_rfl) (fun b1 => ?_)
  refine thn_n ?_
  refine WP.seq ?_
  refine WP.seq ?_
  refine WP.pure { wraps := [11, 20, 30] } [] [0, 1, 30] [.pointer none, .int .i64 s, .bool true] .nil (by kernel_rfl) (fun b2 => ?_)
  refine thn_n ?_
  refine WP.condT rfl ?_
  refine WP.seq ?_
  refine WP.pure {} [] [4, 5] [.int .i64 0, .bool false] .nil (by kernel_rfl) (fun b3 => ?_)
  refine thn_n ?_
  refine WP.ret ?_
  refine thn_r ?_
  refine bodyQ.of _ rfl [.int .i64 0, .bool false] ⟨rfl, rfl, trivial⟩ ?_
  exact ⟨by rfl, hp0.fr⟩

theorem pi_New_no (c : GConfig) (w : World) (hno : ¬ okCfg c) :
    Calls Try.prog 23 #[GConfig.val c] w (fun r_ w' => r_ = .returned (.tuple #[.pointer none, .int .i64 40]) ∧ Fram Non w w') := by
  refine calls_of Try.func23 rfl 14 rfl (by simp) ?_
  have hp0 := Hp.init w
  have he0 : List.map (env0 [GConfig.val c]) [0] = [GConfig.val c] := by kernel_rfl
  obtain ⟨b0, he0⟩ := toMk he0
  rw [he0]
  clear he0
  refine WP.seq ?_
  refine WP.region _ rfl (by kernel_rfl) ?_
  refine OPS.cons (opStep.box hp0 [.int .i64 c.N, .int .i64 c.K, .int .i64 c.Delta] (by kernel_rfl) (fun g3 w1 hp2 => ?_))
  refine OPS.batch 2 {} [] [1] [.pointer (some ⟨g3, 0, none⟩)] .nil (by kernel_rfl) (fun b4 => ?_)
  refine OPS.nil ?_
  refine thn_n ?_
  refine WP.seq ?_
  refine WP.seq ?_
  refine WP.region _ rfl (by kernel_rfl) ?_
  refine OPS.batch 1 {} [GConfig.val c] [1, 5] [.pointer (some ⟨g3, 0, none⟩), GConfig.val c] (.cons (show Ld Try.prog w1 23 ⟨g3, 0, none⟩ (GConfig.val c) from Ld.rowN (cs := [.int .i64 c.N, .int .i64 c.K, .int .i64 c.Delta]) hp2.get0 (by kernel_rfl)) .nil) (by kernel_rfl) (fun b5 => ?_)
  refine OPS.cons (opStep.call (some 6) [GConfig.val c] (by kernel_rfl) (q_Check c _) ?_)
  rintro _ w8 ⟨rfl, hf9⟩
  refine ⟨_, rfl, ?_⟩
  have hp10 := hp2.step hf9
  refine OPS.batch 1 {} [] [1, 4] [.pointer (some ⟨g3, 0, none⟩), .int .i64 (qChk c)] .nil (by kernel_rfl) (fun b11 => ?_)
  refine OPS.nil ?_
  refine thn_n ?_
  refine WP.seq ?_
  refine WP.pure {} [] [1, 4, 8] [.pointer (some ⟨g3, 0, none⟩), .int .i64 (qChk c), .bool (decide (¬ ((qChk c) = 0)))] .nil (by kernel_rfl) (fun b12 => ?_)
  refine thn_n ?_
  refine WP.test (p := ¬ ((qChk c) = 0)) rfl Bp.dec (fun h13 => ?_) (fun h13 => ?_)
  · refine WP.seq ?_
    refine WP.pure {} [] [2, 3] [.pointer none, .int .i64 (qChk c)] .nil (by kernel_rfl) (fun b14 => ?_)
    refine thn_n ?_
    refine WP.ret ?_
    refine thn_r ?_
    refine bodyQ.of _ rfl [.pointer none, .int .i64 (qChk c)] ⟨rfl, rfl, trivial⟩ ?_
    exact ⟨by simp only [pack]; rw [qChk_no hno], hp10.fr⟩
  · replace h13 := Classical.not_not.1 h13
    refine WP.skip ?_
    refine thn_n ?_
    refine WP.seq ?_
    exfalso
    rw [qChk_no hno] at h13; exact absurd h13 (by decide)

theorem pi_Answer_nil (s v : Int) (w : World) :
    Calls Try.prog 53 #[.pointer none, .int .i64 s, .int .i64 v] w (fun r_ w' => r_ = .returned (.tuple #[.bool false, .int .i64 0]) ∧ Fram Non w w') := by
  refine calls_of Try.func53 rfl 40 rfl (by simp) ?_
  have hp0 := Hp.init w
  have he0 : List.map (env0 [.pointer none, .int .i64 s, .int .i64 v]) [0, 1, 2] = [.pointer none, .int .i64 s, .int .i64 v] := by kernel_rfl
  obtain ⟨b0, he0⟩ := toMk he0
  rw [he0]
  clear he0
  refine WP.seq ?_
  refine WP.pure {} [] [0, 1, 2] [.pointer none, .int .i64 s, .int .i64 v] .nil (by kernel_rfl) (fun b1 => ?_)
  refine thn_n ?_
  refine WP.seq ?_
  refine WP.seq ?_
  refine WP.pure {} [] [0, 1, 2, 11] [.pointer none, .int .i64 s, .int .i64 v, .bool true] .nil (by kernel_rfl) (fun b2 => ?_)
  refine thn_n ?_
  refine WP.condT rfl ?_
  refine WP.seq ?_
  refine WP.pure {} [] [6, 7] [.bool false, .int .i64 0] .nil (by kernel_rfl) (fun b3 => ?_)
  refine thn_n ?_
  refine WP.ret ?_
  refine thn_r ?_
  refine bodyQ.of _ rfl [.bool false, .int .i64 0] ⟨rfl, rfl, trivial⟩ ?_
  exact ⟨by rfl, hp0.fr⟩

theorem pi_Met_nil  (w : World) :
    Calls Try.prog 60 #[.pointer none] w (fun r_ w' => r_ = .returned (.bool false) ∧ Fram Non w w') := by
  refine calls_of Try.func60 rfl 22 rfl (by simp) ?_
  have hp0 := Hp.init w
  have he0 : List.map (env0 [.pointer none]) [0] = [.pointer none] := by kernel_rfl
  obtain ⟨b0, he0⟩ := toMk he0
  rw [he0]
  clear he0
  refine WP.seq ?_
  refine WP.pure {} [] [0] [.pointer none] .nil (by kernel_rfl) (fun b1 => ?_)
  refine thn_n ?_
  refine WP.seq ?_
  refine WP.seq ?_
  refine WP.pure {} [] [0, 6] [.pointer none, .bool true] .nil (by kernel_rfl) (fun b2 => ?_)
  refine thn_n ?_
  refine WP.condT rfl ?_
  refine WP.seq ?_
  refine WP.pure {} [] [2] [.bool false] .nil (by kernel_rfl) (fun b3 => ?_)
  refine thn_n ?_
  refine WP.ret ?_
  refine thn_r ?_
  refine bodyQ.of _ rfl [.bool false] ⟨rfl, trivial⟩ ?_
  exact ⟨by rfl, hp0.fr⟩

theorem pi_Len_nil  (w : World) :
    Calls Try.prog 62 #[.pointer none] w (fun r_ w' => r_ = .returned (.int .i64 0) ∧ Fram Non w w') := by
  refine calls_of Try.func62 rfl 10 rfl (by simp) ?_
  have hp0 := Hp.init w
  have he0 : List.map (env0 [.pointer none]) [0] = [.pointer none] := by kernel_rfl
  obtain ⟨b0, he0⟩ := toMk he0
  rw [he0]
  clear he0
  refine WP.seq ?_
  refine WP.pure {} [] [0] [.pointer none] .nil (by kernel_rfl) (fun b1 => ?_)
  refine thn_n ?_
  refine WP.seq ?_
  refine WP.seq ?_
  refine WP.pure {} [] [0, 4] [.pointer none, .bool true] .nil (by kernel_rfl) (fun b2 => ?_)
  refine thn_n ?_
  refine WP.condT rfl ?_
  refine WP.seq ?_
  refine WP.pure {} [] [2] [.int .i64 0] .nil (by kernel_rfl) (fun b3 => ?_)
  refine thn_n ?_
  refine WP.ret ?_
  refine thn_r ?_
  refine bodyQ.of _ rfl [.int .i64 0] ⟨rfl, trivial⟩ ?_
  exact ⟨by rfl, hp0.fr⟩

theorem pi_Get_nil (s : Int) (w : World) :
    Calls Try.prog 55 #[.pointer none, .int .i64 s] w (fun r_ w' => r_ = .returned (.tuple #[.int .i64 0, .bool false]) ∧ Fram Non w w') := by
  refine calls_of Try.func55 rfl 23 rfl (by simp) ?_
  have hp0 := Hp.init w
  have he0 : List.map (env0 [.pointer none, .int .i64 s]) [0, 1] = [.pointer none, .int .i64 s] := by kernel_rfl
  obtain ⟨b0, he0⟩ := toMk he0
  rw [he0]
  clear he0
  refine WP.seq ?_
  refine WP.pure {} [] [0, 1] [.pointer none, .int .i64 s] .nil (by kernel_rfl) (fun b1 => ?_)
  refine thn_n ?_
  refine WP.seq ?_
  refine WP.pure {} [] [0, 1, 6] [.pointer none, .int .i64 s, .int .i64 0] .nil (by kernel_rfl) (fun b2 => ?_)
  refine thn_n ?_
  refine WP.seq ?_
  refine WP.seq ?_
  refine WP.pure {} [] [0, 1, 6, 10] [.pointer none, .int .i64 s, .int .i64 0, .bool true] .nil (by kernel_rfl) (fun b3 => ?_)
  refine thn_n ?_
  refine WP.condT rfl ?_
  refine WP.seq ?_
  refine WP.pure {} [] [4, 5] [.int .i64 0, .bool false] .nil (by kernel_rfl) (fun b4 => ?_)
  refine thn_n ?_
  refine WP.ret ?_
  refine thn_r ?_
  refine bodyQ.of _ rfl [.int .i64 0, .bool false] ⟨rfl, rfl, trivial⟩ ?_
  exact ⟨by rfl, hp0.fr⟩

theorem pi_Missing_nil  (w : World) :
    Calls Try.prog 59 #[.pointer none] w (fun r_ w' => r_ = .returned (.slice none 0 0) ∧ Fram Non w w') := by
  refine calls_of Try.func59 rfl 34 rfl (by simp) ?_
  have hp0 := Hp.init w
  have he0 : List.map (env0 [.pointer none]) [0] = [.pointer none] := by kernel_rfl
  obtain ⟨b0, he0⟩ := toMk he0
  rw [he0]
  clear he0
  refine WP.seq ?_
  refine WP.pure {} [] [0] [.pointer none] .nil (by kernel_rfl) (fun b1 => ?_)
  refine thn_n ?_
  refine WP.seq ?_
  refine WP.pure {} [] [0, 3] [.pointer none, .slice none 0 0] .nil (by kernel_rfl) (fun b2 => ?_)
  refine thn_n ?_
  refine WP.seq ?_
  refine WP.seq ?_
  refine WP.pure {} [] [0, 3, 8] [.pointer none, .slice none 0 0, .bool true] .nil (by kernel_rfl) (fun b3 => ?_)
  refine thn_n ?_
  refine WP.condT rfl ?_
  refine WP.seq ?_
  refine WP.pure {} [] [2] [.slice none 0 0] .nil (by kernel_rfl) (fun b4 => ?_)
  refine thn_n ?_
  refine WP.ret ?_
  refine thn_r ?_
  refine bodyQ.of _ rfl [.slice none 0 0] ⟨rfl, trivial⟩ ?_
  exact ⟨by rfl, hp0.fr⟩

end Go.Proofs.Ytgpjpcemfaignaa.K
