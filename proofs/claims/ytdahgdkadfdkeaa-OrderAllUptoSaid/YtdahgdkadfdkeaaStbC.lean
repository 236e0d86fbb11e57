/- The walks of StbC: what each function computes. -/
import Derived.Test.YtdahgdkadfdkeaaProg
import Derived.Test.YtdahgdkadfdkeaaCoreO
import Derived.Test.YtdahgdkadfdkeaaStbB
namespace Go.Proofs.Ytdahgdkadfdkeaa.K
open Go Go.Proofs Go.RowKit
set_option linter.unusedVariables false
set_option linter.unusedSimpArgs false
set_option maxRecDepth 20000
set_option maxHeartbeats 4000000

theorem st_stable (w0 : World) (g sf : FuncId) (c1 c2 s1 s2 : Go.Value) (sa : Option Addr) (sn sc : Nat) (l0 : List Int) (lt R : Int → Int → Prop) (hcm : Cm l0 lt R) (hn0 : l0.length = sn) (hnb : sn ≤ 8796093022207) (L : List Res) (hless : LessOk w0 L g c1 c2 sa sn sc l0 lt) (hswap : SwapOk w0 L sf s1 s2 sa sn sc l0) (hinc : Inc l0) (w : World) (hp0 : Hp w0 Non (Res.own 3 1 (.slice sa sn sc) sn (List.flatMap (fun (y : Int) => [Go.Value.int .i64 y]) l0) :: L) w) :
    Calls Try.prog 123 #[.agg #[.func (.func g) #[] #[c1, c2], .func (.func sf) #[] #[s1, s2]], .int .i64 ((sn : Nat) : Int)] w (fun r_ w' => r_ = .returned (.tuple #[]) ∧ ∃ q, (q.Perm l0 ∧ Up R q 0 sn) ∧ Hp w0 Non (Res.own 3 1 (.slice sa sn sc) sn (List.flatMap (fun (y : Int) => [Go.Value.int .i64 y]) q) :: L) w') := by
  refine calls_of Try.func123 rfl 57 rfl (by simp) ?_
  have he0 : List.map (env0 [.agg #[.func (.func g) #[] #[c1, c2], .func (.func sf) #[] #[s1, s2]], .int .i64 ((sn : Nat) : Int)]) [0, 1] = [.agg #[.func (.func g) #[] #[c1, c2], .func (.func sf) #[] #[s1, s2]], .int .i64 ((sn : Nat) : Int)] := by kernel_rfl
  obtain ⟨b0, he0⟩ := toMk he0
  rw [he0]
  clear he0
  refine WP.seq ?_
  refine WP.region _ rfl (by kernel_rfl) ?_
  refine OPS.cons (opStep.box hp0 [.func (.func g) #[] #[c1, c2], .func (.func sf) #[] #[s1, s2]] (by kernel_rfl) (fun g3 w1 hp2 => ?_))
  refine OPS.nil ?_
  refine thn_n ?_
  refine WP.seq ?_
  refine WP.pure {} [] [1, 2, 4] [.int .i64 ((sn : Nat) : Int), .pointer (some ⟨g3, 0, none⟩), .int .i64 20] .nil (by kernel_rfl) (fun b4 => ?_)
  refine thn_n ?_
  refine WP.seq ?_
  refine WP.pure {} [] [1, 2, 4, 5, 6] [.int .i64 ((sn : Nat) : Int), .pointer (some ⟨g3, 0, none⟩), .int .i64 20, .int .i64 0, .int .i64 20] .nil (by kernel_rfl) (fun b5 => ?_)
  refine thn_n ?_
  refine WP.seq ?_
  refine WP.block ?_
  refine WP.loop (fun mz_ e6 w7 => ∃ (a : Nat) (q : List Int), mz_ = sn - a ∧ (20 ∣ a ∧ a ≤ sn ∧ q.Perm l0 ∧ Ini R l0 q a) ∧ List.map e6 [1, 2, 4, 5, 6] = [.int .i64 ((sn : Nat) : Int), .pointer (some ⟨g3, 0, none⟩), .int .i64 20, .int .i64 ((a : Nat) : Int), .int .i64 ((a + 20 : Nat) : Int)] ∧ Hp w0 Non (Res.own 3 1 (.slice sa sn sc) sn (List.flatMap (fun (y : Int) => [Go.Value.int .i64 y]) q) :: Res.row g3 [.func (.func g) #[] #[c1, c2], .func (.func sf) #[] #[s1, s2]] 164 :: L) w7) (sn - (0)) ⟨0, l0, rfl, ⟨Nat.dvd_zero _, by omega, List.Perm.refl _, ini_start hinc⟩, by kernel_rfl, (((hp2.pull0).pull1).sub (.cons_cons _ (.cons_cons _ (.refl _))))⟩ ?_
  rintro _ e6 w7 ⟨a, q, rfl, hI9, hE10, hp8⟩
  obtain ⟨b11, rfl⟩ := toMk hE10
  clear hE10
  obtain ⟨qa, qb, qc, qd⟩ := hI9
  have hql := qc
  have hqle := qc.length_eq
  have hd20 : 20 ∣ a + 20 := Nat.dvd_add qa (Nat.dvd_refl _)
  refine WP.seq ?_
  refine WP.seq ?_
  refine WP.pure {} [] [1, 2, 4, 5, 6, 11] [.int .i64 ((sn : Nat) : Int), .pointer (some ⟨g3, 0, none⟩), .int .i64 20, .int .i64 ((a : Nat) : Int), .int .i64 ((a + 20 : Nat) : Int), .bool (decide (((a + 20 : Nat) : Int) ≤ ((sn : Nat) : Int)))] .nil (by kernel_rfl) (fun b12 => ?_)
  refine thn_n ?_
  refine WP.test (p := ((a + 20 : Nat) : Int) ≤ ((sn : Nat) : Int)) rfl Bp.dec (fun h13 => ?_) (fun h13 => ?_)
  · refine WP.skip ?_
    refine thn_n ?_
    refine WP.block ?_
    refine WP.seq ?_
    refine WP.region _ rfl (by kernel_rfl) ?_
    refine OPS.batch 3 {} [.agg #[.func (.func g) #[] #[c1, c2], .func (.func sf) #[] #[s1, s2]]] [1, 2, 4, 6, 12, 13, 14] [.int .i64 ((sn : Nat) : Int), .pointer (some ⟨g3, 0, none⟩), .int .i64 20, .int .i64 ((a + 20 : Nat) : Int), .agg #[.func (.func g) #[] #[c1, c2], .func (.func sf) #[] #[s1, s2]], .int .i64 ((a : Nat) : Int), .int .i64 ((a + 20 : Nat) : Int)] (.cons (show Ld Try.prog w7 164 ⟨g3, 0, none⟩ (.agg #[.func (.func g) #[] #[c1, c2], .func (.func sf) #[] #[s1, s2]]) from Ld.rowN (cs := [.func (.func g) #[] #[c1, c2], .func (.func sf) #[] #[s1, s2]]) hp8.get1 (by kernel_rfl)) .nil) (by kernel_rfl) (fun b14 => ?_)
    have hp17 := hp8.pull0
    refine OPS.cons (opStep.call (some 15) [.agg #[.func (.func g) #[] #[c1, c2], .func (.func sf) #[] #[s1, s2]], .int .i64 ((a : Nat) : Int), .int .i64 ((a + 20 : Nat) : Int)] (by kernel_rfl) (st_insert w0 g sf c1 c2 s1 s2 sa sn sc l0 lt R hcm hn0 hnb _ (hless.app _) (hswap.app _) a (a + 20) q (by omega) (by omega) (ini_low qd hinc (by omega)) (show List.Perm q l0 from by first | assumption | exact hql | exact (by assumption : List.Perm q l).trans hp) _ hp17) ?_)
    rintro _ w18 ⟨rfl, q20, hq21, hp19⟩
    refine ⟨_, rfl, ?_⟩
    refine OPS.nil ?_
    refine thn_n ?_
    refine WP.seq ?_
    refine WP.pure {} [] [1, 2, 4, 5, 6] [.int .i64 ((sn : Nat) : Int), .pointer (some ⟨g3, 0, none⟩), .int .i64 20, .int .i64 ((a + 20 : Nat) : Int), .int .i64 ((a + 20 : Nat) : Int)] .nil (by kernel_rfl) (fun b22 => ?_)
    refine thn_n ?_
    refine WP.pure { subs := [19] } [.int .i64 (((a + 20) + 20 : Nat) : Int)] [1, 2, 4, 5, 6] [.int .i64 ((sn : Nat) : Int), .pointer (some ⟨g3, 0, none⟩), .int .i64 20, .int .i64 ((a + 20 : Nat) : Int), .int .i64 (((a + 20) + 20 : Nat) : Int)] (.cons (show Rng .i64 (((a + 20 : Nat) : Int) + 20) from Rng.i64 (by omega)) (.cons (show (.int .i64 (((a + 20 : Nat) : Int) + 20) : Go.Value) = .int .i64 (((a + 20) + 20 : Nat) : Int) from congrArg (Value.int .i64) ((show ((a + 20 : Nat) : Int) + 20 = (((a + 20) + 20 : Nat) : Int) by omega))) .nil)) (by kernel_rfl) (fun b23 => ?_)
    refine blk_n ?_
    refine thn_n ?_
    exact ⟨sn - (a + 20), (by omega), a + 20, q20, rfl, ⟨hd20, by omega, hq21.1.perm.trans qc, ini_step qd qa (by omega) hq21.1 hq21.2⟩, by kernel_rfl, hp19⟩
  · refine WP.exit ?_
    refine thn_x ?_
    refine thn_x ?_
    refine blk_hit ?_
    refine thn_n ?_
    refine WP.seq ?_
    refine WP.region _ rfl (by kernel_rfl) ?_
    refine OPS.batch 3 {} [.agg #[.func (.func g) #[] #[c1, c2], .func (.func sf) #[] #[s1, s2]]] [1, 2, 4, 20, 21, 22] [.int .i64 ((sn : Nat) : Int), .pointer (some ⟨g3, 0, none⟩), .int .i64 20, .agg #[.func (.func g) #[] #[c1, c2], .func (.func sf) #[] #[s1, s2]], .int .i64 ((a : Nat) : Int), .int .i64 ((sn : Nat) : Int)] (.cons (show Ld Try.prog w7 164 ⟨g3, 0, none⟩ (.agg #[.func (.func g) #[] #[c1, c2], .func (.func sf) #[] #[s1, s2]]) from Ld.rowN (cs := [.func (.func g) #[] #[c1, c2], .func (.func sf) #[] #[s1, s2]]) hp8.get1 (by kernel_rfl)) .nil) (by kernel_rfl) (fun b24 => ?_)
    have hp27 := hp8.pull0
    refine OPS.cons (opStep.call (some 23) [.agg #[.func (.func g) #[] #[c1, c2], .func (.func sf) #[] #[s1, s2]], .int .i64 ((a : Nat) : Int), .int .i64 ((sn : Nat) : Int)] (by kernel_rfl) (st_insert w0 g sf c1 c2 s1 s2 sa sn sc l0 lt R hcm hn0 hnb _ (hless.app _) (hswap.app _) a sn q (by omega) (by omega) (ini_low qd hinc (by omega)) (show List.Perm q l0 from by first | assumption | exact hql | exact (by assumption : List.Perm q l).trans hp) _ hp27) ?_)
    rintro _ w28 ⟨rfl, q30, hq31, hp29⟩
    refine ⟨_, rfl, ?_⟩
    refine OPS.nil ?_
    refine thn_n ?_
    refine WP.block ?_
    have hib := ini_blk (ini_step (b := sn) qd qa (by omega) hq31.1 hq31.2) (by rw [hq31.1.len]; omega)
    refine WP.loop (fun mz_ e32 w33 => ∃ (B : Nat) (q2 : List Int), mz_ = sn - B ∧ (0 < B ∧ q2.Perm l0 ∧ Blk R q2 B 0) ∧ List.map e32 [1, 2, 4] = [.int .i64 ((sn : Nat) : Int), .pointer (some ⟨g3, 0, none⟩), .int .i64 ((B : Nat) : Int)] ∧ Hp w0 Non (Res.own 3 1 (.slice sa sn sc) sn (List.flatMap (fun (y : Int) => [Go.Value.int .i64 y]) q2) :: Res.row g3 [.func (.func g) #[] #[c1, c2], .func (.func sf) #[] #[s1, s2]] 164 :: L) w33) (sn - (20)) ⟨20, q30, rfl, ⟨by omega, hq31.1.perm.trans qc, hib⟩, by kernel_rfl, hp29⟩ ?_
    rintro _ e32 w33 ⟨B, q2, rfl, hI35, hE36, hp34⟩
    obtain ⟨b37, rfl⟩ := toMk hE36
    clear hE36
    obtain ⟨ba, bb, bc⟩ := hI35
    have hql := bb
    have hqle2 := bb.length_eq
    refine WP.seq ?_
    refine WP.seq ?_
    refine WP.pure {} [] [1, 2, 4, 26] [.int .i64 ((sn : Nat) : Int), .pointer (some ⟨g3, 0, none⟩), .int .i64 ((B : Nat) : Int), .bool (decide (((B : Nat) : Int) < ((sn : Nat) : Int)))] .nil (by kernel_rfl) (fun b38 => ?_)
    refine thn_n ?_
    refine WP.test (p := ((B : Nat) : Int) < ((sn : Nat) : Int)) rfl Bp.dec (fun h39 => ?_) (fun h39 => ?_)
    · refine WP.skip ?_
      refine thn_n ?_
      refine WP.block ?_
      refine WP.seq ?_
      refine WP.pure { subs := [28] } [.int .i64 ((2 * B : Nat) : Int)] [1, 2, 4, 5, 6] [.int .i64 ((sn : Nat) : Int), .pointer (some ⟨g3, 0, none⟩), .int .i64 ((B : Nat) : Int), .int .i64 0, .int .i64 ((2 * B : Nat) : Int)] (.cons (show Rng .i64 (2 * ((B : Nat) : Int)) from Rng.i64 (by omega)) (.cons (show (.int .i64 (2 * ((B : Nat) : Int)) : Go.Value) = .int .i64 ((2 * B : Nat) : Int) from congrArg (Value.int .i64) ((show 2 * ((B : Nat) : Int) = ((2 * B : Nat) : Int) by omega))) .nil)) (by kernel_rfl) (fun b40 => ?_)
      refine thn_n ?_
      refine WP.seq ?_
      refine WP.block ?_
      refine WP.loop (fun mz_ e41 w42 => ∃ (a : Nat) (b3 : Nat) (q3 : List Int), mz_ = sn + 2 * B - b3 ∧ (2 * B ∣ a ∧ (a ≤ sn ∧ b3 = a + 2 * B) ∧ q3.Perm l0 ∧ Blk R q3 B a ∧ Blk2 R q3 (2 * B) a) ∧ List.map e41 [1, 2, 4, 5, 6] = [.int .i64 ((sn : Nat) : Int), .pointer (some ⟨g3, 0, none⟩), .int .i64 ((B : Nat) : Int), .int .i64 ((a : Nat) : Int), .int .i64 ((b3 : Nat) : Int)] ∧ Hp w0 Non (Res.own 3 1 (.slice sa sn sc) sn (List.flatMap (fun (y : Int) => [Go.Value.int .i64 y]) q3) :: Res.row g3 [.func (.func g) #[] #[c1, c2], .func (.func sf) #[] #[s1, s2]] 164 :: L) w42) (sn + 2 * B - (2 * B)) ⟨0, 2 * B, q2, rfl, ⟨Nat.dvd_zero _, by omega, bb, bc, blk2_start bc⟩, by kernel_rfl, hp34⟩ ?_
      rintro _ e41 w42 ⟨a, b3, q3, rfl, hI44, hE45, hp43⟩
      obtain ⟨b46, rfl⟩ := toMk hE45
      clear hE45
      obtain ⟨ca, cb, cc, cd, ce⟩ := hI44
      have hql := cc
      have hqle3 := cc.length_eq
      have hd2 : 2 * B ∣ a + 2 * B := Nat.dvd_add ca (Nat.dvd_refl _)
      have hbp := fun hm => blk_pre (b := min (a + 2 * B) q3.length) cd ca ba rfl hm
      refine WP.seq ?_
      refine WP.seq ?_
      refine WP.pure {} [] [1, 2, 4, 5, 6, 31] [.int .i64 ((sn : Nat) : Int), .pointer (some ⟨g3, 0, none⟩), .int .i64 ((B : Nat) : Int), .int .i64 ((a : Nat) : Int), .int .i64 ((b3 : Nat) : Int), .bool (decide (((b3 : Nat) : Int) ≤ ((sn : Nat) : Int)))] .nil (by kernel_rfl) (fun b47 => ?_)
      refine thn_n ?_
      refine WP.test (p := ((b3 : Nat) : Int) ≤ ((sn : Nat) : Int)) rfl Bp.dec (fun h48 => ?_) (fun h48 => ?_)
      · refine WP.skip ?_
        refine thn_n ?_
        refine WP.block ?_
        refine WP.seq ?_
        refine WP.region _ rfl (by kernel_rfl) ?_
        refine OPS.batch 6 { subs := [36] } [.agg #[.func (.func g) #[] #[c1, c2], .func (.func sf) #[] #[s1, s2]], .int .i64 ((a + B : Nat) : Int)] [1, 2, 4, 6, 32, 33, 36, 37] [.int .i64 ((sn : Nat) : Int), .pointer (some ⟨g3, 0, none⟩), .int .i64 ((B : Nat) : Int), .int .i64 ((b3 : Nat) : Int), .agg #[.func (.func g) #[] #[c1, c2], .func (.func sf) #[] #[s1, s2]], .int .i64 ((a : Nat) : Int), .int .i64 ((a + B : Nat) : Int), .int .i64 ((b3 : Nat) : Int)] (.cons (show Ld Try.prog w42 164 ⟨g3, 0, none⟩ (.agg #[.func (.func g) #[] #[c1, c2], .func (.func sf) #[] #[s1, s2]]) from Ld.rowN (cs := [.func (.func g) #[] #[c1, c2], .func (.func sf) #[] #[s1, s2]]) hp43.get1 (by kernel_rfl)) (.cons (show Rng .i64 (((a : Nat) : Int) + ((B : Nat) : Int)) from Rng.i64 (by omega)) (.cons (show (.int .i64 (((a : Nat) : Int) + ((B : Nat) : Int)) : Go.Value) = .int .i64 ((a + B : Nat) : Int) from congrArg (Value.int .i64) ((show ((a : Nat) : Int) + ((B : Nat) : Int) = ((a + B : Nat) : Int) by omega))) .nil))) (by kernel_rfl) (fun b49 => ?_)
        have hp52 := hp43.pull0
        refine OPS.cons (opStep.call (some 38) [.agg #[.func (.func g) #[] #[c1, c2], .func (.func sf) #[] #[s1, s2]], .int .i64 ((a : Nat) : Int), .int .i64 ((a + B : Nat) : Int), .int .i64 ((b3 : Nat) : Int)] (by kernel_rfl) (st_sym w0 g sf c1 c2 s1 s2 sa sn sc l0 lt R hcm hn0 hnb _ _ (hless.app _) (hswap.app _) a (a + B) b3 q3 _ rfl (by omega) (by omega) (by omega) (show List.Perm q3 l0 from by first | assumption | exact hql | exact (by assumption : List.Perm q3 l).trans hp) (blk_pre (b := b3) cd ca ba (by omega) (by omega)).1 (blk_pre (b := b3) cd ca ba (by omega) (by omega)).2.1 (blk_pre (b := b3) cd ca ba (by omega) (by omega)).2.2 hp52) ?_)
        rintro _ w53 ⟨rfl, q55, hq56, hp54⟩
        refine ⟨_, rfl, ?_⟩
        refine OPS.nil ?_
        refine thn_n ?_
        refine WP.seq ?_
        refine WP.pure {} [] [1, 2, 4, 5, 6] [.int .i64 ((sn : Nat) : Int), .pointer (some ⟨g3, 0, none⟩), .int .i64 ((B : Nat) : Int), .int .i64 ((b3 : Nat) : Int), .int .i64 ((b3 : Nat) : Int)] .nil (by kernel_rfl) (fun b57 => ?_)
        refine thn_n ?_
        refine WP.pure { subs := [42, 43] } [.int .i64 ((2 * B : Nat) : Int), .int .i64 ((b3 + (2 * B) : Nat) : Int)] [1, 2, 4, 5, 6] [.int .i64 ((sn : Nat) : Int), .pointer (some ⟨g3, 0, none⟩), .int .i64 ((B : Nat) : Int), .int .i64 ((b3 : Nat) : Int), .int .i64 ((b3 + (2 * B) : Nat) : Int)] (.cons (show Rng .i64 (2 * ((B : Nat) : Int)) from Rng.i64 (by omega)) (.cons (show (.int .i64 (2 * ((B : Nat) : Int)) : Go.Value) = .int .i64 ((2 * B : Nat) : Int) from congrArg (Value.int .i64) ((show 2 * ((B : Nat) : Int) = ((2 * B : Nat) : Int) by omega))) (.cons (show Rng .i64 (((b3 : Nat) : Int) + ((2 * B : Nat) : Int)) from Rng.i64 (by omega)) (.cons (show (.int .i64 (((b3 : Nat) : Int) + ((2 * B : Nat) : Int)) : Go.Value) = .int .i64 ((b3 + (2 * B) : Nat) : Int) from congrArg (Value.int .i64) ((show ((b3 : Nat) : Int) + ((2 * B : Nat) : Int) = ((b3 + (2 * B) : Nat) : Int) by omega))) .nil)))) (by kernel_rfl) (fun b58 => ?_)
        refine blk_n ?_
        refine thn_n ?_
        exact ⟨sn + 2 * B - (b3 + (2 * B)), (by omega), b3, b3 + (2 * B), q55, rfl, ⟨by rw [show b3 = a + 2 * B from cb.2]; exact hd2, by omega, hq56.1.perm.trans cc, by rw [show b3 = a + 2 * B from cb.2]; exact (blk_merge cd ce ca ba (by omega) hq56.1 hq56.2).1, by rw [show b3 = a + 2 * B from cb.2]; exact (blk_merge cd ce ca ba (by omega) hq56.1 hq56.2).2⟩, by kernel_rfl, hp54⟩
      · refine WP.exit ?_
        refine thn_x ?_
        refine thn_x ?_
        refine blk_hit ?_
        refine thn_n ?_
        refine WP.seq ?_
        refine WP.seq ?_
        refine WP.pure { subs := [46] } [.int .i64 ((a + B : Nat) : Int)] [1, 2, 4, 5, 7] [.int .i64 ((sn : Nat) : Int), .pointer (some ⟨g3, 0, none⟩), .int .i64 ((B : Nat) : Int), .int .i64 ((a : Nat) : Int), .int .i64 ((a + B : Nat) : Int)] (.cons (show Rng .i64 (((a : Nat) : Int) + ((B : Nat) : Int)) from Rng.i64 (by omega)) (.cons (show (.int .i64 (((a : Nat) : Int) + ((B : Nat) : Int)) : Go.Value) = .int .i64 ((a + B : Nat) : Int) from congrArg (Value.int .i64) ((show ((a : Nat) : Int) + ((B : Nat) : Int) = ((a + B : Nat) : Int) by omega))) .nil)) (by kernel_rfl) (fun b59 => ?_)
        refine thn_n ?_
        refine WP.seq ?_
        refine WP.pure {} [] [1, 2, 4, 5, 7, 49] [.int .i64 ((sn : Nat) : Int), .pointer (some ⟨g3, 0, none⟩), .int .i64 ((B : Nat) : Int), .int .i64 ((a : Nat) : Int), .int .i64 ((a + B : Nat) : Int), .bool (decide (((a + B : Nat) : Int) < ((sn : Nat) : Int)))] .nil (by kernel_rfl) (fun b60 => ?_)
        refine thn_n ?_
        refine WP.test (p := ((a + B : Nat) : Int) < ((sn : Nat) : Int)) rfl Bp.dec (fun h61 => ?_) (fun h61 => ?_)
        · refine WP.region _ rfl (by kernel_rfl) ?_
          refine OPS.batch 4 {} [.agg #[.func (.func g) #[] #[c1, c2], .func (.func sf) #[] #[s1, s2]]] [1, 2, 4, 50, 51, 52, 53] [.int .i64 ((sn : Nat) : Int), .pointer (some ⟨g3, 0, none⟩), .int .i64 ((B : Nat) : Int), .agg #[.func (.func g) #[] #[c1, c2], .func (.func sf) #[] #[s1, s2]], .int .i64 ((a : Nat) : Int), .int .i64 ((a + B : Nat) : Int), .int .i64 ((sn : Nat) : Int)] (.cons (show Ld Try.prog w42 164 ⟨g3, 0, none⟩ (.agg #[.func (.func g) #[] #[c1, c2], .func (.func sf) #[] #[s1, s2]]) from Ld.rowN (cs := [.func (.func g) #[] #[c1, c2], .func (.func sf) #[] #[s1, s2]]) hp43.get1 (by kernel_rfl)) .nil) (by kernel_rfl) (fun b62 => ?_)
          have hp65 := hp43.pull0
          refine OPS.cons (opStep.call (some 54) [.agg #[.func (.func g) #[] #[c1, c2], .func (.func sf) #[] #[s1, s2]], .int .i64 ((a : Nat) : Int), .int .i64 ((a + B : Nat) : Int), .int .i64 ((sn : Nat) : Int)] (by kernel_rfl) (st_sym w0 g sf c1 c2 s1 s2 sa sn sc l0 lt R hcm hn0 hnb _ _ (hless.app _) (hswap.app _) a (a + B) sn q3 _ rfl (by omega) (by omega) (by omega) (show List.Perm q3 l0 from by first | assumption | exact hql | exact (by assumption : List.Perm q3 l).trans hp) (blk_pre (b := sn) cd ca ba (by omega) (by omega)).1 (blk_pre (b := sn) cd ca ba (by omega) (by omega)).2.1 (blk_pre (b := sn) cd ca ba (by omega) (by omega)).2.2 hp65) ?_)
          rintro _ w66 ⟨rfl, q68, hq69, hp67⟩
          refine ⟨_, rfl, ?_⟩
          refine OPS.nil ?_
          refine thn_n ?_
          refine WP.pure { subs := [56] } [.int .i64 ((2 * B : Nat) : Int)] [1, 2, 4] [.int .i64 ((sn : Nat) : Int), .pointer (some ⟨g3, 0, none⟩), .int .i64 ((2 * B : Nat) : Int)] (.cons (show Rng .i64 (((B : Nat) : Int) * 2) from Rng.i64 (by omega)) (.cons (show (.int .i64 (((B : Nat) : Int) * 2) : Go.Value) = .int .i64 ((2 * B : Nat) : Int) from congrArg (Value.int .i64) ((show ((B : Nat) : Int) * 2 = ((2 * B : Nat) : Int) by omega))) .nil)) (by kernel_rfl) (fun b70 => ?_)
          refine blk_n ?_
          refine thn_n ?_
          exact ⟨sn - (2 * B), (by omega), 2 * B, q68, rfl, ⟨by omega, hq69.1.perm.trans cc, blk_all (blk_merge cd ce ca ba (by omega) hq69.1 hq69.2).1 (blk_merge cd ce ca ba (by omega) hq69.1 hq69.2).2 (Nat.dvd_add ca (Nat.dvd_refl _)) ba (by rw [hq69.1.len]; omega)⟩, by kernel_rfl, hp67⟩
        · refine WP.skip ?_
          refine thn_n ?_
          refine WP.pure { subs := [56] } [.int .i64 ((2 * B : Nat) : Int)] [1, 2, 4] [.int .i64 ((sn : Nat) : Int), .pointer (some ⟨g3, 0, none⟩), .int .i64 ((2 * B : Nat) : Int)] (.cons (show Rng .i64 (((B : Nat) : Int) * 2) from Rng.i64 (by omega)) (.cons (show (.int .i64 (((B : Nat) : Int) * 2) : Go.Value) = .int .i64 ((2 * B : Nat) : Int) from congrArg (Value.int .i64) ((show ((B : Nat) : Int) * 2 = ((2 * B : Nat) : Int) by omega))) .nil)) (by kernel_rfl) (fun b71 => ?_)
          refine blk_n ?_
          refine thn_n ?_
          exact ⟨sn - (2 * B), (by omega), 2 * B, q3, rfl, ⟨by omega, cc, blk_all cd ce ca ba (by omega)⟩, by kernel_rfl, hp43⟩
    · refine WP.exit ?_
      refine thn_x ?_
      refine thn_x ?_
      refine blk_hit ?_
      refine bodyQ.ofN ?_
      refine bodyQ.of _ rfl [] trivial ?_
      exact ⟨rfl, _, ⟨bb, by have := blk_one bc (by omega); rwa [hqle2, hn0] at this⟩, (hp34.sub (.cons_cons _ (.cons _ (.refl _))))⟩

end Go.Proofs.Ytdahgdkadfdkeaa.K
