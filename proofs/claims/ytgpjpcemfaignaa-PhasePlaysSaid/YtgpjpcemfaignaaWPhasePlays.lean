/- The walks of WPhasePlays: what each function computes. -/
import Derived.Test.YtgpjpcemfaignaaProg
import Derived.Test.YtgpjpcemfaignaaCoreO
import Derived.Test.YtgpjpcemfaignaaCoreW
import Derived.Test.YtgpjpcemfaignaaPlY
import Derived.Test.YtgpjpcemfaignaaOpen
import Derived.Test.YtgpjpcemfaignaaCoreQ
namespace Go.Proofs.Ytgpjpcemfaignaa.K
open Go Go.Proofs Go.RowKit
set_option linter.unusedVariables false
set_option linter.unusedSimpArgs false
set_option maxRecDepth 20000
set_option maxHeartbeats 4000000

theorem Hp.pull12 {w w0 : World} {M : Nat → Prop} {a0 a1 a2 a3 a4 a5 a6 a7 a8 a9 a10 a11 s : Res} {B : List Res} (h : Hp w0 M (a0 :: a1 :: a2 :: a3 :: a4 :: a5 :: a6 :: a7 :: a8 :: a9 :: a10 :: a11 :: s :: B) w) : Hp w0 M (s :: a0 :: a1 :: a2 :: a3 :: a4 :: a5 :: a6 :: a7 :: a8 :: a9 :: a10 :: a11 :: B) w := Hp.pull (A := [a0, a1, a2, a3, a4, a5, a6, a7, a8, a9, a10, a11]) h
theorem Hp.pull13 {w w0 : World} {M : Nat → Prop} {a0 a1 a2 a3 a4 a5 a6 a7 a8 a9 a10 a11 a12 s : Res} {B : List Res} (h : Hp w0 M (a0 :: a1 :: a2 :: a3 :: a4 :: a5 :: a6 :: a7 :: a8 :: a9 :: a10 :: a11 :: a12 :: s :: B) w) : Hp w0 M (s :: a0 :: a1 :: a2 :: a3 :: a4 :: a5 :: a6 :: a7 :: a8 :: a9 :: a10 :: a11 :: a12 :: B) w := Hp.pull (A := [a0, a1, a2, a3, a4, a5, a6, a7, a8, a9, a10, a11, a12]) h
theorem Hp.pull14 {w w0 : World} {M : Nat → Prop} {a0 a1 a2 a3 a4 a5 a6 a7 a8 a9 a10 a11 a12 a13 s : Res} {B : List Res} (h : Hp w0 M (a0 :: a1 :: a2 :: a3 :: a4 :: a5 :: a6 :: a7 :: a8 :: a9 :: a10 :: a11 :: a12 :: a13 :: s :: B) w) : Hp w0 M (s :: a0 :: a1 :: a2 :: a3 :: a4 :: a5 :: a6 :: a7 :: a8 :: a9 :: a10 :: a11 :: a12 :: a13 :: B) w := Hp.pull (A := [a0, a1, a2, a3, a4, a5, a6, a7, a8, a9, a10, a11, a12, a13]) h
theorem Hp.pull15 {w w0 : World} {M : Nat → Prop} {a0 a1 a2 a3 a4 a5 a6 a7 a8 a9 a10 a11 a12 a13 a14 s : Res} {B : List Res} (h : Hp w0 M (a0 :: a1 :: a2 :: a3 :: a4 :: a5 :: a6 :: a7 :: a8 :: a9 :: a10 :: a11 :: a12 :: a13 :: a14 :: s :: B) w) : Hp w0 M (s :: a0 :: a1 :: a2 :: a3 :: a4 :: a5 :: a6 :: a7 :: a8 :: a9 :: a10 :: a11 :: a12 :: a13 :: a14 :: B) w := Hp.pull (A := [a0, a1, a2, a3, a4, a5, a6, a7, a8, a9, a10, a11, a12, a13, a14]) h
theorem Hp.pull16 {w w0 : World} {M : Nat → Prop} {a0 a1 a2 a3 a4 a5 a6 a7 a8 a9 a10 a11 a12 a13 a14 a15 s : Res} {B : List Res} (h : Hp w0 M (a0 :: a1 :: a2 :: a3 :: a4 :: a5 :: a6 :: a7 :: a8 :: a9 :: a10 :: a11 :: a12 :: a13 :: a14 :: a15 :: s :: B) w) : Hp w0 M (s :: a0 :: a1 :: a2 :: a3 :: a4 :: a5 :: a6 :: a7 :: a8 :: a9 :: a10 :: a11 :: a12 :: a13 :: a14 :: a15 :: B) w := Hp.pull (A := [a0, a1, a2, a3, a4, a5, a6, a7, a8, a9, a10, a11, a12, a13, a14, a15]) h
theorem Hp.pull17 {w w0 : World} {M : Nat → Prop} {a0 a1 a2 a3 a4 a5 a6 a7 a8 a9 a10 a11 a12 a13 a14 a15 a16 s : Res} {B : List Res} (h : Hp w0 M (a0 :: a1 :: a2 :: a3 :: a4 :: a5 :: a6 :: a7 :: a8 :: a9 :: a10 :: a11 :: a12 :: a13 :: a14 :: a15 :: a16 :: s :: B) w) : Hp w0 M (s :: a0 :: a1 :: a2 :: a3 :: a4 :: a5 :: a6 :: a7 :: a8 :: a9 :: a10 :: a11 :: a12 :: a13 :: a14 :: a15 :: a16 :: B) w := Hp.pull (A := [a0, a1, a2, a3, a4, a5, a6, a7, a8, a9, a10, a11, a12, a13, a14, a15, a16]) h
theorem two_of (x : Int) : (x.tmod 2 + 2).tmod 2 = 0 ∨ (x.tmod 2 + 2).tmod 2 = 1 := by
  have h1 := Int.lt_tmod_of_pos x (show (0 : Int) < 2 by omega)
  have q1 := Int.tmod_nonneg (a := x.tmod 2 + 2) 2 (by omega)
  have q2 := Int.tmod_lt_of_pos (x.tmod 2 + 2) (show (0 : Int) < 2 by omega)
  omega
theorem PhasePlays {okp : Gsherdlaw17_Op → Prop} (BN : Nat) (hBN : BN ≤ 17592186043904) (one other : GConfig) (w : World) (s1 : SlH) (l1 : List Gsherdlaw17_Op) (o1 : SlD w (α := Gsherdlaw17_Op) Gsherdlaw17_Op.cells okp BN s1 l1) :
    Calls Try.prog 4 #[GConfig.val one, GConfig.val other, .slice s1.a s1.n s1.c] w (fun x w' => x = .returned (.bool true) ∧ Fram Non w w') := by
  have hn1 := o1.len
  have hc1 := o1.cap
  have hd1 := o1.bnd
  refine calls_of Try.func4 rfl 97 rfl (by simp) ?_
  have hp0 := Hp.init w
  have he0 : List.map (env0 [GConfig.val one, GConfig.val other, .slice s1.a s1.n s1.c]) [0, 1, 2] = [GConfig.val one, GConfig.val other, .slice s1.a s1.n s1.c] := by kernel_rfl
  obtain ⟨b0, he0⟩ := toMk he0
  rw [he0]
  clear he0
  refine WP.seq ?_
  refine WP.region _ rfl (by kernel_rfl) ?_
  refine OPS.cons (opStep.box hp0 [.int .i64 one.N, .int .i64 one.K, .int .i64 one.Delta] (by kernel_rfl) (fun g3 w1 hp2 => ?_))
  refine OPS.cons (opStep.box hp2 [.int .i64 other.N, .int .i64 other.K, .int .i64 other.Delta] (by kernel_rfl) (fun g6 w4 hp5 => ?_))
  refine OPS.batch 1 {} [] [2, 3, 4] [.slice s1.a s1.n s1.c, .pointer (some ⟨g3, 0, none⟩), .pointer (some ⟨g6, 0, none⟩)] .nil (by kernel_rfl) (fun b7 => ?_)
  refine OPS.nil ?_
  refine thn_n ?_
  refine WP.seq ?_
  refine WP.region _ rfl (by kernel_rfl) ?_
  refine OPS.cons (opStep.alloc hp5 [.pointer none, .pointer none] (by kernel_rfl) (fun g10 w8 hp9 => ?_))
  refine OPS.nil ?_
  refine thn_n ?_
  refine WP.seq ?_
  refine WP.region _ rfl (by kernel_rfl) ?_
  refine OPS.cons (opStep.alloc hp9 [.pointer none, .pointer none] (by kernel_rfl) (fun g13 w11 hp12 => ?_))
  refine OPS.nil ?_
  refine thn_n ?_
  refine WP.seq ?_
  refine WP.seq ?_
  refine WP.region _ rfl (by kernel_rfl) ?_
  refine OPS.batch 2 {} [GConfig.val one, GConfig.val other] [2, 7, 8, 18, 19] [.slice s1.a s1.n s1.c, .pointer (some ⟨g10, 0, none⟩), .pointer (some ⟨g13, 0, none⟩), GConfig.val one, GConfig.val other] (.cons (show Ld Try.prog w11 23 ⟨g3, 0, none⟩ (GConfig.val one) from Ld.rowN (cs := [.int .i64 one.N, .int .i64 one.K, .int .i64 one.Delta]) hp12.get3 (by kernel_rfl)) (.cons (show Ld Try.prog w11 23 ⟨g6, 0, none⟩ (GConfig.val other) from Ld.rowN (cs := [.int .i64 other.N, .int .i64 other.K, .int .i64 other.Delta]) hp12.get2 (by kernel_rfl)) .nil)) (by kernel_rfl) (fun b14 => ?_)
  refine OPS.cons (opStep.buildSlice (E := 23) hp12 [.int .i64 one.N, .int .i64 one.K, .int .i64 one.Delta, .int .i64 other.N, .int .i64 other.K, .int .i64 other.Delta] (by kernel_rfl) (fun g17 w15 hp16 => ?_))
  refine OPS.batch 2 {} [] [2, 7, 8, 20, 21, 22] [.slice s1.a s1.n s1.c, .pointer (some ⟨g10, 0, none⟩), .pointer (some ⟨g13, 0, none⟩), .slice (some ⟨g17, 0, none⟩) 2 2, .int .i64 2, .int .i64 0] .nil (by kernel_rfl) (fun b18 => ?_)
  refine OPS.nil ?_
  refine thn_n ?_
  refine WP.block ?_
  refine WP.rounds 3 ?_
  refine RND.step ?_
  refine WP.seq ?_
  refine WP.pure {} [] [2, 7, 8, 20, 21, 22, 23] [.slice s1.a s1.n s1.c, .pointer (some ⟨g10, 0, none⟩), .pointer (some ⟨g13, 0, none⟩), .slice (some ⟨g17, 0, none⟩) 2 2, .int .i64 2, .int .i64 0, .bool true] .nil (by kernel_rfl) (fun b19 => ?_)
  refine thn_n ?_
  refine WP.seq ?_
  refine WP.condT rfl ?_
  refine WP.skip ?_
  refine thn_n ?_
  refine WP.seq ?_
  refine WP.block ?_
  refine WP.seq ?_
  refine WP.region _ rfl (by kernel_rfl) ?_
  refine OPS.batch 3 {} [.agg #[.int .i64 one.N, .int .i64 one.K, .int .i64 one.Delta]] [2, 7, 8, 20, 21, 22, 24, 26] [.slice s1.a s1.n s1.c, .pointer (some ⟨g10, 0, none⟩), .pointer (some ⟨g13, 0, none⟩), .slice (some ⟨g17, 0, none⟩) 2 2, .int .i64 2, .int .i64 0, .int .i64 0, .agg #[.int .i64 one.N, .int .i64 one.K, .int .i64 one.Delta]] (.cons (show InB (0) (2) from ⟨by omega, by omega⟩) (.cons (show (some (⟨g17, 0, none⟩ : Addr)).isSome = true from rfl) (.cons (show Ld Try.prog w15 23 ⟨g17, 0, none⟩ (.agg #[.int .i64 one.N, .int .i64 one.K, .int .i64 one.Delta]) from Ld.rowN (cs := [.int .i64 one.N, .int .i64 one.K, .int .i64 one.Delta]) hp16.get0 (by kernel_rfl)) .nil))) (by kernel_rfl) (fun b20 => ?_)
  refine OPS.cons (opStep.alloc hp16 [.int .i64 0, .int .i64 0, .int .i64 0] (by kernel_rfl) (fun g23 w21 hp22 => ?_))
  refine OPS.batch 1 {} [] [2, 7, 8, 9, 10, 20, 21, 22, 26] [.slice s1.a s1.n s1.c, .pointer (some ⟨g10, 0, none⟩), .pointer (some ⟨g13, 0, none⟩), .int .i64 0, .pointer (some ⟨g23, 0, none⟩), .slice (some ⟨g17, 0, none⟩) 2 2, .int .i64 2, .int .i64 0, .agg #[.int .i64 one.N, .int .i64 one.K, .int .i64 one.Delta]] .nil (by kernel_rfl) (fun b24 => ?_)
  refine OPS.cons (opStep.store0 hp22 rfl [.int .i64 one.N, .int .i64 one.K, .int .i64 one.Delta] [.int .i64 one.N, .int .i64 one.K, .int .i64 one.Delta] (by kernel_rfl) (fun w25 hp26 => ?_))
  refine OPS.nil ?_
  refine thn_n ?_
  refine WP.seq ?_
  refine WP.region _ rfl (by kernel_rfl) ?_
  refine OPS.batch 1 {} [.agg #[.int .i64 one.N, .int .i64 one.K, .int .i64 one.Delta]] [2, 7, 8, 9, 10, 20, 21, 22, 28] [.slice s1.a s1.n s1.c, .pointer (some ⟨g10, 0, none⟩), .pointer (some ⟨g13, 0, none⟩), .int .i64 0, .pointer (some ⟨g23, 0, none⟩), .slice (some ⟨g17, 0, none⟩) 2 2, .int .i64 2, .int .i64 0, .agg #[.int .i64 one.N, .int .i64 one.K, .int .i64 one.Delta]] (.cons (show Ld Try.prog w25 23 ⟨g23, 0, none⟩ (.agg #[.int .i64 one.N, .int .i64 one.K, .int .i64 one.Delta]) from Ld.rowN (cs := [.int .i64 one.N, .int .i64 one.K, .int .i64 one.Delta]) hp26.get0 (by kernel_rfl)) .nil) (by kernel_rfl) (fun b27 => ?_)
  by_cases hcfg1_ : okCfg one
  · have hbhcfg1__ := hcfg1_.2.2.1
    refine OPS.cons (opStep.call (some 29) [.agg #[.int .i64 one.N, .int .i64 one.K, .int .i64 one.Delta]] (by kernel_rfl) (r17_New one _ hcfg1_) ?_)
    rintro _ w30 ⟨rb33, aC34, kC35, aL36, kL37, rfl, hp32⟩
    refine ⟨_, rfl, ?_⟩
    have hp31 := hp26.madeQ hp32
    simp only [List.cons_append, List.nil_append] at hp31
    refine OPS.batch 5 {} [] [2, 7, 8, 9, 10, 11, 12, 20, 21, 22] [.slice s1.a s1.n s1.c, .pointer (some ⟨g10, 0, none⟩), .pointer (some ⟨g13, 0, none⟩), .int .i64 0, .pointer (some ⟨g23, 0, none⟩), .pointer (some ⟨rb33, 0, none⟩), .int .i64 0, .slice (some ⟨g17, 0, none⟩) 2 2, .int .i64 2, .int .i64 0] .nil (by kernel_rfl) (fun b38 => ?_)
    refine OPS.nil ?_
    refine thn_n ?_
    refine WP.seq ?_
    refine WP.region _ rfl (by kernel_rfl) ?_
    refine OPS.batch 1 {} [.agg #[.int .i64 one.N, .int .i64 one.K, .int .i64 one.Delta]] [2, 7, 8, 9, 11, 12, 20, 21, 22, 33] [.slice s1.a s1.n s1.c, .pointer (some ⟨g10, 0, none⟩), .pointer (some ⟨g13, 0, none⟩), .int .i64 0, .pointer (some ⟨rb33, 0, none⟩), .int .i64 0, .slice (some ⟨g17, 0, none⟩) 2 2, .int .i64 2, .int .i64 0, .agg #[.int .i64 one.N, .int .i64 one.K, .int .i64 one.Delta]] (.cons (show Ld Try.prog w30 23 ⟨g23, 0, none⟩ (.agg #[.int .i64 one.N, .int .i64 one.K, .int .i64 one.Delta]) from Ld.rowN (cs := [.int .i64 one.N, .int .i64 one.K, .int .i64 one.Delta]) hp31.get3 (by kernel_rfl)) .nil) (by kernel_rfl) (fun b39 => ?_)
    refine OPS.cons (opStep.call (some 34) [.agg #[.int .i64 one.N, .int .i64 one.K, .int .i64 one.Delta]] (by kernel_rfl) (pi_New one _ hcfg1_) ?_)
    rintro _ w42 ⟨b45, mb46, rfl, hp44⟩
    refine ⟨_, rfl, ?_⟩
    have hp43 := (hp31.sub (.cons_cons _ (.cons_cons _ (.cons_cons _ (.cons _ (.cons_cons _ (.cons_cons _ (.cons_cons _ (.cons _ (.cons _ (.slnil))))))))))).madeQ hp44
    simp only [List.cons_append, List.nil_append] at hp43
    have hp47 := hp43.pull6
    have hp48 := hp47.pull7
    refine OPS.batch 5 {} [] [2, 7, 8, 9, 11, 12, 13, 14, 20, 21, 22] [.slice s1.a s1.n s1.c, .pointer (some ⟨g10, 0, none⟩), .pointer (some ⟨g13, 0, none⟩), .int .i64 0, .pointer (some ⟨rb33, 0, none⟩), .int .i64 0, .pointer (some ⟨b45, 0, none⟩), .int .i64 0, .slice (some ⟨g17, 0, none⟩) 2 2, .int .i64 2, .int .i64 0] .nil (by kernel_rfl) (fun b49 => ?_)
    refine OPS.nil ?_
    refine thn_n ?_
    refine WP.seq ?_
    refine WP.seq ?_
    refine WP.pure { wraps := [46] } [] [2, 7, 8, 9, 11, 13, 20, 21, 22, 46] [.slice s1.a s1.n s1.c, .pointer (some ⟨g10, 0, none⟩), .pointer (some ⟨g13, 0, none⟩), .int .i64 0, .pointer (some ⟨rb33, 0, none⟩), .pointer (some ⟨b45, 0, none⟩), .slice (some ⟨g17, 0, none⟩) 2 2, .int .i64 2, .int .i64 0, .bool (!(false == false))] .nil (by kernel_rfl) (fun b50 => ?_)
    refine thn_n ?_
    refine WP.test (p := ¬ (((False) ↔ (False)))) rfl (Bp.not (Bp.beq Bp.f Bp.f)) (fun h51 => ?_) (fun h51 => ?_)
    · refine WP.seq ?_
      refine WP.pure {} [] [6] [.bool false] .nil (by kernel_rfl) (fun b52 => ?_)
      refine thn_n ?_
      refine WP.ret ?_
      refine thn_r ?_
      refine blk_r ?_
      refine thn_r ?_
      refine thn_r ?_
      refine blk_r ?_
      refine thn_r ?_
      refine bodyQ.of _ rfl [.bool false] ⟨rfl, trivial⟩ ?_
      exfalso
      first | exact h51 Iff.rfl | simp at h51
    · replace h51 := Classical.not_not.1 h51
      refine WP.skip ?_
      refine thn_n ?_
      refine WP.seq ?_
      refine WP.region _ rfl (by kernel_rfl) ?_
      refine OPS.batch 3 {} [] [2, 7, 8, 9, 11, 20, 21, 22, 48, 49] [.slice s1.a s1.n s1.c, .pointer (some ⟨g10, 0, none⟩), .pointer (some ⟨g13, 0, none⟩), .int .i64 0, .pointer (some ⟨rb33, 0, none⟩), .slice (some ⟨g17, 0, none⟩) 2 2, .int .i64 2, .int .i64 0, .pointer (some ⟨b45, 0, none⟩), .pointer (some ⟨g10, 0, none⟩)] (.cons (show InB (0) (2) from ⟨by omega, by omega⟩) .nil) (by kernel_rfl) (fun b53 => ?_)
      refine OPS.cons (opStep.store0 hp48 rfl [.pointer (some ⟨b45, 0, none⟩)] [.pointer (some ⟨b45, 0, none⟩), .pointer none] (by kernel_rfl) (fun w54 hp55 => ?_))
      refine OPS.nil ?_
      refine thn_n ?_
      refine WP.region _ rfl (by kernel_rfl) ?_
      refine OPS.batch 3 {} [] [2, 7, 8, 20, 21, 22, 51, 52] [.slice s1.a s1.n s1.c, .pointer (some ⟨g10, 0, none⟩), .pointer (some ⟨g13, 0, none⟩), .slice (some ⟨g17, 0, none⟩) 2 2, .int .i64 2, .int .i64 0, .pointer (some ⟨rb33, 0, none⟩), .pointer (some ⟨g13, 0, none⟩)] (.cons (show InB (0) (2) from ⟨by omega, by omega⟩) .nil) (by kernel_rfl) (fun b56 => ?_)
      refine OPS.cons (opStep.store1 hp55 rfl [.pointer (some ⟨rb33, 0, none⟩)] [.pointer (some ⟨rb33, 0, none⟩), .pointer none] (by kernel_rfl) (fun w57 hp58 => ?_))
      refine OPS.nil ?_
      refine blk_n ?_
      refine thn_n ?_
      refine WP.pure {} [] [2, 7, 8, 20, 21, 22] [.slice s1.a s1.n s1.c, .pointer (some ⟨g10, 0, none⟩), .pointer (some ⟨g13, 0, none⟩), .slice (some ⟨g17, 0, none⟩) 2 2, .int .i64 2, .int .i64 1] (.cons (show Rng .i64 (1) from Rng.i64 (by omega)) .nil) (by kernel_rfl) (fun b59 => ?_)
      refine thn_n ?_
      refine RND.step ?_
      refine WP.seq ?_
      refine WP.pure {} [] [2, 7, 8, 20, 21, 22, 23] [.slice s1.a s1.n s1.c, .pointer (some ⟨g10, 0, none⟩), .pointer (some ⟨g13, 0, none⟩), .slice (some ⟨g17, 0, none⟩) 2 2, .int .i64 2, .int .i64 1, .bool true] .nil (by kernel_rfl) (fun b60 => ?_)
      refine thn_n ?_
      refine WP.seq ?_
      refine WP.condT rfl ?_
      refine WP.skip ?_
      refine thn_n ?_
      refine WP.seq ?_
      refine WP.block ?_
      refine WP.seq ?_
      refine WP.region _ rfl (by kernel_rfl) ?_
      refine OPS.batch 3 {} [.agg #[.int .i64 other.N, .int .i64 other.K, .int .i64 other.Delta]] [2, 7, 8, 20, 21, 22, 24, 26] [.slice s1.a s1.n s1.c, .pointer (some ⟨g10, 0, none⟩), .pointer (some ⟨g13, 0, none⟩), .slice (some ⟨g17, 0, none⟩) 2 2, .int .i64 2, .int .i64 1, .int .i64 1, .agg #[.int .i64 other.N, .int .i64 other.K, .int .i64 other.Delta]] (.cons (show InB (1) (2) from ⟨by omega, by omega⟩) (.cons (show (some (⟨g17, 0, none⟩ : Addr)).isSome = true from rfl) (.cons (show Ld Try.prog w57 23 ⟨g17, 3, none⟩ (.agg #[.int .i64 other.N, .int .i64 other.K, .int .i64 other.Delta]) from Ld.rowN (cs := [.int .i64 other.N, .int .i64 other.K, .int .i64 other.Delta]) hp58.get7 (by kernel_rfl)) .nil))) (by kernel_rfl) (fun b61 => ?_)
      refine OPS.cons (opStep.alloc hp58 [.int .i64 0, .int .i64 0, .int .i64 0] (by kernel_rfl) (fun g64 w62 hp63 => ?_))
      refine OPS.batch 1 {} [] [2, 7, 8, 9, 10, 20, 21, 22, 26] [.slice s1.a s1.n s1.c, .pointer (some ⟨g10, 0, none⟩), .pointer (some ⟨g13, 0, none⟩), .int .i64 1, .pointer (some ⟨g64, 0, none⟩), .slice (some ⟨g17, 0, none⟩) 2 2, .int .i64 2, .int .i64 1, .agg #[.int .i64 other.N, .int .i64 other.K, .int .i64 other.Delta]] .nil (by kernel_rfl) (fun b65 => ?_)
      refine OPS.cons (opStep.store0 hp63 rfl [.int .i64 other.N, .int .i64 other.K, .int .i64 other.Delta] [.int .i64 other.N, .int .i64 other.K, .int .i64 other.Delta] (by kernel_rfl) (fun w66 hp67 => ?_))
      refine OPS.nil ?_
      refine thn_n ?_
      refine WP.seq ?_
      refine WP.region _ rfl (by kernel_rfl) ?_
      refine OPS.batch 1 {} [.agg #[.int .i64 other.N, .int .i64 other.K, .int .i64 other.Delta]] [2, 7, 8, 9, 10, 20, 21, 22, 28] [.slice s1.a s1.n s1.c, .pointer (some ⟨g10, 0, none⟩), .pointer (some ⟨g13, 0, none⟩), .int .i64 1, .pointer (some ⟨g64, 0, none⟩), .slice (some ⟨g17, 0, none⟩) 2 2, .int .i64 2, .int .i64 1, .agg #[.int .i64 other.N, .int .i64 other.K, .int .i64 other.Delta]] (.cons (show Ld Try.prog w66 23 ⟨g64, 0, none⟩ (.agg #[.int .i64 other.N, .int .i64 other.K, .int .i64 other.Delta]) from Ld.rowN (cs := [.int .i64 other.N, .int .i64 other.K, .int .i64 other.Delta]) hp67.get0 (by kernel_rfl)) .nil) (by kernel_rfl) (fun b68 => ?_)
      by_cases hcfg2_ : okCfg other
      · have hbhcfg2__ := hcfg2_.2.2.1
        refine OPS.cons (opStep.call (some 29) [.agg #[.int .i64 other.N, .int .i64 other.K, .int .i64 other.Delta]] (by kernel_rfl) (r17_New other _ hcfg2_) ?_)
        rintro _ w71 ⟨rb74, aC75, kC76, aL77, kL78, rfl, hp73⟩
        refine ⟨_, rfl, ?_⟩
        have hp72 := hp67.madeQ hp73
        simp only [List.cons_append, List.nil_append] at hp72
        refine OPS.batch 5 {} [] [2, 7, 8, 9, 10, 11, 12, 20, 21, 22] [.slice s1.a s1.n s1.c, .pointer (some ⟨g10, 0, none⟩), .pointer (some ⟨g13, 0, none⟩), .int .i64 1, .pointer (some ⟨g64, 0, none⟩), .pointer (some ⟨rb74, 0, none⟩), .int .i64 0, .slice (some ⟨g17, 0, none⟩) 2 2, .int .i64 2, .int .i64 1] .nil (by kernel_rfl) (fun b79 => ?_)
        refine OPS.nil ?_
        refine thn_n ?_
        refine WP.seq ?_
        refine WP.region _ rfl (by kernel_rfl) ?_
        refine OPS.batch 1 {} [.agg #[.int .i64 other.N, .int .i64 other.K, .int .i64 other.Delta]] [2, 7, 8, 9, 11, 12, 20, 21, 22, 33] [.slice s1.a s1.n s1.c, .pointer (some ⟨g10, 0, none⟩), .pointer (some ⟨g13, 0, none⟩), .int .i64 1, .pointer (some ⟨rb74, 0, none⟩), .int .i64 0, .slice (some ⟨g17, 0, none⟩) 2 2, .int .i64 2, .int .i64 1, .agg #[.int .i64 other.N, .int .i64 other.K, .int .i64 other.Delta]] (.cons (show Ld Try.prog w71 23 ⟨g64, 0, none⟩ (.agg #[.int .i64 other.N, .int .i64 other.K, .int .i64 other.Delta]) from Ld.rowN (cs := [.int .i64 other.N, .int .i64 other.K, .int .i64 other.Delta]) hp72.get3 (by kernel_rfl)) .nil) (by kernel_rfl) (fun b80 => ?_)
        refine OPS.cons (opStep.call (some 34) [.agg #[.int .i64 other.N, .int .i64 other.K, .int .i64 other.Delta]] (by kernel_rfl) (pi_New other _ hcfg2_) ?_)
        rintro _ w83 ⟨b86, mb87, rfl, hp85⟩
        refine ⟨_, rfl, ?_⟩
        have hp84 := (hp72.sub (.cons_cons _ (.cons_cons _ (.cons_cons _ (.cons _ (.cons_cons _ (.cons_cons _ (.cons_cons _ (.cons_cons _ (.cons_cons _ (.cons_cons _ (.cons_cons _ (.cons_cons _ (.slnil)))))))))))))).madeQ hp85
        simp only [List.cons_append, List.nil_append] at hp84
        have hp88 := hp84.pull6
        have hp89 := hp88.pull6
        refine OPS.batch 5 {} [] [2, 7, 8, 9, 11, 12, 13, 14, 20, 21, 22] [.slice s1.a s1.n s1.c, .pointer (some ⟨g10, 0, none⟩), .pointer (some ⟨g13, 0, none⟩), .int .i64 1, .pointer (some ⟨rb74, 0, none⟩), .int .i64 0, .pointer (some ⟨b86, 0, none⟩), .int .i64 0, .slice (some ⟨g17, 0, none⟩) 2 2, .int .i64 2, .int .i64 1] .nil (by kernel_rfl) (fun b90 => ?_)
        refine OPS.nil ?_
        refine thn_n ?_
        refine WP.seq ?_
        refine WP.seq ?_
        refine WP.pure { wraps := [46] } [] [2, 7, 8, 9, 11, 13, 20, 21, 22, 46] [.slice s1.a s1.n s1.c, .pointer (some ⟨g10, 0, none⟩), .pointer (some ⟨g13, 0, none⟩), .int .i64 1, .pointer (some ⟨rb74, 0, none⟩), .pointer (some ⟨b86, 0, none⟩), .slice (some ⟨g17, 0, none⟩) 2 2, .int .i64 2, .int .i64 1, .bool (!(false == false))] .nil (by kernel_rfl) (fun b91 => ?_)
        refine thn_n ?_
        refine WP.test (p := ¬ (((False) ↔ (False)))) rfl (Bp.not (Bp.beq Bp.f Bp.f)) (fun h92 => ?_) (fun h92 => ?_)
        · refine WP.seq ?_
          refine WP.pure {} [] [6] [.bool false] .nil (by kernel_rfl) (fun b93 => ?_)
          refine thn_n ?_
          refine WP.ret ?_
          refine thn_r ?_
          refine blk_r ?_
          refine thn_r ?_
          refine thn_r ?_
          refine blk_r ?_
          refine thn_r ?_
          refine bodyQ.of _ rfl [.bool false] ⟨rfl, trivial⟩ ?_
          exfalso
          first | exact h92 Iff.rfl | simp at h92
        · replace h92 := Classical.not_not.1 h92
          refine WP.skip ?_
          refine thn_n ?_
          refine WP.seq ?_
          refine WP.region _ rfl (by kernel_rfl) ?_
          refine OPS.batch 3 {} [] [2, 7, 8, 9, 11, 20, 21, 22, 48, 49] [.slice s1.a s1.n s1.c, .pointer (some ⟨g10, 0, none⟩), .pointer (some ⟨g13, 0, none⟩), .int .i64 1, .pointer (some ⟨rb74, 0, none⟩), .slice (some ⟨g17, 0, none⟩) 2 2, .int .i64 2, .int .i64 1, .pointer (some ⟨b86, 0, none⟩), .pointer (some ⟨g10, 1, none⟩)] (.cons (show InB (1) (2) from ⟨by omega, by omega⟩) .nil) (by kernel_rfl) (fun b94 => ?_)
          refine OPS.cons (opStep.store0 hp89 rfl [.pointer (some ⟨b86, 0, none⟩)] [.pointer (some ⟨b45, 0, none⟩), .pointer (some ⟨b86, 0, none⟩)] (by kernel_rfl) (fun w95 hp96 => ?_))
          refine OPS.nil ?_
          refine thn_n ?_
          refine WP.region _ rfl (by kernel_rfl) ?_
          refine OPS.batch 3 {} [] [2, 7, 8, 20, 21, 22, 51, 52] [.slice s1.a s1.n s1.c, .pointer (some ⟨g10, 0, none⟩), .pointer (some ⟨g13, 0, none⟩), .slice (some ⟨g17, 0, none⟩) 2 2, .int .i64 2, .int .i64 1, .pointer (some ⟨rb74, 0, none⟩), .pointer (some ⟨g13, 1, none⟩)] (.cons (show InB (1) (2) from ⟨by omega, by omega⟩) .nil) (by kernel_rfl) (fun b97 => ?_)
          refine OPS.cons (opStep.store1 hp96 rfl [.pointer (some ⟨rb74, 0, none⟩)] [.pointer (some ⟨rb33, 0, none⟩), .pointer (some ⟨rb74, 0, none⟩)] (by kernel_rfl) (fun w98 hp99 => ?_))
          refine OPS.nil ?_
          refine blk_n ?_
          refine thn_n ?_
          refine WP.pure {} [] [2, 7, 8, 20, 21, 22] [.slice s1.a s1.n s1.c, .pointer (some ⟨g10, 0, none⟩), .pointer (some ⟨g13, 0, none⟩), .slice (some ⟨g17, 0, none⟩) 2 2, .int .i64 2, .int .i64 2] (.cons (show Rng .i64 (2) from Rng.i64 (by omega)) .nil) (by kernel_rfl) (fun b100 => ?_)
          refine thn_n ?_
          refine RND.step ?_
          refine WP.seq ?_
          refine WP.pure {} [] [2, 7, 8, 20, 21, 22, 23] [.slice s1.a s1.n s1.c, .pointer (some ⟨g10, 0, none⟩), .pointer (some ⟨g13, 0, none⟩), .slice (some ⟨g17, 0, none⟩) 2 2, .int .i64 2, .int .i64 2, .bool false] .nil (by kernel_rfl) (fun b101 => ?_)
          refine thn_n ?_
          refine WP.seq ?_
          refine WP.condF rfl ?_
          refine WP.exit ?_
          refine thn_x ?_
          refine thn_x ?_
          refine blk_hit ?_
          refine thn_n ?_
          refine WP.seq ?_
          refine WP.seq ?_
          refine WP.pure {} [] [7, 8, 54, 55, 56] [.pointer (some ⟨g10, 0, none⟩), .pointer (some ⟨g13, 0, none⟩), .slice s1.a s1.n s1.c, .int .i64 ((s1.n : Nat) : Int), .int .i64 0] .nil (by kernel_rfl) (fun b102 => ?_)
          refine thn_n ?_
          refine WP.block ?_
          refine WP.loop (fun mz_ e103 w104 => ∃ (k : Nat) (m2_ : List (Int × Int)) (cs2_ : List Bool) (ls2_ : List Int) (m1_ : List (Int × Int)) (cs1_ : List Bool) (ls1_ : List Int), mz_ = l1.length - k ∧ (k ≤ l1.length ∧ RelP other m2_ cs2_ ls2_ ∧ RelP one m1_ cs1_ ls1_) ∧ List.map e103 [7, 8, 54, 55, 56] = [.pointer (some ⟨g10, 0, none⟩), .pointer (some ⟨g13, 0, none⟩), .slice s1.a s1.n s1.c, .int .i64 ((s1.n : Nat) : Int), .int .i64 (k : Int)] ∧ Hp w Non [Res.row g10 [.pointer (some ⟨b45, 0, none⟩), .pointer (some ⟨b86, 0, none⟩)] 43, Res.row g13 [.pointer (some ⟨rb33, 0, none⟩), .pointer (some ⟨rb74, 0, none⟩)] 45, Res.row b86 [.int .i64 other.N, .int .i64 other.K, .int .i64 other.Delta, .map (some mb87)] 98, Res.mp mb87 kI vI m2_, Res.row rb74 [.int .i64 other.N, .int .i64 other.K, .int .i64 other.Delta, .slice aC75 other.N.toNat kC76, .slice aL77 other.N.toNat kL78] 95, Res.own 4 1 (.slice aC75 other.N.toNat kC76) other.N.toNat (List.flatMap (fun (y : Bool) => [Go.Value.bool y]) cs2_), Res.own 3 1 (.slice aL77 other.N.toNat kL78) other.N.toNat (List.flatMap (fun (y : Int) => [Go.Value.int .i64 y]) ls2_), Res.row b45 [.int .i64 one.N, .int .i64 one.K, .int .i64 one.Delta, .map (some mb46)] 98, Res.mp mb46 kI vI m1_, Res.row rb33 [.int .i64 one.N, .int .i64 one.K, .int .i64 one.Delta, .slice aC34 one.N.toNat kC35, .slice aL36 one.N.toNat kL37] 95, Res.own 4 1 (.slice aC34 one.N.toNat kC35) one.N.toNat (List.flatMap (fun (y : Bool) => [Go.Value.bool y]) cs1_), Res.own 3 1 (.slice aL36 one.N.toNat kL37) one.N.toNat (List.flatMap (fun (y : Int) => [Go.Value.int .i64 y]) ls1_), Res.row g17 [.int .i64 one.N, .int .i64 one.K, .int .i64 one.Delta, .int .i64 other.N, .int .i64 other.K, .int .i64 other.Delta] 23] w104) (l1.length - (0)) ⟨0, ([] : List (Int × Int)), (List.replicate other.N.toNat false), (List.replicate other.N.toNat (0 : Int)), ([] : List (Int × Int)), (List.replicate one.N.toNat false), (List.replicate one.N.toNat (0 : Int)), rfl, ⟨by omega, (RelP.nil other), (RelP.nil one)⟩, by kernel_rfl, hp99⟩ ?_
          rintro _ e103 w104 ⟨k, m2_, cs2_, ls2_, m1_, cs1_, ls1_, rfl, hI106, hE107, hp105⟩
          obtain ⟨b108, rfl⟩ := toMk hE107
          clear hE107
          obtain ⟨pa, hr2_, hr1_⟩ := hI106
          have pt1 := Int.lt_tmod_of_pos (l1[k]!.P) (show (0 : Int) < 2 by omega)
          have pt2 := Int.tmod_lt_of_pos (l1[k]!.P) (show (0 : Int) < 2 by omega)
          refine WP.seq ?_
          refine WP.pure {} [] [7, 8, 54, 55, 56, 57] [.pointer (some ⟨g10, 0, none⟩), .pointer (some ⟨g13, 0, none⟩), .slice s1.a s1.n s1.c, .int .i64 ((s1.n : Nat) : Int), .int .i64 (k : Int), .bool (decide ((k : Int) < ((s1.n : Nat) : Int)))] .nil (by kernel_rfl) (fun b109 => ?_)
          refine thn_n ?_
          refine WP.seq ?_
          refine WP.test (p := (k : Int) < ((s1.n : Nat) : Int)) rfl Bp.dec (fun h110 => ?_) (fun h110 => ?_)
          · refine WP.skip ?_
            refine thn_n ?_
            refine WP.seq ?_
            refine WP.block ?_
            refine WP.seq ?_
            refine WP.region _ rfl (by kernel_rfl) ?_
            have hy114 : (l1)[k]? = some l1[k]! := get_bang (by first | (omega) | (simp only [List.length_append, List.length_cons, List.length_nil]; omega) | (simp only [List.length_take, List.length_append, List.length_cons, List.length_nil]; omega))
            refine OPS.batch 2 {} [Gsherdlaw17_Op.val (l1[k]!)] [7, 8, 54, 55, 56, 59] [.pointer (some ⟨g10, 0, none⟩), .pointer (some ⟨g13, 0, none⟩), .slice s1.a s1.n s1.c, .int .i64 ((s1.n : Nat) : Int), .int .i64 (k : Int), Gsherdlaw17_Op.val (l1[k]!)] (.cons (show InB ((k : Int)) (s1.n) from ⟨by omega, by omega⟩) (.cons ((o1.rd.at hp105).some (by omega)) (.cons (Ld.add0 (Ld.elN (P := Try.prog) (t := 52) (o1.rd.at hp105).rd 5 (fun _ => rfl) hy114 (o := 0) (cs := [.int .i64 (l1[k]!.Kind), .int .i64 (l1[k]!.P), .int .i64 (l1[k]!.Server), .int .i64 (l1[k]!.V), .int .i64 (l1[k]!.N)]) (by kernel_rfl))) .nil))) (by kernel_rfl) (fun b115 => ?_)
            refine OPS.cons (opStep.alloc hp105 [.int .i64 0, .int .i64 0, .int .i64 0, .int .i64 0, .int .i64 0] (by kernel_rfl) (fun g118 w116 hp117 => ?_))
            refine OPS.cons (opStep.store0 hp117 rfl [.int .i64 (l1[k]!.Kind), .int .i64 (l1[k]!.P), .int .i64 (l1[k]!.Server), .int .i64 (l1[k]!.V), .int .i64 (l1[k]!.N)] [.int .i64 (l1[k]!.Kind), .int .i64 (l1[k]!.P), .int .i64 (l1[k]!.Server), .int .i64 (l1[k]!.V), .int .i64 (l1[k]!.N)] (by kernel_rfl) (fun w119 hp120 => ?_))
            refine OPS.nil ?_
            refine thn_n ?_
            refine WP.seq ?_
            have hk121 : (((l1[k]!.P).tmod 2) + 2).tmod 2 = 0 ∨ (((l1[k]!.P).tmod 2) + 2).tmod 2 = 1 := two_of _
            rcases hk121 with hk121 | hk121
            · refine WP.pure { subs := [64] } [.int .i64 (l1[k]!.P), .int .i64 0] [7, 8, 16, 17, 54, 55, 56] [.pointer (some ⟨g10, 0, none⟩), .pointer (some ⟨g13, 0, none⟩), .pointer (some ⟨g118, 0, none⟩), .int .i64 0, .slice s1.a s1.n s1.c, .int .i64 ((s1.n : Nat) : Int), .int .i64 (k : Int)] (.cons (Ld.row1 (P := Try.prog) (t := 3) (o := 1) (v := .int .i64 (l1[k]!.P)) hp120.get0 (by kernel_rfl)) (.cons (show (2 : Int) ≠ 0 from by omega) (.cons (show Rng .i64 (((l1[k]!.P).tmod 2) + 2) from Rng.i64 (by omega)) (.cons (show (2 : Int) ≠ 0 from by omega) (.cons (show (.int .i64 ((((l1[k]!.P).tmod 2) + 2).tmod 2) : Go.Value) = .int .i64 0 from congrArg (Value.int .i64) (hk121)) .nil))))) (by kernel_rfl) (fun b122 => ?_)
              refine thn_n ?_
              refine WP.seq ?_
              have hp123 := hp120.drew
              refine WP.held (fun w124 => Ld Try.prog w124 42 ⟨g10, 0, none⟩ (.pointer (some ⟨b45, 0, none⟩)) ∧ Ld Try.prog w124 44 ⟨g13, 0, none⟩ (.pointer (some ⟨rb33, 0, none⟩)) ∧ Ld Try.prog w124 52 ⟨g118, 0, none⟩ (Gsherdlaw17_Op.val (l1[k]!)) ∧ True) [] [(0, true), (1, true), (2, true), (3, true), (4, true), (5, true), (6, true), (7, false), (8, true), (9, true), (10, true), (11, false), (12, true), (13, true)] (np_thn (np_blk (np_thn (np_thn (np_blk (np_thn np_body)))))) (by kernel_rfl) ?_
              refine HOPS.take 7 {} [.pointer (some ⟨b45, 0, none⟩), .pointer (some ⟨rb33, 0, none⟩), Gsherdlaw17_Op.val (l1[k]!)] [7, 8, 16, 54, 55, 56, 67, 70, 71] [.pointer (some ⟨g10, 0, none⟩), .pointer (some ⟨g13, 0, none⟩), .pointer (some ⟨g118, 0, none⟩), .slice s1.a s1.n s1.c, .int .i64 ((s1.n : Nat) : Int), .int .i64 (k : Int), .pointer (some ⟨b45, 0, none⟩), .pointer (some ⟨rb33, 0, none⟩), Gsherdlaw17_Op.val (l1[k]!)] (by kernel_rfl) ⟨(show Ld Try.prog w119.drew 42 ⟨g10, 0, none⟩ (.pointer (some ⟨b45, 0, none⟩)) from (Ld.row1 (P := Try.prog) (t := 42) (o := 0) (v := .pointer (some ⟨b45, 0, none⟩)) hp123.get1 (by kernel_rfl))), (show Ld Try.prog w119.drew 44 ⟨g13, 0, none⟩ (.pointer (some ⟨rb33, 0, none⟩)) from (Ld.row1 (P := Try.prog) (t := 44) (o := 0) (v := .pointer (some ⟨rb33, 0, none⟩)) hp123.get2 (by kernel_rfl))), (show Ld Try.prog w119.drew 52 ⟨g118, 0, none⟩ (Gsherdlaw17_Op.val (l1[k]!)) from (show Ld Try.prog w119.drew 52 ⟨g118, 0, none⟩ (Gsherdlaw17_Op.val (l1[k]!)) from Ld.rowN (cs := [.int .i64 (l1[k]!.Kind), .int .i64 (l1[k]!.P), .int .i64 (l1[k]!.Server), .int .i64 (l1[k]!.V), .int .i64 (l1[k]!.N)]) hp123.get0 (by kernel_rfl))), trivial⟩ (fun w125 hS126 => QB.mk (.cons (show InB (0) (2) from ⟨by omega, by omega⟩) (.cons (hS126.1) (.cons (show InB (0) (2) from ⟨by omega, by omega⟩) (.cons (hS126.2.1) (.cons (hS126.2.2.1) .nil))))) (by kernel_rfl)) (fun b127 => ?_)
              have hp130 := hp123.pull12
              have hp131 := hp130.pull12
              have hp132 := hp131.pull12
              have hp133 := hp132.pull12
              have hp134 := hp133.pull12
              refine HOPS.eff _ rfl (opStep.call (some 72) [.pointer (some ⟨b45, 0, none⟩), .pointer (some ⟨rb33, 0, none⟩), Gsherdlaw17_Op.val (l1[k]!)] (by kernel_rfl) (p17_plays _ _ b45 mb46 rb33 one _ _ _ _ m1_ cs1_ ls1_ (l1[k]!) _ hr1_ (by omega) hp134) ?_)
              rintro _ w135 ⟨l137, cs138, ls139, rfl, hr140, hp136⟩
              refine ⟨_, rfl, ?_⟩
              refine ⟨.inr ⟨(show Ld Try.prog w135 42 ⟨g10, 0, none⟩ (.pointer (some ⟨b45, 0, none⟩)) from (Ld.row1 (P := Try.prog) (t := 42) (o := 0) (v := .pointer (some ⟨b45, 0, none⟩)) hp136.get6 (by kernel_rfl))), (show Ld Try.prog w135 44 ⟨g13, 0, none⟩ (.pointer (some ⟨rb33, 0, none⟩)) from (Ld.row1 (P := Try.prog) (t := 44) (o := 0) (v := .pointer (some ⟨rb33, 0, none⟩)) hp136.get7 (by kernel_rfl))), (show Ld Try.prog w135 52 ⟨g118, 0, none⟩ (Gsherdlaw17_Op.val (l1[k]!)) from (show Ld Try.prog w135 52 ⟨g118, 0, none⟩ (Gsherdlaw17_Op.val (l1[k]!)) from Ld.rowN (cs := [.int .i64 (l1[k]!.Kind), .int .i64 (l1[k]!.P), .int .i64 (l1[k]!.Server), .int .i64 (l1[k]!.V), .int .i64 (l1[k]!.N)]) hp136.get5 (by kernel_rfl))), trivial⟩, ?_⟩
              refine HOPS.take 3 {} [Gsherdlaw17_Op.val (l1[k]!)] [7, 8, 54, 55, 56, 74, 75] [.pointer (some ⟨g10, 0, none⟩), .pointer (some ⟨g13, 0, none⟩), .slice s1.a s1.n s1.c, .int .i64 ((s1.n : Nat) : Int), .int .i64 (k : Int), .bool false, Gsherdlaw17_Op.val (l1[k]!)] (by kernel_rfl) ⟨(show Ld Try.prog w135 42 ⟨g10, 0, none⟩ (.pointer (some ⟨b45, 0, none⟩)) from (Ld.row1 (P := Try.prog) (t := 42) (o := 0) (v := .pointer (some ⟨b45, 0, none⟩)) hp136.get6 (by kernel_rfl))), (show Ld Try.prog w135 44 ⟨g13, 0, none⟩ (.pointer (some ⟨rb33, 0, none⟩)) from (Ld.row1 (P := Try.prog) (t := 44) (o := 0) (v := .pointer (some ⟨rb33, 0, none⟩)) hp136.get7 (by kernel_rfl))), (show Ld Try.prog w135 52 ⟨g118, 0, none⟩ (Gsherdlaw17_Op.val (l1[k]!)) from (show Ld Try.prog w135 52 ⟨g118, 0, none⟩ (Gsherdlaw17_Op.val (l1[k]!)) from Ld.rowN (cs := [.int .i64 (l1[k]!.Kind), .int .i64 (l1[k]!.P), .int .i64 (l1[k]!.Server), .int .i64 (l1[k]!.V), .int .i64 (l1[k]!.N)]) hp136.get5 (by kernel_rfl))), trivial⟩ (fun w141 hS142 => QB.mk (.cons (hS142.2.2.1) .nil) (by kernel_rfl)) (fun b143 => ?_)
              refine HOPS.effW _ rfl (by kernel_rfl) (opStep.call (some 76) [.pointer none, .pointer none, Gsherdlaw17_Op.val (l1[k]!)] (by kernel_rfl) (p17_plays_nil (l1[k]!) _) ?_)
              rintro _ w146 ⟨rfl, hf147⟩
              refine ⟨_, rfl, ?_⟩
              have hp148 := hp136.step hf147
              refine ⟨.inr ⟨(show Ld Try.prog w146 42 ⟨g10, 0, none⟩ (.pointer (some ⟨b45, 0, none⟩)) from (Ld.row1 (P := Try.prog) (t := 42) (o := 0) (v := .pointer (some ⟨b45, 0, none⟩)) hp148.get6 (by kernel_rfl))), (show Ld Try.prog w146 44 ⟨g13, 0, none⟩ (.pointer (some ⟨rb33, 0, none⟩)) from (Ld.row1 (P := Try.prog) (t := 44) (o := 0) (v := .pointer (some ⟨rb33, 0, none⟩)) hp148.get7 (by kernel_rfl))), (show Ld Try.prog w146 52 ⟨g118, 0, none⟩ (Gsherdlaw17_Op.val (l1[k]!)) from (show Ld Try.prog w146 52 ⟨g118, 0, none⟩ (Gsherdlaw17_Op.val (l1[k]!)) from Ld.rowN (cs := [.int .i64 (l1[k]!.Kind), .int .i64 (l1[k]!.P), .int .i64 (l1[k]!.Server), .int .i64 (l1[k]!.V), .int .i64 (l1[k]!.N)]) hp148.get5 (by kernel_rfl))), trivial⟩, ?_⟩
              refine HOPS.take 2 { wraps := [78] } [] [7, 8, 54, 55, 56, 78] [.pointer (some ⟨g10, 0, none⟩), .pointer (some ⟨g13, 0, none⟩), .slice s1.a s1.n s1.c, .int .i64 ((s1.n : Nat) : Int), .int .i64 (k : Int), .bool false] (by kernel_rfl) ⟨(show Ld Try.prog w146 42 ⟨g10, 0, none⟩ (.pointer (some ⟨b45, 0, none⟩)) from (Ld.row1 (P := Try.prog) (t := 42) (o := 0) (v := .pointer (some ⟨b45, 0, none⟩)) hp148.get6 (by kernel_rfl))), (show Ld Try.prog w146 44 ⟨g13, 0, none⟩ (.pointer (some ⟨rb33, 0, none⟩)) from (Ld.row1 (P := Try.prog) (t := 44) (o := 0) (v := .pointer (some ⟨rb33, 0, none⟩)) hp148.get7 (by kernel_rfl))), (show Ld Try.prog w146 52 ⟨g118, 0, none⟩ (Gsherdlaw17_Op.val (l1[k]!)) from (show Ld Try.prog w146 52 ⟨g118, 0, none⟩ (Gsherdlaw17_Op.val (l1[k]!)) from Ld.rowN (cs := [.int .i64 (l1[k]!.Kind), .int .i64 (l1[k]!.P), .int .i64 (l1[k]!.Server), .int .i64 (l1[k]!.V), .int .i64 (l1[k]!.N)]) hp148.get5 (by kernel_rfl))), trivial⟩ (fun w149 hS150 => QB.mk .nil (by kernel_rfl)) (fun b151 => ?_)
              refine HOPS.nil ?_
              refine thn_n ?_
              refine WP.condF rfl ?_
              refine WP.skip ?_
              refine blk_n ?_
              refine thn_n ?_
              refine WP.pure {} [] [7, 8, 54, 55, 56] [.pointer (some ⟨g10, 0, none⟩), .pointer (some ⟨g13, 0, none⟩), .slice s1.a s1.n s1.c, .int .i64 ((s1.n : Nat) : Int), .int .i64 ((k : Int) + 1)] (.cons (show Rng .i64 ((k : Int) + 1) from Rng.i64 (by omega)) .nil) (by kernel_rfl) (fun b152 => ?_)
              refine thn_n ?_
              exact ⟨l1.length - (k + 1), (by omega), k + 1, m2_, cs2_, ls2_, l137, cs138, ls139, rfl, ⟨by omega, hr2_, hr140⟩, by kernel_rfl, ((((((((((((((hp148.pull13).pull5).pull5).pull5).pull5).pull5).pull13).pull13).pull13).pull13).pull13).pull13).pull13).sub (.cons_cons _ (.cons_cons _ (.cons_cons _ (.cons_cons _ (.cons_cons _ (.cons_cons _ (.cons_cons _ (.cons_cons _ (.cons_cons _ (.cons_cons _ (.cons_cons _ (.cons_cons _ (.cons_cons _ (.cons _ (.slnil))))))))))))))))⟩
            · refine WP.pure { subs := [64] } [.int .i64 (l1[k]!.P), .int .i64 1] [7, 8, 16, 17, 54, 55, 56] [.pointer (some ⟨g10, 0, none⟩), .pointer (some ⟨g13, 0, none⟩), .pointer (some ⟨g118, 0, none⟩), .int .i64 1, .slice s1.a s1.n s1.c, .int .i64 ((s1.n : Nat) : Int), .int .i64 (k : Int)] (.cons (Ld.row1 (P := Try.prog) (t := 3) (o := 1) (v := .int .i64 (l1[k]!.P)) hp120.get0 (by kernel_rfl)) (.cons (show (2 : Int) ≠ 0 from by omega) (.cons (show Rng .i64 (((l1[k]!.P).tmod 2) + 2) from Rng.i64 (by omega)) (.cons (show (2 : Int) ≠ 0 from by omega) (.cons (show (.int .i64 ((((l1[k]!.P).tmod 2) + 2).tmod 2) : Go.Value) = .int .i64 1 from congrArg (Value.int .i64) (hk121)) .nil))))) (by kernel_rfl) (fun b153 => ?_)
              refine thn_n ?_
              refine WP.seq ?_
              have hp154 := hp120.drew
              refine WP.held (fun w155 => Ld Try.prog w155 42 ⟨g10, 1, none⟩ (.pointer (some ⟨b86, 0, none⟩)) ∧ Ld Try.prog w155 44 ⟨g13, 1, none⟩ (.pointer (some ⟨rb74, 0, none⟩)) ∧ Ld Try.prog w155 52 ⟨g118, 0, none⟩ (Gsherdlaw17_Op.val (l1[k]!)) ∧ True) [] [(0, true), (1, true), (2, true), (3, true), (4, true), (5, true), (6, true), (7, false), (8, true), (9, true), (10, true), (11, false), (12, true), (13, true)] (np_thn (np_blk (np_thn (np_thn (np_blk (np_thn np_body)))))) (by kernel_rfl) ?_
              refine HOPS.take 7 {} [.pointer (some ⟨b86, 0, none⟩), .pointer (some ⟨rb74, 0, none⟩), Gsherdlaw17_Op.val (l1[k]!)] [7, 8, 16, 54, 55, 56, 67, 70, 71] [.pointer (some ⟨g10, 0, none⟩), .pointer (some ⟨g13, 0, none⟩), .pointer (some ⟨g118, 0, none⟩), .slice s1.a s1.n s1.c, .int .i64 ((s1.n : Nat) : Int), .int .i64 (k : Int), .pointer (some ⟨b86, 0, none⟩), .pointer (some ⟨rb74, 0, none⟩), Gsherdlaw17_Op.val (l1[k]!)] (by kernel_rfl) ⟨(show Ld Try.prog w119.drew 42 ⟨g10, 1, none⟩ (.pointer (some ⟨b86, 0, none⟩)) from (Ld.row1 (P := Try.prog) (t := 42) (o := 1) (v := .pointer (some ⟨b86, 0, none⟩)) hp154.get1 (by kernel_rfl))), (show Ld Try.prog w119.drew 44 ⟨g13, 1, none⟩ (.pointer (some ⟨rb74, 0, none⟩)) from (Ld.row1 (P := Try.prog) (t := 44) (o := 1) (v := .pointer (some ⟨rb74, 0, none⟩)) hp154.get2 (by kernel_rfl))), (show Ld Try.prog w119.drew 52 ⟨g118, 0, none⟩ (Gsherdlaw17_Op.val (l1[k]!)) from (show Ld Try.prog w119.drew 52 ⟨g118, 0, none⟩ (Gsherdlaw17_Op.val (l1[k]!)) from Ld.rowN (cs := [.int .i64 (l1[k]!.Kind), .int .i64 (l1[k]!.P), .int .i64 (l1[k]!.Server), .int .i64 (l1[k]!.V), .int .i64 (l1[k]!.N)]) hp154.get0 (by kernel_rfl))), trivial⟩ (fun w156 hS157 => QB.mk (.cons (show InB (1) (2) from ⟨by omega, by omega⟩) (.cons (hS157.1) (.cons (show InB (1) (2) from ⟨by omega, by omega⟩) (.cons (hS157.2.1) (.cons (hS157.2.2.1) .nil))))) (by kernel_rfl)) (fun b158 => ?_)
              have hp161 := hp154.pull7
              have hp162 := hp161.pull7
              have hp163 := hp162.pull7
              have hp164 := hp163.pull7
              have hp165 := hp164.pull7
              refine HOPS.eff _ rfl (opStep.call (some 72) [.pointer (some ⟨b86, 0, none⟩), .pointer (some ⟨rb74, 0, none⟩), Gsherdlaw17_Op.val (l1[k]!)] (by kernel_rfl) (p17_plays _ _ b86 mb87 rb74 other _ _ _ _ m2_ cs2_ ls2_ (l1[k]!) _ hr2_ (by omega) hp165) ?_)
              rintro _ w166 ⟨l168, cs169, ls170, rfl, hr171, hp167⟩
              refine ⟨_, rfl, ?_⟩
              refine ⟨.inr ⟨(show Ld Try.prog w166 42 ⟨g10, 1, none⟩ (.pointer (some ⟨b86, 0, none⟩)) from (Ld.row1 (P := Try.prog) (t := 42) (o := 1) (v := .pointer (some ⟨b86, 0, none⟩)) hp167.get6 (by kernel_rfl))), (show Ld Try.prog w166 44 ⟨g13, 1, none⟩ (.pointer (some ⟨rb74, 0, none⟩)) from (Ld.row1 (P := Try.prog) (t := 44) (o := 1) (v := .pointer (some ⟨rb74, 0, none⟩)) hp167.get7 (by kernel_rfl))), (show Ld Try.prog w166 52 ⟨g118, 0, none⟩ (Gsherdlaw17_Op.val (l1[k]!)) from (show Ld Try.prog w166 52 ⟨g118, 0, none⟩ (Gsherdlaw17_Op.val (l1[k]!)) from Ld.rowN (cs := [.int .i64 (l1[k]!.Kind), .int .i64 (l1[k]!.P), .int .i64 (l1[k]!.Server), .int .i64 (l1[k]!.V), .int .i64 (l1[k]!.N)]) hp167.get5 (by kernel_rfl))), trivial⟩, ?_⟩
              refine HOPS.take 3 {} [Gsherdlaw17_Op.val (l1[k]!)] [7, 8, 54, 55, 56, 74, 75] [.pointer (some ⟨g10, 0, none⟩), .pointer (some ⟨g13, 0, none⟩), .slice s1.a s1.n s1.c, .int .i64 ((s1.n : Nat) : Int), .int .i64 (k : Int), .bool false, Gsherdlaw17_Op.val (l1[k]!)] (by kernel_rfl) ⟨(show Ld Try.prog w166 42 ⟨g10, 1, none⟩ (.pointer (some ⟨b86, 0, none⟩)) from (Ld.row1 (P := Try.prog) (t := 42) (o := 1) (v := .pointer (some ⟨b86, 0, none⟩)) hp167.get6 (by kernel_rfl))), (show Ld Try.prog w166 44 ⟨g13, 1, none⟩ (.pointer (some ⟨rb74, 0, none⟩)) from (Ld.row1 (P := Try.prog) (t := 44) (o := 1) (v := .pointer (some ⟨rb74, 0, none⟩)) hp167.get7 (by kernel_rfl))), (show Ld Try.prog w166 52 ⟨g118, 0, none⟩ (Gsherdlaw17_Op.val (l1[k]!)) from (show Ld Try.prog w166 52 ⟨g118, 0, none⟩ (Gsherdlaw17_Op.val (l1[k]!)) from Ld.rowN (cs := [.int .i64 (l1[k]!.Kind), .int .i64 (l1[k]!.P), .int .i64 (l1[k]!.Server), .int .i64 (l1[k]!.V), .int .i64 (l1[k]!.N)]) hp167.get5 (by kernel_rfl))), trivial⟩ (fun w172 hS173 => QB.mk (.cons (hS173.2.2.1) .nil) (by kernel_rfl)) (fun b174 => ?_)
              refine HOPS.effW _ rfl (by kernel_rfl) (opStep.call (some 76) [.pointer none, .pointer none, Gsherdlaw17_Op.val (l1[k]!)] (by kernel_rfl) (p17_plays_nil (l1[k]!) _) ?_)
              rintro _ w177 ⟨rfl, hf178⟩
              refine ⟨_, rfl, ?_⟩
              have hp179 := hp167.step hf178
              refine ⟨.inr ⟨(show Ld Try.prog w177 42 ⟨g10, 1, none⟩ (.pointer (some ⟨b86, 0, none⟩)) from (Ld.row1 (P := Try.prog) (t := 42) (o := 1) (v := .pointer (some ⟨b86, 0, none⟩)) hp179.get6 (by kernel_rfl))), (show Ld Try.prog w177 44 ⟨g13, 1, none⟩ (.pointer (some ⟨rb74, 0, none⟩)) from (Ld.row1 (P := Try.prog) (t := 44) (o := 1) (v := .pointer (some ⟨rb74, 0, none⟩)) hp179.get7 (by kernel_rfl))), (show Ld Try.prog w177 52 ⟨g118, 0, none⟩ (Gsherdlaw17_Op.val (l1[k]!)) from (show Ld Try.prog w177 52 ⟨g118, 0, none⟩ (Gsherdlaw17_Op.val (l1[k]!)) from Ld.rowN (cs := [.int .i64 (l1[k]!.Kind), .int .i64 (l1[k]!.P), .int .i64 (l1[k]!.Server), .int .i64 (l1[k]!.V), .int .i64 (l1[k]!.N)]) hp179.get5 (by kernel_rfl))), trivial⟩, ?_⟩
              refine HOPS.take 2 { wraps := [78] } [] [7, 8, 54, 55, 56, 78] [.pointer (some ⟨g10, 0, none⟩), .pointer (some ⟨g13, 0, none⟩), .slice s1.a s1.n s1.c, .int .i64 ((s1.n : Nat) : Int), .int .i64 (k : Int), .bool false] (by kernel_rfl) ⟨(show Ld Try.prog w177 42 ⟨g10, 1, none⟩ (.pointer (some ⟨b86, 0, none⟩)) from (Ld.row1 (P := Try.prog) (t := 42) (o := 1) (v := .pointer (some ⟨b86, 0, none⟩)) hp179.get6 (by kernel_rfl))), (show Ld Try.prog w177 44 ⟨g13, 1, none⟩ (.pointer (some ⟨rb74, 0, none⟩)) from (Ld.row1 (P := Try.prog) (t := 44) (o := 1) (v := .pointer (some ⟨rb74, 0, none⟩)) hp179.get7 (by kernel_rfl))), (show Ld Try.prog w177 52 ⟨g118, 0, none⟩ (Gsherdlaw17_Op.val (l1[k]!)) from (show Ld Try.prog w177 52 ⟨g118, 0, none⟩ (Gsherdlaw17_Op.val (l1[k]!)) from Ld.rowN (cs := [.int .i64 (l1[k]!.Kind), .int .i64 (l1[k]!.P), .int .i64 (l1[k]!.Server), .int .i64 (l1[k]!.V), .int .i64 (l1[k]!.N)]) hp179.get5 (by kernel_rfl))), trivial⟩ (fun w180 hS181 => QB.mk .nil (by kernel_rfl)) (fun b182 => ?_)
              refine HOPS.nil ?_
              refine thn_n ?_
              refine WP.condF rfl ?_
              refine WP.skip ?_
              refine blk_n ?_
              refine thn_n ?_
              refine WP.pure {} [] [7, 8, 54, 55, 56] [.pointer (some ⟨g10, 0, none⟩), .pointer (some ⟨g13, 0, none⟩), .slice s1.a s1.n s1.c, .int .i64 ((s1.n : Nat) : Int), .int .i64 ((k : Int) + 1)] (.cons (show Rng .i64 ((k : Int) + 1) from Rng.i64 (by omega)) .nil) (by kernel_rfl) (fun b183 => ?_)
              refine thn_n ?_
              exact ⟨l1.length - (k + 1), (by omega), k + 1, l168, cs169, ls170, m1_, cs1_, ls1_, rfl, ⟨by omega, hr171, hr1_⟩, by kernel_rfl, ((((((((((((((hp179.pull13).pull13).pull13).pull13).pull13).pull13).pull10).pull10).pull10).pull10).pull10).pull13).pull13).sub (.cons_cons _ (.cons_cons _ (.cons_cons _ (.cons_cons _ (.cons_cons _ (.cons_cons _ (.cons_cons _ (.cons_cons _ (.cons_cons _ (.cons_cons _ (.cons_cons _ (.cons_cons _ (.cons_cons _ (.cons _ (.slnil))))))))))))))))⟩
          · refine WP.exit ?_
            refine thn_x ?_
            refine thn_x ?_
            refine blk_hit ?_
            refine thn_n ?_
            refine WP.seq ?_
            refine WP.region _ rfl (by kernel_rfl) ?_
            refine OPS.batch 5 {} [.pointer (some ⟨b45, 0, none⟩), .pointer (some ⟨rb33, 0, none⟩)] [7, 8, 81, 83, 84] [.pointer (some ⟨g10, 0, none⟩), .pointer (some ⟨g13, 0, none⟩), .pointer (some ⟨b45, 0, none⟩), .pointer (some ⟨rb33, 0, none⟩), .agg #[.int .i64 1, .int .i64 0, .int .i64 0, .int .i64 0, .int .i64 0]] (.cons (show InB (0) (2) from ⟨by omega, by omega⟩) (.cons (Ld.row1 (P := Try.prog) (t := 42) (o := 0) (v := .pointer (some ⟨b45, 0, none⟩)) hp105.get0 (by kernel_rfl)) (.cons (show InB (0) (2) from ⟨by omega, by omega⟩) (.cons (Ld.row1 (P := Try.prog) (t := 44) (o := 0) (v := .pointer (some ⟨rb33, 0, none⟩)) hp105.get1 (by kernel_rfl)) .nil)))) (by kernel_rfl) (fun b184 => ?_)
            have hp187 := hp105.pull11
            have hp188 := hp187.pull11
            have hp189 := hp188.pull11
            have hp190 := hp189.pull11
            have hp191 := hp190.pull11
            refine OPS.cons (opStep.call (some 85) [.pointer (some ⟨b45, 0, none⟩), .pointer (some ⟨rb33, 0, none⟩), .agg #[.int .i64 1, .int .i64 0, .int .i64 0, .int .i64 0, .int .i64 0]] (by kernel_rfl) (p17_plays _ _ b45 mb46 rb33 one _ _ _ _ m1_ cs1_ ls1_ (⟨1, 0, 0, 0, 0⟩ : Gsherdlaw17_Op) _ hr1_ (by omega) hp191) ?_)
            rintro _ w192 ⟨l194, cs195, ls196, rfl, hr197, hp193⟩
            refine ⟨_, rfl, ?_⟩
            refine OPS.batch 6 {} [.pointer (some ⟨b86, 0, none⟩), .pointer (some ⟨rb74, 0, none⟩)] [86, 88, 90, 91] [.bool true, .pointer (some ⟨b86, 0, none⟩), .pointer (some ⟨rb74, 0, none⟩), .agg #[.int .i64 1, .int .i64 0, .int .i64 0, .int .i64 0, .int .i64 0]] (.cons (show InB (1) (2) from ⟨by omega, by omega⟩) (.cons (Ld.row1 (P := Try.prog) (t := 42) (o := 1) (v := .pointer (some ⟨b86, 0, none⟩)) hp193.get5 (by kernel_rfl)) (.cons (show InB (1) (2) from ⟨by omega, by omega⟩) (.cons (Ld.row1 (P := Try.prog) (t := 44) (o := 1) (v := .pointer (some ⟨rb74, 0, none⟩)) hp193.get6 (by kernel_rfl)) .nil)))) (by kernel_rfl) (fun b198 => ?_)
            refine OPS.want (by kernel_rfl) ?_
            have hp201 := hp193.pull11
            have hp202 := hp201.pull11
            have hp203 := hp202.pull11
            have hp204 := hp203.pull11
            have hp205 := hp204.pull11
            refine OPS.cons (opStep.call (some 92) [.pointer (some ⟨b86, 0, none⟩), .pointer (some ⟨rb74, 0, none⟩), .agg #[.int .i64 1, .int .i64 0, .int .i64 0, .int .i64 0, .int .i64 0]] (by kernel_rfl) (p17_plays _ _ b86 mb87 rb74 other _ _ _ _ m2_ cs2_ ls2_ (⟨1, 0, 0, 0, 0⟩ : Gsherdlaw17_Op) _ hr2_ (by omega) hp205) ?_)
            rintro _ w206 ⟨l208, cs209, ls210, rfl, hr211, hp207⟩
            refine ⟨_, rfl, ?_⟩
            refine OPS.batch 2 { wraps := [93] } [] [94] [.bool true] .nil (by kernel_rfl) (fun b212 => ?_)
            refine OPS.want (by kernel_rfl) ?_
            refine OPS.cons (opStep.call (some 95) [] (by kernel_rfl) (ph_taken _) ?_)
            rintro _ w215 ⟨rfl, hf216⟩
            refine ⟨_, rfl, ?_⟩
            have hp217 := hp207.step hf216
            refine OPS.batch 2 { wraps := [96] } [] [6] [.bool true] .nil (by kernel_rfl) (fun b218 => ?_)
            refine OPS.nil ?_
            refine thn_n ?_
            refine WP.ret ?_
            refine bodyQ.of _ rfl [.bool true] ⟨rfl, trivial⟩ ?_
            exact ⟨rfl, hp217.fr⟩
      · refine OPS.cons (opStep.call (some 29) [.agg #[.int .i64 other.N, .int .i64 other.K, .int .i64 other.Delta]] (by kernel_rfl) (r17_New_no other _ hcfg2_) ?_)
        rintro _ w219 ⟨rfl, hf220⟩
        refine ⟨_, rfl, ?_⟩
        have hp221 := hp67.step hf220
        refine OPS.batch 5 {} [] [2, 7, 8, 9, 10, 11, 12, 20, 21, 22] [.slice s1.a s1.n s1.c, .pointer (some ⟨g10, 0, none⟩), .pointer (some ⟨g13, 0, none⟩), .int .i64 1, .pointer (some ⟨g64, 0, none⟩), .pointer none, .int .i64 40, .slice (some ⟨g17, 0, none⟩) 2 2, .int .i64 2, .int .i64 1] .nil (by kernel_rfl) (fun b222 => ?_)
        refine OPS.nil ?_
        refine thn_n ?_
        refine WP.seq ?_
        refine WP.region _ rfl (by kernel_rfl) ?_
        refine OPS.batch 1 {} [.agg #[.int .i64 other.N, .int .i64 other.K, .int .i64 other.Delta]] [2, 7, 8, 9, 11, 12, 20, 21, 22, 33] [.slice s1.a s1.n s1.c, .pointer (some ⟨g10, 0, none⟩), .pointer (some ⟨g13, 0, none⟩), .int .i64 1, .pointer none, .int .i64 40, .slice (some ⟨g17, 0, none⟩) 2 2, .int .i64 2, .int .i64 1, .agg #[.int .i64 other.N, .int .i64 other.K, .int .i64 other.Delta]] (.cons (show Ld Try.prog w219 23 ⟨g64, 0, none⟩ (.agg #[.int .i64 other.N, .int .i64 other.K, .int .i64 other.Delta]) from Ld.rowN (cs := [.int .i64 other.N, .int .i64 other.K, .int .i64 other.Delta]) hp221.get0 (by kernel_rfl)) .nil) (by kernel_rfl) (fun b223 => ?_)
        refine OPS.cons (opStep.call (some 34) [.agg #[.int .i64 other.N, .int .i64 other.K, .int .i64 other.Delta]] (by kernel_rfl) (pi_New_no other _ hcfg2_) ?_)
        rintro _ w226 ⟨rfl, hf227⟩
        refine ⟨_, rfl, ?_⟩
        have hp228 := (hp221.sub (.cons _ (.cons_cons _ (.cons_cons _ (.cons_cons _ (.cons_cons _ (.cons_cons _ (.cons_cons _ (.cons_cons _ (.cons_cons _ (.slnil))))))))))).step hf227
        refine OPS.batch 5 {} [] [2, 7, 8, 9, 11, 12, 13, 14, 20, 21, 22] [.slice s1.a s1.n s1.c, .pointer (some ⟨g10, 0, none⟩), .pointer (some ⟨g13, 0, none⟩), .int .i64 1, .pointer none, .int .i64 40, .pointer none, .int .i64 40, .slice (some ⟨g17, 0, none⟩) 2 2, .int .i64 2, .int .i64 1] .nil (by kernel_rfl) (fun b229 => ?_)
        refine OPS.nil ?_
        refine thn_n ?_
        refine WP.seq ?_
        refine WP.seq ?_
        refine WP.pure { wraps := [46] } [] [2, 7, 8, 9, 11, 13, 20, 21, 22, 46] [.slice s1.a s1.n s1.c, .pointer (some ⟨g10, 0, none⟩), .pointer (some ⟨g13, 0, none⟩), .int .i64 1, .pointer none, .pointer none, .slice (some ⟨g17, 0, none⟩) 2 2, .int .i64 2, .int .i64 1, .bool (!(true == true))] .nil (by kernel_rfl) (fun b230 => ?_)
        refine thn_n ?_
        refine WP.test (p := ¬ (((True) ↔ (True)))) rfl (Bp.not (Bp.beq Bp.t Bp.t)) (fun h231 => ?_) (fun h231 => ?_)
        · refine WP.seq ?_
          refine WP.pure {} [] [6] [.bool false] .nil (by kernel_rfl) (fun b232 => ?_)
          refine thn_n ?_
          refine WP.ret ?_
          refine thn_r ?_
          refine blk_r ?_
          refine thn_r ?_
          refine thn_r ?_
          refine blk_r ?_
          refine thn_r ?_
          refine bodyQ.of _ rfl [.bool false] ⟨rfl, trivial⟩ ?_
          exfalso
          first | exact h231 Iff.rfl | simp at h231
        · replace h231 := Classical.not_not.1 h231
          refine WP.skip ?_
          refine thn_n ?_
          refine WP.seq ?_
          refine WP.region _ rfl (by kernel_rfl) ?_
          refine OPS.batch 3 {} [] [2, 7, 8, 9, 11, 20, 21, 22, 48, 49] [.slice s1.a s1.n s1.c, .pointer (some ⟨g10, 0, none⟩), .pointer (some ⟨g13, 0, none⟩), .int .i64 1, .pointer none, .slice (some ⟨g17, 0, none⟩) 2 2, .int .i64 2, .int .i64 1, .pointer none, .pointer (some ⟨g10, 1, none⟩)] (.cons (show InB (1) (2) from ⟨by omega, by omega⟩) .nil) (by kernel_rfl) (fun b233 => ?_)
          refine OPS.cons (opStep.store0 hp228 rfl [.pointer none] [.pointer (some ⟨b45, 0, none⟩), .pointer none] (by kernel_rfl) (fun w234 hp235 => ?_))
          refine OPS.nil ?_
          refine thn_n ?_
          refine WP.region _ rfl (by kernel_rfl) ?_
          refine OPS.batch 3 {} [] [2, 7, 8, 20, 21, 22, 51, 52] [.slice s1.a s1.n s1.c, .pointer (some ⟨g10, 0, none⟩), .pointer (some ⟨g13, 0, none⟩), .slice (some ⟨g17, 0, none⟩) 2 2, .int .i64 2, .int .i64 1, .pointer none, .pointer (some ⟨g13, 1, none⟩)] (.cons (show InB (1) (2) from ⟨by omega, by omega⟩) .nil) (by kernel_rfl) (fun b236 => ?_)
          refine OPS.cons (opStep.store1 hp235 rfl [.pointer none] [.pointer (some ⟨rb33, 0, none⟩), .pointer none] (by kernel_rfl) (fun w237 hp238 => ?_))
          refine OPS.nil ?_
          refine blk_n ?_
          refine thn_n ?_
          refine WP.pure {} [] [2, 7, 8, 20, 21, 22] [.slice s1.a s1.n s1.c, .pointer (some ⟨g10, 0, none⟩), .pointer (some ⟨g13, 0, none⟩), .slice (some ⟨g17, 0, none⟩) 2 2, .int .i64 2, .int .i64 2] (.cons (show Rng .i64 (2) from Rng.i64 (by omega)) .nil) (by kernel_rfl) (fun b239 => ?_)
          refine thn_n ?_
          refine RND.step ?_
          refine WP.seq ?_
          refine WP.pure {} [] [2, 7, 8, 20, 21, 22, 23] [.slice s1.a s1.n s1.c, .pointer (some ⟨g10, 0, none⟩), .pointer (some ⟨g13, 0, none⟩), .slice (some ⟨g17, 0, none⟩) 2 2, .int .i64 2, .int .i64 2, .bool false] .nil (by kernel_rfl) (fun b240 => ?_)
          refine thn_n ?_
          refine WP.seq ?_
          refine WP.condF rfl ?_
          refine WP.exit ?_
          refine thn_x ?_
          refine thn_x ?_
          refine blk_hit ?_
          refine thn_n ?_
          refine WP.seq ?_
          refine WP.seq ?_
          refine WP.pure {} [] [7, 8, 54, 55, 56] [.pointer (some ⟨g10, 0, none⟩), .pointer (some ⟨g13, 0, none⟩), .slice s1.a s1.n s1.c, .int .i64 ((s1.n : Nat) : Int), .int .i64 0] .nil (by kernel_rfl) (fun b241 => ?_)
          refine thn_n ?_
          refine WP.block ?_
          refine WP.loop (fun mz_ e242 w243 => ∃ (k : Nat) (m1_ : List (Int × Int)) (cs1_ : List Bool) (ls1_ : List Int), mz_ = l1.length - k ∧ (k ≤ l1.length ∧ RelP one m1_ cs1_ ls1_) ∧ List.map e242 [7, 8, 54, 55, 56] = [.pointer (some ⟨g10, 0, none⟩), .pointer (some ⟨g13, 0, none⟩), .slice s1.a s1.n s1.c, .int .i64 ((s1.n : Nat) : Int), .int .i64 (k : Int)] ∧ Hp w Non [Res.row g10 [.pointer (some ⟨b45, 0, none⟩), .pointer none] 43, Res.row g13 [.pointer (some ⟨rb33, 0, none⟩), .pointer none] 45, Res.row b45 [.int .i64 one.N, .int .i64 one.K, .int .i64 one.Delta, .map (some mb46)] 98, Res.mp mb46 kI vI m1_, Res.row rb33 [.int .i64 one.N, .int .i64 one.K, .int .i64 one.Delta, .slice aC34 one.N.toNat kC35, .slice aL36 one.N.toNat kL37] 95, Res.own 4 1 (.slice aC34 one.N.toNat kC35) one.N.toNat (List.flatMap (fun (y : Bool) => [Go.Value.bool y]) cs1_), Res.own 3 1 (.slice aL36 one.N.toNat kL37) one.N.toNat (List.flatMap (fun (y : Int) => [Go.Value.int .i64 y]) ls1_), Res.row g17 [.int .i64 one.N, .int .i64 one.K, .int .i64 one.Delta, .int .i64 other.N, .int .i64 other.K, .int .i64 other.Delta] 23] w243) (l1.length - (0)) ⟨0, ([] : List (Int × Int)), (List.replicate one.N.toNat false), (List.replicate one.N.toNat (0 : Int)), rfl, ⟨by omega, (RelP.nil one)⟩, by kernel_rfl, hp238⟩ ?_
          rintro _ e242 w243 ⟨k, m1_, cs1_, ls1_, rfl, hI245, hE246, hp244⟩
          obtain ⟨b247, rfl⟩ := toMk hE246
          clear hE246
          obtain ⟨pa, hr1_⟩ := hI245
          have pt1 := Int.lt_tmod_of_pos (l1[k]!.P) (show (0 : Int) < 2 by omega)
          have pt2 := Int.tmod_lt_of_pos (l1[k]!.P) (show (0 : Int) < 2 by omega)
          refine WP.seq ?_
          refine WP.pure {} [] [7, 8, 54, 55, 56, 57] [.pointer (some ⟨g10, 0, none⟩), .pointer (some ⟨g13, 0, none⟩), .slice s1.a s1.n s1.c, .int .i64 ((s1.n : Nat) : Int), .int .i64 (k : Int), .bool (decide ((k : Int) < ((s1.n : Nat) : Int)))] .nil (by kernel_rfl) (fun b248 => ?_)
          refine thn_n ?_
          refine WP.seq ?_
          refine WP.test (p := (k : Int) < ((s1.n : Nat) : Int)) rfl Bp.dec (fun h249 => ?_) (fun h249 => ?_)
          · refine WP.skip ?_
            refine thn_n ?_
            refine WP.seq ?_
            refine WP.block ?_
            refine WP.seq ?_
            refine WP.region _ rfl (by kernel_rfl) ?_
            have hy253 : (l1)[k]? = some l1[k]! := get_bang (by first | (omega) | (simp only [List.length_append, List.length_cons, List.length_nil]; omega) | (simp only [List.length_take, List.length_append, List.length_cons, List.length_nil]; omega))
            refine OPS.batch 2 {} [Gsherdlaw17_Op.val (l1[k]!)] [7, 8, 54, 55, 56, 59] [.pointer (some ⟨g10, 0, none⟩), .pointer (some ⟨g13, 0, none⟩), .slice s1.a s1.n s1.c, .int .i64 ((s1.n : Nat) : Int), .int .i64 (k : Int), Gsherdlaw17_Op.val (l1[k]!)] (.cons (show InB ((k : Int)) (s1.n) from ⟨by omega, by omega⟩) (.cons ((o1.rd.at hp244).some (by omega)) (.cons (Ld.add0 (Ld.elN (P := Try.prog) (t := 52) (o1.rd.at hp244).rd 5 (fun _ => rfl) hy253 (o := 0) (cs := [.int .i64 (l1[k]!.Kind), .int .i64 (l1[k]!.P), .int .i64 (l1[k]!.Server), .int .i64 (l1[k]!.V), .int .i64 (l1[k]!.N)]) (by kernel_rfl))) .nil))) (by kernel_rfl) (fun b254 => ?_)
            refine OPS.cons (opStep.alloc hp244 [.int .i64 0, .int .i64 0, .int .i64 0, .int .i64 0, .int .i64 0] (by kernel_rfl) (fun g257 w255 hp256 => ?_))
            refine OPS.cons (opStep.store0 hp256 rfl [.int .i64 (l1[k]!.Kind), .int .i64 (l1[k]!.P), .int .i64 (l1[k]!.Server), .int .i64 (l1[k]!.V), .int .i64 (l1[k]!.N)] [.int .i64 (l1[k]!.Kind), .int .i64 (l1[k]!.P), .int .i64 (l1[k]!.Server), .int .i64 (l1[k]!.V), .int .i64 (l1[k]!.N)] (by kernel_rfl) (fun w258 hp259 => ?_))
            refine OPS.nil ?_
            refine thn_n ?_
            refine WP.seq ?_
            have hk260 : (((l1[k]!.P).tmod 2) + 2).tmod 2 = 0 ∨ (((l1[k]!.P).tmod 2) + 2).tmod 2 = 1 := two_of _
            rcases hk260 with hk260 | hk260
            · refine WP.pure { subs := [64] } [.int .i64 (l1[k]!.P), .int .i64 0] [7, 8, 16, 17, 54, 55, 56] [.pointer (some ⟨g10, 0, none⟩), .pointer (some ⟨g13, 0, none⟩), .pointer (some ⟨g257, 0, none⟩), .int .i64 0, .slice s1.a s1.n s1.c, .int .i64 ((s1.n : Nat) : Int), .int .i64 (k : Int)] (.cons (Ld.row1 (P := Try.prog) (t := 3) (o := 1) (v := .int .i64 (l1[k]!.P)) hp259.get0 (by kernel_rfl)) (.cons (show (2 : Int) ≠ 0 from by omega) (.cons (show Rng .i64 (((l1[k]!.P).tmod 2) + 2) from Rng.i64 (by omega)) (.cons (show (2 : Int) ≠ 0 from by omega) (.cons (show (.int .i64 ((((l1[k]!.P).tmod 2) + 2).tmod 2) : Go.Value) = .int .i64 0 from congrArg (Value.int .i64) (hk260)) .nil))))) (by kernel_rfl) (fun b261 => ?_)
              refine thn_n ?_
              refine WP.seq ?_
              have hp262 := hp259.drew
              refine WP.held (fun w263 => Ld Try.prog w263 42 ⟨g10, 0, none⟩ (.pointer (some ⟨b45, 0, none⟩)) ∧ Ld Try.prog w263 44 ⟨g13, 0, none⟩ (.pointer (some ⟨rb33, 0, none⟩)) ∧ Ld Try.prog w263 52 ⟨g257, 0, none⟩ (Gsherdlaw17_Op.val (l1[k]!)) ∧ True) [] [(0, true), (1, true), (2, true), (3, true), (4, true), (5, true), (6, true), (7, false), (8, true), (9, true), (10, true), (11, false), (12, true), (13, true)] (np_thn (np_blk (np_thn (np_thn (np_blk (np_thn np_body)))))) (by kernel_rfl) ?_
              refine HOPS.take 7 {} [.pointer (some ⟨b45, 0, none⟩), .pointer (some ⟨rb33, 0, none⟩), Gsherdlaw17_Op.val (l1[k]!)] [7, 8, 16, 54, 55, 56, 67, 70, 71] [.pointer (some ⟨g10, 0, none⟩), .pointer (some ⟨g13, 0, none⟩), .pointer (some ⟨g257, 0, none⟩), .slice s1.a s1.n s1.c, .int .i64 ((s1.n : Nat) : Int), .int .i64 (k : Int), .pointer (some ⟨b45, 0, none⟩), .pointer (some ⟨rb33, 0, none⟩), Gsherdlaw17_Op.val (l1[k]!)] (by kernel_rfl) ⟨(show Ld Try.prog w258.drew 42 ⟨g10, 0, none⟩ (.pointer (some ⟨b45, 0, none⟩)) from (Ld.row1 (P := Try.prog) (t := 42) (o := 0) (v := .pointer (some ⟨b45, 0, none⟩)) hp262.get1 (by kernel_rfl))), (show Ld Try.prog w258.drew 44 ⟨g13, 0, none⟩ (.pointer (some ⟨rb33, 0, none⟩)) from (Ld.row1 (P := Try.prog) (t := 44) (o := 0) (v := .pointer (some ⟨rb33, 0, none⟩)) hp262.get2 (by kernel_rfl))), (show Ld Try.prog w258.drew 52 ⟨g257, 0, none⟩ (Gsherdlaw17_Op.val (l1[k]!)) from (show Ld Try.prog w258.drew 52 ⟨g257, 0, none⟩ (Gsherdlaw17_Op.val (l1[k]!)) from Ld.rowN (cs := [.int .i64 (l1[k]!.Kind), .int .i64 (l1[k]!.P), .int .i64 (l1[k]!.Server), .int .i64 (l1[k]!.V), .int .i64 (l1[k]!.N)]) hp262.get0 (by kernel_rfl))), trivial⟩ (fun w264 hS265 => QB.mk (.cons (show InB (0) (2) from ⟨by omega, by omega⟩) (.cons (hS265.1) (.cons (show InB (0) (2) from ⟨by omega, by omega⟩) (.cons (hS265.2.1) (.cons (hS265.2.2.1) .nil))))) (by kernel_rfl)) (fun b266 => ?_)
              have hp269 := hp262.pull7
              have hp270 := hp269.pull7
              have hp271 := hp270.pull7
              have hp272 := hp271.pull7
              have hp273 := hp272.pull7
              refine HOPS.eff _ rfl (opStep.call (some 72) [.pointer (some ⟨b45, 0, none⟩), .pointer (some ⟨rb33, 0, none⟩), Gsherdlaw17_Op.val (l1[k]!)] (by kernel_rfl) (p17_plays _ _ b45 mb46 rb33 one _ _ _ _ m1_ cs1_ ls1_ (l1[k]!) _ hr1_ (by omega) hp273) ?_)
              rintro _ w274 ⟨l276, cs277, ls278, rfl, hr279, hp275⟩
              refine ⟨_, rfl, ?_⟩
              refine ⟨.inr ⟨(show Ld Try.prog w274 42 ⟨g10, 0, none⟩ (.pointer (some ⟨b45, 0, none⟩)) from (Ld.row1 (P := Try.prog) (t := 42) (o := 0) (v := .pointer (some ⟨b45, 0, none⟩)) hp275.get6 (by kernel_rfl))), (show Ld Try.prog w274 44 ⟨g13, 0, none⟩ (.pointer (some ⟨rb33, 0, none⟩)) from (Ld.row1 (P := Try.prog) (t := 44) (o := 0) (v := .pointer (some ⟨rb33, 0, none⟩)) hp275.get7 (by kernel_rfl))), (show Ld Try.prog w274 52 ⟨g257, 0, none⟩ (Gsherdlaw17_Op.val (l1[k]!)) from (show Ld Try.prog w274 52 ⟨g257, 0, none⟩ (Gsherdlaw17_Op.val (l1[k]!)) from Ld.rowN (cs := [.int .i64 (l1[k]!.Kind), .int .i64 (l1[k]!.P), .int .i64 (l1[k]!.Server), .int .i64 (l1[k]!.V), .int .i64 (l1[k]!.N)]) hp275.get5 (by kernel_rfl))), trivial⟩, ?_⟩
              refine HOPS.take 3 {} [Gsherdlaw17_Op.val (l1[k]!)] [7, 8, 54, 55, 56, 74, 75] [.pointer (some ⟨g10, 0, none⟩), .pointer (some ⟨g13, 0, none⟩), .slice s1.a s1.n s1.c, .int .i64 ((s1.n : Nat) : Int), .int .i64 (k : Int), .bool false, Gsherdlaw17_Op.val (l1[k]!)] (by kernel_rfl) ⟨(show Ld Try.prog w274 42 ⟨g10, 0, none⟩ (.pointer (some ⟨b45, 0, none⟩)) from (Ld.row1 (P := Try.prog) (t := 42) (o := 0) (v := .pointer (some ⟨b45, 0, none⟩)) hp275.get6 (by kernel_rfl))), (show Ld Try.prog w274 44 ⟨g13, 0, none⟩ (.pointer (some ⟨rb33, 0, none⟩)) from (Ld.row1 (P := Try.prog) (t := 44) (o := 0) (v := .pointer (some ⟨rb33, 0, none⟩)) hp275.get7 (by kernel_rfl))), (show Ld Try.prog w274 52 ⟨g257, 0, none⟩ (Gsherdlaw17_Op.val (l1[k]!)) from (show Ld Try.prog w274 52 ⟨g257, 0, none⟩ (Gsherdlaw17_Op.val (l1[k]!)) from Ld.rowN (cs := [.int .i64 (l1[k]!.Kind), .int .i64 (l1[k]!.P), .int .i64 (l1[k]!.Server), .int .i64 (l1[k]!.V), .int .i64 (l1[k]!.N)]) hp275.get5 (by kernel_rfl))), trivial⟩ (fun w280 hS281 => QB.mk (.cons (hS281.2.2.1) .nil) (by kernel_rfl)) (fun b282 => ?_)
              refine HOPS.effW _ rfl (by kernel_rfl) (opStep.call (some 76) [.pointer none, .pointer none, Gsherdlaw17_Op.val (l1[k]!)] (by kernel_rfl) (p17_plays_nil (l1[k]!) _) ?_)
              rintro _ w285 ⟨rfl, hf286⟩
              refine ⟨_, rfl, ?_⟩
              have hp287 := hp275.step hf286
              refine ⟨.inr ⟨(show Ld Try.prog w285 42 ⟨g10, 0, none⟩ (.pointer (some ⟨b45, 0, none⟩)) from (Ld.row1 (P := Try.prog) (t := 42) (o := 0) (v := .pointer (some ⟨b45, 0, none⟩)) hp287.get6 (by kernel_rfl))), (show Ld Try.prog w285 44 ⟨g13, 0, none⟩ (.pointer (some ⟨rb33, 0, none⟩)) from (Ld.row1 (P := Try.prog) (t := 44) (o := 0) (v := .pointer (some ⟨rb33, 0, none⟩)) hp287.get7 (by kernel_rfl))), (show Ld Try.prog w285 52 ⟨g257, 0, none⟩ (Gsherdlaw17_Op.val (l1[k]!)) from (show Ld Try.prog w285 52 ⟨g257, 0, none⟩ (Gsherdlaw17_Op.val (l1[k]!)) from Ld.rowN (cs := [.int .i64 (l1[k]!.Kind), .int .i64 (l1[k]!.P), .int .i64 (l1[k]!.Server), .int .i64 (l1[k]!.V), .int .i64 (l1[k]!.N)]) hp287.get5 (by kernel_rfl))), trivial⟩, ?_⟩
              refine HOPS.take 2 { wraps := [78] } [] [7, 8, 54, 55, 56, 78] [.pointer (some ⟨g10, 0, none⟩), .pointer (some ⟨g13, 0, none⟩), .slice s1.a s1.n s1.c, .int .i64 ((s1.n : Nat) : Int), .int .i64 (k : Int), .bool false] (by kernel_rfl) ⟨(show Ld Try.prog w285 42 ⟨g10, 0, none⟩ (.pointer (some ⟨b45, 0, none⟩)) from (Ld.row1 (P := Try.prog) (t := 42) (o := 0) (v := .pointer (some ⟨b45, 0, none⟩)) hp287.get6 (by kernel_rfl))), (show Ld Try.prog w285 44 ⟨g13, 0, none⟩ (.pointer (some ⟨rb33, 0, none⟩)) from (Ld.row1 (P := Try.prog) (t := 44) (o := 0) (v := .pointer (some ⟨rb33, 0, none⟩)) hp287.get7 (by kernel_rfl))), (show Ld Try.prog w285 52 ⟨g257, 0, none⟩ (Gsherdlaw17_Op.val (l1[k]!)) from (show Ld Try.prog w285 52 ⟨g257, 0, none⟩ (Gsherdlaw17_Op.val (l1[k]!)) from Ld.rowN (cs := [.int .i64 (l1[k]!.Kind), .int .i64 (l1[k]!.P), .int .i64 (l1[k]!.Server), .int .i64 (l1[k]!.V), .int .i64 (l1[k]!.N)]) hp287.get5 (by kernel_rfl))), trivial⟩ (fun w288 hS289 => QB.mk .nil (by kernel_rfl)) (fun b290 => ?_)
              refine HOPS.nil ?_
              refine thn_n ?_
              refine WP.condF rfl ?_
              refine WP.skip ?_
              refine blk_n ?_
              refine thn_n ?_
              refine WP.pure {} [] [7, 8, 54, 55, 56] [.pointer (some ⟨g10, 0, none⟩), .pointer (some ⟨g13, 0, none⟩), .slice s1.a s1.n s1.c, .int .i64 ((s1.n : Nat) : Int), .int .i64 ((k : Int) + 1)] (.cons (show Rng .i64 ((k : Int) + 1) from Rng.i64 (by omega)) .nil) (by kernel_rfl) (fun b291 => ?_)
              refine thn_n ?_
              exact ⟨l1.length - (k + 1), (by omega), k + 1, l276, cs277, ls278, rfl, ⟨by omega, hr279⟩, by kernel_rfl, (((((((((hp287.pull8).pull5).pull5).pull5).pull5).pull5).pull8).pull8).sub (.cons_cons _ (.cons_cons _ (.cons_cons _ (.cons_cons _ (.cons_cons _ (.cons_cons _ (.cons_cons _ (.cons_cons _ (.cons _ (.slnil)))))))))))⟩
            · refine WP.pure { subs := [64] } [.int .i64 (l1[k]!.P), .int .i64 1] [7, 8, 16, 17, 54, 55, 56] [.pointer (some ⟨g10, 0, none⟩), .pointer (some ⟨g13, 0, none⟩), .pointer (some ⟨g257, 0, none⟩), .int .i64 1, .slice s1.a s1.n s1.c, .int .i64 ((s1.n : Nat) : Int), .int .i64 (k : Int)] (.cons (Ld.row1 (P := Try.prog) (t := 3) (o := 1) (v := .int .i64 (l1[k]!.P)) hp259.get0 (by kernel_rfl)) (.cons (show (2 : Int) ≠ 0 from by omega) (.cons (show Rng .i64 (((l1[k]!.P).tmod 2) + 2) from Rng.i64 (by omega)) (.cons (show (2 : Int) ≠ 0 from by omega) (.cons (show (.int .i64 ((((l1[k]!.P).tmod 2) + 2).tmod 2) : Go.Value) = .int .i64 1 from congrArg (Value.int .i64) (hk260)) .nil))))) (by kernel_rfl) (fun b292 => ?_)
              refine thn_n ?_
              refine WP.seq ?_
              have hp293 := hp259.drew
              refine WP.held (fun w294 => Ld Try.prog w294 42 ⟨g10, 1, none⟩ (.pointer none) ∧ Ld Try.prog w294 44 ⟨g13, 1, none⟩ (.pointer none) ∧ Ld Try.prog w294 52 ⟨g257, 0, none⟩ (Gsherdlaw17_Op.val (l1[k]!)) ∧ True) [] [(0, true), (1, true), (2, true), (3, true), (4, true), (5, true), (6, true), (7, false), (8, true), (9, true), (10, true), (11, false), (12, true), (13, true)] (np_thn (np_blk (np_thn (np_thn (np_blk (np_thn np_body)))))) (by kernel_rfl) ?_
              refine HOPS.take 7 {} [.pointer none, .pointer none, Gsherdlaw17_Op.val (l1[k]!)] [7, 8, 16, 54, 55, 56, 67, 70, 71] [.pointer (some ⟨g10, 0, none⟩), .pointer (some ⟨g13, 0, none⟩), .pointer (some ⟨g257, 0, none⟩), .slice s1.a s1.n s1.c, .int .i64 ((s1.n : Nat) : Int), .int .i64 (k : Int), .pointer none, .pointer none, Gsherdlaw17_Op.val (l1[k]!)] (by kernel_rfl) ⟨(show Ld Try.prog w258.drew 42 ⟨g10, 1, none⟩ (.pointer none) from (Ld.row1 (P := Try.prog) (t := 42) (o := 1) (v := .pointer none) hp293.get1 (by kernel_rfl))), (show Ld Try.prog w258.drew 44 ⟨g13, 1, none⟩ (.pointer none) from (Ld.row1 (P := Try.prog) (t := 44) (o := 1) (v := .pointer none) hp293.get2 (by kernel_rfl))), (show Ld Try.prog w258.drew 52 ⟨g257, 0, none⟩ (Gsherdlaw17_Op.val (l1[k]!)) from (show Ld Try.prog w258.drew 52 ⟨g257, 0, none⟩ (Gsherdlaw17_Op.val (l1[k]!)) from Ld.rowN (cs := [.int .i64 (l1[k]!.Kind), .int .i64 (l1[k]!.P), .int .i64 (l1[k]!.Server), .int .i64 (l1[k]!.V), .int .i64 (l1[k]!.N)]) hp293.get0 (by kernel_rfl))), trivial⟩ (fun w295 hS296 => QB.mk (.cons (show InB (1) (2) from ⟨by omega, by omega⟩) (.cons (hS296.1) (.cons (show InB (1) (2) from ⟨by omega, by omega⟩) (.cons (hS296.2.1) (.cons (hS296.2.2.1) .nil))))) (by kernel_rfl)) (fun b297 => ?_)
              refine HOPS.eff _ rfl (opStep.call (some 72) [.pointer none, .pointer none, Gsherdlaw17_Op.val (l1[k]!)] (by kernel_rfl) (p17_plays_nil (l1[k]!) _) ?_)
              rintro _ w300 ⟨rfl, hf301⟩
              refine ⟨_, rfl, ?_⟩
              have hp302 := hp293.step hf301
              refine ⟨.inr ⟨(show Ld Try.prog w300 42 ⟨g10, 1, none⟩ (.pointer none) from (Ld.row1 (P := Try.prog) (t := 42) (o := 1) (v := .pointer none) hp302.get1 (by kernel_rfl))), (show Ld Try.prog w300 44 ⟨g13, 1, none⟩ (.pointer none) from (Ld.row1 (P := Try.prog) (t := 44) (o := 1) (v := .pointer none) hp302.get2 (by kernel_rfl))), (show Ld Try.prog w300 52 ⟨g257, 0, none⟩ (Gsherdlaw17_Op.val (l1[k]!)) from (show Ld Try.prog w300 52 ⟨g257, 0, none⟩ (Gsherdlaw17_Op.val (l1[k]!)) from Ld.rowN (cs := [.int .i64 (l1[k]!.Kind), .int .i64 (l1[k]!.P), .int .i64 (l1[k]!.Server), .int .i64 (l1[k]!.V), .int .i64 (l1[k]!.N)]) hp302.get0 (by kernel_rfl))), trivial⟩, ?_⟩
              refine HOPS.take 3 {} [Gsherdlaw17_Op.val (l1[k]!)] [7, 8, 54, 55, 56, 74, 75] [.pointer (some ⟨g10, 0, none⟩), .pointer (some ⟨g13, 0, none⟩), .slice s1.a s1.n s1.c, .int .i64 ((s1.n : Nat) : Int), .int .i64 (k : Int), .bool false, Gsherdlaw17_Op.val (l1[k]!)] (by kernel_rfl) ⟨(show Ld Try.prog w300 42 ⟨g10, 1, none⟩ (.pointer none) from (Ld.row1 (P := Try.prog) (t := 42) (o := 1) (v := .pointer none) hp302.get1 (by kernel_rfl))), (show Ld Try.prog w300 44 ⟨g13, 1, none⟩ (.pointer none) from (Ld.row1 (P := Try.prog) (t := 44) (o := 1) (v := .pointer none) hp302.get2 (by kernel_rfl))), (show Ld Try.prog w300 52 ⟨g257, 0, none⟩ (Gsherdlaw17_Op.val (l1[k]!)) from (show Ld Try.prog w300 52 ⟨g257, 0, none⟩ (Gsherdlaw17_Op.val (l1[k]!)) from Ld.rowN (cs := [.int .i64 (l1[k]!.Kind), .int .i64 (l1[k]!.P), .int .i64 (l1[k]!.Server), .int .i64 (l1[k]!.V), .int .i64 (l1[k]!.N)]) hp302.get0 (by kernel_rfl))), trivial⟩ (fun w303 hS304 => QB.mk (.cons (hS304.2.2.1) .nil) (by kernel_rfl)) (fun b305 => ?_)
              refine HOPS.effW _ rfl (by kernel_rfl) (opStep.call (some 76) [.pointer none, .pointer none, Gsherdlaw17_Op.val (l1[k]!)] (by kernel_rfl) (p17_plays_nil (l1[k]!) _) ?_)
              rintro _ w308 ⟨rfl, hf309⟩
              refine ⟨_, rfl, ?_⟩
              have hp310 := hp302.step hf309
              refine ⟨.inr ⟨(show Ld Try.prog w308 42 ⟨g10, 1, none⟩ (.pointer none) from (Ld.row1 (P := Try.prog) (t := 42) (o := 1) (v := .pointer none) hp310.get1 (by kernel_rfl))), (show Ld Try.prog w308 44 ⟨g13, 1, none⟩ (.pointer none) from (Ld.row1 (P := Try.prog) (t := 44) (o := 1) (v := .pointer none) hp310.get2 (by kernel_rfl))), (show Ld Try.prog w308 52 ⟨g257, 0, none⟩ (Gsherdlaw17_Op.val (l1[k]!)) from (show Ld Try.prog w308 52 ⟨g257, 0, none⟩ (Gsherdlaw17_Op.val (l1[k]!)) from Ld.rowN (cs := [.int .i64 (l1[k]!.Kind), .int .i64 (l1[k]!.P), .int .i64 (l1[k]!.Server), .int .i64 (l1[k]!.V), .int .i64 (l1[k]!.N)]) hp310.get0 (by kernel_rfl))), trivial⟩, ?_⟩
              refine HOPS.take 2 { wraps := [78] } [] [7, 8, 54, 55, 56, 78] [.pointer (some ⟨g10, 0, none⟩), .pointer (some ⟨g13, 0, none⟩), .slice s1.a s1.n s1.c, .int .i64 ((s1.n : Nat) : Int), .int .i64 (k : Int), .bool false] (by kernel_rfl) ⟨(show Ld Try.prog w308 42 ⟨g10, 1, none⟩ (.pointer none) from (Ld.row1 (P := Try.prog) (t := 42) (o := 1) (v := .pointer none) hp310.get1 (by kernel_rfl))), (show Ld Try.prog w308 44 ⟨g13, 1, none⟩ (.pointer none) from (Ld.row1 (P := Try.prog) (t := 44) (o := 1) (v := .pointer none) hp310.get2 (by kernel_rfl))), (show Ld Try.prog w308 52 ⟨g257, 0, none⟩ (Gsherdlaw17_Op.val (l1[k]!)) from (show Ld Try.prog w308 52 ⟨g257, 0, none⟩ (Gsherdlaw17_Op.val (l1[k]!)) from Ld.rowN (cs := [.int .i64 (l1[k]!.Kind), .int .i64 (l1[k]!.P), .int .i64 (l1[k]!.Server), .int .i64 (l1[k]!.V), .int .i64 (l1[k]!.N)]) hp310.get0 (by kernel_rfl))), trivial⟩ (fun w311 hS312 => QB.mk .nil (by kernel_rfl)) (fun b313 => ?_)
              refine HOPS.nil ?_
              refine thn_n ?_
              refine WP.condF rfl ?_
              refine WP.skip ?_
              refine blk_n ?_
              refine thn_n ?_
              refine WP.pure {} [] [7, 8, 54, 55, 56] [.pointer (some ⟨g10, 0, none⟩), .pointer (some ⟨g13, 0, none⟩), .slice s1.a s1.n s1.c, .int .i64 ((s1.n : Nat) : Int), .int .i64 ((k : Int) + 1)] (.cons (show Rng .i64 ((k : Int) + 1) from Rng.i64 (by omega)) .nil) (by kernel_rfl) (fun b314 => ?_)
              refine thn_n ?_
              exact ⟨l1.length - (k + 1), (by omega), k + 1, m1_, cs1_, ls1_, rfl, ⟨by omega, hr1_⟩, by kernel_rfl, (hp310.sub (.cons _ (.cons_cons _ (.cons_cons _ (.cons_cons _ (.cons_cons _ (.cons_cons _ (.cons_cons _ (.cons_cons _ (.cons_cons _ (.slnil)))))))))))⟩
          · refine WP.exit ?_
            refine thn_x ?_
            refine thn_x ?_
            refine blk_hit ?_
            refine thn_n ?_
            refine WP.seq ?_
            refine WP.region _ rfl (by kernel_rfl) ?_
            refine OPS.batch 5 {} [.pointer (some ⟨b45, 0, none⟩), .pointer (some ⟨rb33, 0, none⟩)] [7, 8, 81, 83, 84] [.pointer (some ⟨g10, 0, none⟩), .pointer (some ⟨g13, 0, none⟩), .pointer (some ⟨b45, 0, none⟩), .pointer (some ⟨rb33, 0, none⟩), .agg #[.int .i64 1, .int .i64 0, .int .i64 0, .int .i64 0, .int .i64 0]] (.cons (show InB (0) (2) from ⟨by omega, by omega⟩) (.cons (Ld.row1 (P := Try.prog) (t := 42) (o := 0) (v := .pointer (some ⟨b45, 0, none⟩)) hp244.get0 (by kernel_rfl)) (.cons (show InB (0) (2) from ⟨by omega, by omega⟩) (.cons (Ld.row1 (P := Try.prog) (t := 44) (o := 0) (v := .pointer (some ⟨rb33, 0, none⟩)) hp244.get1 (by kernel_rfl)) .nil)))) (by kernel_rfl) (fun b315 => ?_)
            have hp318 := hp244.pull6
            have hp319 := hp318.pull6
            have hp320 := hp319.pull6
            have hp321 := hp320.pull6
            have hp322 := hp321.pull6
            refine OPS.cons (opStep.call (some 85) [.pointer (some ⟨b45, 0, none⟩), .pointer (some ⟨rb33, 0, none⟩), .agg #[.int .i64 1, .int .i64 0, .int .i64 0, .int .i64 0, .int .i64 0]] (by kernel_rfl) (p17_plays _ _ b45 mb46 rb33 one _ _ _ _ m1_ cs1_ ls1_ (⟨1, 0, 0, 0, 0⟩ : Gsherdlaw17_Op) _ hr1_ (by omega) hp322) ?_)
            rintro _ w323 ⟨l325, cs326, ls327, rfl, hr328, hp324⟩
            refine ⟨_, rfl, ?_⟩
            refine OPS.batch 6 {} [.pointer none, .pointer none] [86, 88, 90, 91] [.bool true, .pointer none, .pointer none, .agg #[.int .i64 1, .int .i64 0, .int .i64 0, .int .i64 0, .int .i64 0]] (.cons (show InB (1) (2) from ⟨by omega, by omega⟩) (.cons (Ld.row1 (P := Try.prog) (t := 42) (o := 1) (v := .pointer none) hp324.get5 (by kernel_rfl)) (.cons (show InB (1) (2) from ⟨by omega, by omega⟩) (.cons (Ld.row1 (P := Try.prog) (t := 44) (o := 1) (v := .pointer none) hp324.get6 (by kernel_rfl)) .nil)))) (by kernel_rfl) (fun b329 => ?_)
            refine OPS.want (by kernel_rfl) ?_
            refine OPS.cons (opStep.call (some 92) [.pointer none, .pointer none, .agg #[.int .i64 1, .int .i64 0, .int .i64 0, .int .i64 0, .int .i64 0]] (by kernel_rfl) (p17_plays_nil (⟨1, 0, 0, 0, 0⟩ : Gsherdlaw17_Op) _) ?_)
            rintro _ w332 ⟨rfl, hf333⟩
            refine ⟨_, rfl, ?_⟩
            have hp334 := hp324.step hf333
            refine OPS.batch 2 { wraps := [93] } [] [94] [.bool true] .nil (by kernel_rfl) (fun b335 => ?_)
            refine OPS.want (by kernel_rfl) ?_
            refine OPS.cons (opStep.call (some 95) [] (by kernel_rfl) (ph_taken _) ?_)
            rintro _ w338 ⟨rfl, hf339⟩
            refine ⟨_, rfl, ?_⟩
            have hp340 := hp334.step hf339
            refine OPS.batch 2 { wraps := [96] } [] [6] [.bool true] .nil (by kernel_rfl) (fun b341 => ?_)
            refine OPS.nil ?_
            refine thn_n ?_
            refine WP.ret ?_
            refine bodyQ.of _ rfl [.bool true] ⟨rfl, trivial⟩ ?_
            exact ⟨rfl, hp340.fr⟩
  · refine OPS.cons (opStep.call (some 29) [.agg #[.int .i64 one.N, .int .i64 one.K, .int .i64 one.Delta]] (by kernel_rfl) (r17_New_no one _ hcfg1_) ?_)
    rintro _ w342 ⟨rfl, hf343⟩
    refine ⟨_, rfl, ?_⟩
    have hp344 := hp26.step hf343
    refine OPS.batch 5 {} [] [2, 7, 8, 9, 10, 11, 12, 20, 21, 22] [.slice s1.a s1.n s1.c, .pointer (some ⟨g10, 0, none⟩), .pointer (some ⟨g13, 0, none⟩), .int .i64 0, .pointer (some ⟨g23, 0, none⟩), .pointer none, .int .i64 40, .slice (some ⟨g17, 0, none⟩) 2 2, .int .i64 2, .int .i64 0] .nil (by kernel_rfl) (fun b345 => ?_)
    refine OPS.nil ?_
    refine thn_n ?_
    refine WP.seq ?_
    refine WP.region _ rfl (by kernel_rfl) ?_
    refine OPS.batch 1 {} [.agg #[.int .i64 one.N, .int .i64 one.K, .int .i64 one.Delta]] [2, 7, 8, 9, 11, 12, 20, 21, 22, 33] [.slice s1.a s1.n s1.c, .pointer (some ⟨g10, 0, none⟩), .pointer (some ⟨g13, 0, none⟩), .int .i64 0, .pointer none, .int .i64 40, .slice (some ⟨g17, 0, none⟩) 2 2, .int .i64 2, .int .i64 0, .agg #[.int .i64 one.N, .int .i64 one.K, .int .i64 one.Delta]] (.cons (show Ld Try.prog w342 23 ⟨g23, 0, none⟩ (.agg #[.int .i64 one.N, .int .i64 one.K, .int .i64 one.Delta]) from Ld.rowN (cs := [.int .i64 one.N, .int .i64 one.K, .int .i64 one.Delta]) hp344.get0 (by kernel_rfl)) .nil) (by kernel_rfl) (fun b346 => ?_)
    refine OPS.cons (opStep.call (some 34) [.agg #[.int .i64 one.N, .int .i64 one.K, .int .i64 one.Delta]] (by kernel_rfl) (pi_New_no one _ hcfg1_) ?_)
    rintro _ w349 ⟨rfl, hf350⟩
    refine ⟨_, rfl, ?_⟩
    have hp351 := (hp344.sub (.cons _ (.cons_cons _ (.cons_cons _ (.cons_cons _ (.cons _ (.cons _ (.slnil)))))))).step hf350
    refine OPS.batch 5 {} [] [2, 7, 8, 9, 11, 12, 13, 14, 20, 21, 22] [.slice s1.a s1.n s1.c, .pointer (some ⟨g10, 0, none⟩), .pointer (some ⟨g13, 0, none⟩), .int .i64 0, .pointer none, .int .i64 40, .pointer none, .int .i64 40, .slice (some ⟨g17, 0, none⟩) 2 2, .int .i64 2, .int .i64 0] .nil (by kernel_rfl) (fun b352 => ?_)
    refine OPS.nil ?_
    refine thn_n ?_
    refine WP.seq ?_
    refine WP.seq ?_
    refine WP.pure { wraps := [46] } [] [2, 7, 8, 9, 11, 13, 20, 21, 22, 46] [.slice s1.a s1.n s1.c, .pointer (some ⟨g10, 0, none⟩), .pointer (some ⟨g13, 0, none⟩), .int .i64 0, .pointer none, .pointer none, .slice (some ⟨g17, 0, none⟩) 2 2, .int .i64 2, .int .i64 0, .bool (!(true == true))] .nil (by kernel_rfl) (fun b353 => ?_)
    refine thn_n ?_
    refine WP.test (p := ¬ (((True) ↔ (True)))) rfl (Bp.not (Bp.beq Bp.t Bp.t)) (fun h354 => ?_) (fun h354 => ?_)
    · refine WP.seq ?_
      refine WP.pure {} [] [6] [.bool false] .nil (by kernel_rfl) (fun b355 => ?_)
      refine thn_n ?_
      refine WP.ret ?_
      refine thn_r ?_
      refine blk_r ?_
      refine thn_r ?_
      refine thn_r ?_
      refine blk_r ?_
      refine thn_r ?_
      refine bodyQ.of _ rfl [.bool false] ⟨rfl, trivial⟩ ?_
      exfalso
      first | exact h354 Iff.rfl | simp at h354
    · replace h354 := Classical.not_not.1 h354
      refine WP.skip ?_
      refine thn_n ?_
      refine WP.seq ?_
      refine WP.region _ rfl (by kernel_rfl) ?_
      refine OPS.batch 3 {} [] [2, 7, 8, 9, 11, 20, 21, 22, 48, 49] [.slice s1.a s1.n s1.c, .pointer (some ⟨g10, 0, none⟩), .pointer (some ⟨g13, 0, none⟩), .int .i64 0, .pointer none, .slice (some ⟨g17, 0, none⟩) 2 2, .int .i64 2, .int .i64 0, .pointer none, .pointer (some ⟨g10, 0, none⟩)] (.cons (show InB (0) (2) from ⟨by omega, by omega⟩) .nil) (by kernel_rfl) (fun b356 => ?_)
      refine OPS.cons (opStep.store2 hp351 rfl [.pointer none] [.pointer none, .pointer none] (by kernel_rfl) (fun w357 hp358 => ?_))
      refine OPS.nil ?_
      refine thn_n ?_
      refine WP.region _ rfl (by kernel_rfl) ?_
      refine OPS.batch 3 {} [] [2, 7, 8, 20, 21, 22, 51, 52] [.slice s1.a s1.n s1.c, .pointer (some ⟨g10, 0, none⟩), .pointer (some ⟨g13, 0, none⟩), .slice (some ⟨g17, 0, none⟩) 2 2, .int .i64 2, .int .i64 0, .pointer none, .pointer (some ⟨g13, 0, none⟩)] (.cons (show InB (0) (2) from ⟨by omega, by omega⟩) .nil) (by kernel_rfl) (fun b359 => ?_)
      refine OPS.cons (opStep.store1 hp358 rfl [.pointer none] [.pointer none, .pointer none] (by kernel_rfl) (fun w360 hp361 => ?_))
      refine OPS.nil ?_
      refine blk_n ?_
      refine thn_n ?_
      refine WP.pure {} [] [2, 7, 8, 20, 21, 22] [.slice s1.a s1.n s1.c, .pointer (some ⟨g10, 0, none⟩), .pointer (some ⟨g13, 0, none⟩), .slice (some ⟨g17, 0, none⟩) 2 2, .int .i64 2, .int .i64 1] (.cons (show Rng .i64 (1) from Rng.i64 (by omega)) .nil) (by kernel_rfl) (fun b362 => ?_)
      refine thn_n ?_
      refine RND.step ?_
      refine WP.seq ?_
      refine WP.pure {} [] [2, 7, 8, 20, 21, 22, 23] [.slice s1.a s1.n s1.c, .pointer (some ⟨g10, 0, none⟩), .pointer (some ⟨g13, 0, none⟩), .slice (some ⟨g17, 0, none⟩) 2 2, .int .i64 2, .int .i64 1, .bool true] .nil (by kernel_rfl) (fun b363 => ?_)
      refine thn_n ?_
      refine WP.seq ?_
      refine WP.condT rfl ?_
      refine WP.skip ?_
      refine thn_n ?_
      refine WP.seq ?_
      refine WP.block ?_
      refine WP.seq ?_
      refine WP.region _ rfl (by kernel_rfl) ?_
      refine OPS.batch 3 {} [.agg #[.int .i64 other.N, .int .i64 other.K, .int .i64 other.Delta]] [2, 7, 8, 20, 21, 22, 24, 26] [.slice s1.a s1.n s1.c, .pointer (some ⟨g10, 0, none⟩), .pointer (some ⟨g13, 0, none⟩), .slice (some ⟨g17, 0, none⟩) 2 2, .int .i64 2, .int .i64 1, .int .i64 1, .agg #[.int .i64 other.N, .int .i64 other.K, .int .i64 other.Delta]] (.cons (show InB (1) (2) from ⟨by omega, by omega⟩) (.cons (show (some (⟨g17, 0, none⟩ : Addr)).isSome = true from rfl) (.cons (show Ld Try.prog w360 23 ⟨g17, 3, none⟩ (.agg #[.int .i64 other.N, .int .i64 other.K, .int .i64 other.Delta]) from Ld.rowN (cs := [.int .i64 other.N, .int .i64 other.K, .int .i64 other.Delta]) hp361.get0 (by kernel_rfl)) .nil))) (by kernel_rfl) (fun b364 => ?_)
      refine OPS.cons (opStep.alloc hp361 [.int .i64 0, .int .i64 0, .int .i64 0] (by kernel_rfl) (fun g367 w365 hp366 => ?_))
      refine OPS.batch 1 {} [] [2, 7, 8, 9, 10, 20, 21, 22, 26] [.slice s1.a s1.n s1.c, .pointer (some ⟨g10, 0, none⟩), .pointer (some ⟨g13, 0, none⟩), .int .i64 1, .pointer (some ⟨g367, 0, none⟩), .slice (some ⟨g17, 0, none⟩) 2 2, .int .i64 2, .int .i64 1, .agg #[.int .i64 other.N, .int .i64 other.K, .int .i64 other.Delta]] .nil (by kernel_rfl) (fun b368 => ?_)
      refine OPS.cons (opStep.store0 hp366 rfl [.int .i64 other.N, .int .i64 other.K, .int .i64 other.Delta] [.int .i64 other.N, .int .i64 other.K, .int .i64 other.Delta] (by kernel_rfl) (fun w369 hp370 => ?_))
      refine OPS.nil ?_
      refine thn_n ?_
      refine WP.seq ?_
      refine WP.region _ rfl (by kernel_rfl) ?_
      refine OPS.batch 1 {} [.agg #[.int .i64 other.N, .int .i64 other.K, .int .i64 other.Delta]] [2, 7, 8, 9, 10, 20, 21, 22, 28] [.slice s1.a s1.n s1.c, .pointer (some ⟨g10, 0, none⟩), .pointer (some ⟨g13, 0, none⟩), .int .i64 1, .pointer (some ⟨g367, 0, none⟩), .slice (some ⟨g17, 0, none⟩) 2 2, .int .i64 2, .int .i64 1, .agg #[.int .i64 other.N, .int .i64 other.K, .int .i64 other.Delta]] (.cons (show Ld Try.prog w369 23 ⟨g367, 0, none⟩ (.agg #[.int .i64 other.N, .int .i64 other.K, .int .i64 other.Delta]) from Ld.rowN (cs := [.int .i64 other.N, .int .i64 other.K, .int .i64 other.Delta]) hp370.get0 (by kernel_rfl)) .nil) (by kernel_rfl) (fun b371 => ?_)
      by_cases hcfg2_ : okCfg other
      · have hbhcfg2__ := hcfg2_.2.2.1
        refine OPS.cons (opStep.call (some 29) [.agg #[.int .i64 other.N, .int .i64 other.K, .int .i64 other.Delta]] (by kernel_rfl) (r17_New other _ hcfg2_) ?_)
        rintro _ w374 ⟨rb377, aC378, kC379, aL380, kL381, rfl, hp376⟩
        refine ⟨_, rfl, ?_⟩
        have hp375 := hp370.madeQ hp376
        simp only [List.cons_append, List.nil_append] at hp375
        refine OPS.batch 5 {} [] [2, 7, 8, 9, 10, 11, 12, 20, 21, 22] [.slice s1.a s1.n s1.c, .pointer (some ⟨g10, 0, none⟩), .pointer (some ⟨g13, 0, none⟩), .int .i64 1, .pointer (some ⟨g367, 0, none⟩), .pointer (some ⟨rb377, 0, none⟩), .int .i64 0, .slice (some ⟨g17, 0, none⟩) 2 2, .int .i64 2, .int .i64 1] .nil (by kernel_rfl) (fun b382 => ?_)
        refine OPS.nil ?_
        refine thn_n ?_
        refine WP.seq ?_
        refine WP.region _ rfl (by kernel_rfl) ?_
        refine OPS.batch 1 {} [.agg #[.int .i64 other.N, .int .i64 other.K, .int .i64 other.Delta]] [2, 7, 8, 9, 11, 12, 20, 21, 22, 33] [.slice s1.a s1.n s1.c, .pointer (some ⟨g10, 0, none⟩), .pointer (some ⟨g13, 0, none⟩), .int .i64 1, .pointer (some ⟨rb377, 0, none⟩), .int .i64 0, .slice (some ⟨g17, 0, none⟩) 2 2, .int .i64 2, .int .i64 1, .agg #[.int .i64 other.N, .int .i64 other.K, .int .i64 other.Delta]] (.cons (show Ld Try.prog w374 23 ⟨g367, 0, none⟩ (.agg #[.int .i64 other.N, .int .i64 other.K, .int .i64 other.Delta]) from Ld.rowN (cs := [.int .i64 other.N, .int .i64 other.K, .int .i64 other.Delta]) hp375.get3 (by kernel_rfl)) .nil) (by kernel_rfl) (fun b383 => ?_)
        refine OPS.cons (opStep.call (some 34) [.agg #[.int .i64 other.N, .int .i64 other.K, .int .i64 other.Delta]] (by kernel_rfl) (pi_New other _ hcfg2_) ?_)
        rintro _ w386 ⟨b389, mb390, rfl, hp388⟩
        refine ⟨_, rfl, ?_⟩
        have hp387 := (hp375.sub (.cons_cons _ (.cons_cons _ (.cons_cons _ (.cons _ (.cons_cons _ (.cons_cons _ (.cons_cons _ (.slnil))))))))).madeQ hp388
        simp only [List.cons_append, List.nil_append] at hp387
        have hp391 := hp387.pull6
        have hp392 := hp391.pull7
        refine OPS.batch 5 {} [] [2, 7, 8, 9, 11, 12, 13, 14, 20, 21, 22] [.slice s1.a s1.n s1.c, .pointer (some ⟨g10, 0, none⟩), .pointer (some ⟨g13, 0, none⟩), .int .i64 1, .pointer (some ⟨rb377, 0, none⟩), .int .i64 0, .pointer (some ⟨b389, 0, none⟩), .int .i64 0, .slice (some ⟨g17, 0, none⟩) 2 2, .int .i64 2, .int .i64 1] .nil (by kernel_rfl) (fun b393 => ?_)
        refine OPS.nil ?_
        refine thn_n ?_
        refine WP.seq ?_
        refine WP.seq ?_
        refine WP.pure { wraps := [46] } [] [2, 7, 8, 9, 11, 13, 20, 21, 22, 46] [.slice s1.a s1.n s1.c, .pointer (some ⟨g10, 0, none⟩), .pointer (some ⟨g13, 0, none⟩), .int .i64 1, .pointer (some ⟨rb377, 0, none⟩), .pointer (some ⟨b389, 0, none⟩), .slice (some ⟨g17, 0, none⟩) 2 2, .int .i64 2, .int .i64 1, .bool (!(false == false))] .nil (by kernel_rfl) (fun b394 => ?_)
        refine thn_n ?_
        refine WP.test (p := ¬ (((False) ↔ (False)))) rfl (Bp.not (Bp.beq Bp.f Bp.f)) (fun h395 => ?_) (fun h395 => ?_)
        · refine WP.seq ?_
          refine WP.pure {} [] [6] [.bool false] .nil (by kernel_rfl) (fun b396 => ?_)
          refine thn_n ?_
          refine WP.ret ?_
          refine thn_r ?_
          refine blk_r ?_
          refine thn_r ?_
          refine thn_r ?_
          refine blk_r ?_
          refine thn_r ?_
          refine bodyQ.of _ rfl [.bool false] ⟨rfl, trivial⟩ ?_
          exfalso
          first | exact h395 Iff.rfl | simp at h395
        · replace h395 := Classical.not_not.1 h395
          refine WP.skip ?_
          refine thn_n ?_
          refine WP.seq ?_
          refine WP.region _ rfl (by kernel_rfl) ?_
          refine OPS.batch 3 {} [] [2, 7, 8, 9, 11, 20, 21, 22, 48, 49] [.slice s1.a s1.n s1.c, .pointer (some ⟨g10, 0, none⟩), .pointer (some ⟨g13, 0, none⟩), .int .i64 1, .pointer (some ⟨rb377, 0, none⟩), .slice (some ⟨g17, 0, none⟩) 2 2, .int .i64 2, .int .i64 1, .pointer (some ⟨b389, 0, none⟩), .pointer (some ⟨g10, 1, none⟩)] (.cons (show InB (1) (2) from ⟨by omega, by omega⟩) .nil) (by kernel_rfl) (fun b397 => ?_)
          refine OPS.cons (opStep.store0 hp392 rfl [.pointer (some ⟨b389, 0, none⟩)] [.pointer none, .pointer (some ⟨b389, 0, none⟩)] (by kernel_rfl) (fun w398 hp399 => ?_))
          refine OPS.nil ?_
          refine thn_n ?_
          refine WP.region _ rfl (by kernel_rfl) ?_
          refine OPS.batch 3 {} [] [2, 7, 8, 20, 21, 22, 51, 52] [.slice s1.a s1.n s1.c, .pointer (some ⟨g10, 0, none⟩), .pointer (some ⟨g13, 0, none⟩), .slice (some ⟨g17, 0, none⟩) 2 2, .int .i64 2, .int .i64 1, .pointer (some ⟨rb377, 0, none⟩), .pointer (some ⟨g13, 1, none⟩)] (.cons (show InB (1) (2) from ⟨by omega, by omega⟩) .nil) (by kernel_rfl) (fun b400 => ?_)
          refine OPS.cons (opStep.store1 hp399 rfl [.pointer (some ⟨rb377, 0, none⟩)] [.pointer none, .pointer (some ⟨rb377, 0, none⟩)] (by kernel_rfl) (fun w401 hp402 => ?_))
          refine OPS.nil ?_
          refine blk_n ?_
          refine thn_n ?_
          refine WP.pure {} [] [2, 7, 8, 20, 21, 22] [.slice s1.a s1.n s1.c, .pointer (some ⟨g10, 0, none⟩), .pointer (some ⟨g13, 0, none⟩), .slice (some ⟨g17, 0, none⟩) 2 2, .int .i64 2, .int .i64 2] (.cons (show Rng .i64 (2) from Rng.i64 (by omega)) .nil) (by kernel_rfl) (fun b403 => ?_)
          refine thn_n ?_
          refine RND.step ?_
          refine WP.seq ?_
          refine WP.pure {} [] [2, 7, 8, 20, 21, 22, 23] [.slice s1.a s1.n s1.c, .pointer (some ⟨g10, 0, none⟩), .pointer (some ⟨g13, 0, none⟩), .slice (some ⟨g17, 0, none⟩) 2 2, .int .i64 2, .int .i64 2, .bool false] .nil (by kernel_rfl) (fun b404 => ?_)
          refine thn_n ?_
          refine WP.seq ?_
          refine WP.condF rfl ?_
          refine WP.exit ?_
          refine thn_x ?_
          refine thn_x ?_
          refine blk_hit ?_
          refine thn_n ?_
          refine WP.seq ?_
          refine WP.seq ?_
          refine WP.pure {} [] [7, 8, 54, 55, 56] [.pointer (some ⟨g10, 0, none⟩), .pointer (some ⟨g13, 0, none⟩), .slice s1.a s1.n s1.c, .int .i64 ((s1.n : Nat) : Int), .int .i64 0] .nil (by kernel_rfl) (fun b405 => ?_)
          refine thn_n ?_
          refine WP.block ?_
          refine WP.loop (fun mz_ e406 w407 => ∃ (k : Nat) (m2_ : List (Int × Int)) (cs2_ : List Bool) (ls2_ : List Int), mz_ = l1.length - k ∧ (k ≤ l1.length ∧ RelP other m2_ cs2_ ls2_) ∧ List.map e406 [7, 8, 54, 55, 56] = [.pointer (some ⟨g10, 0, none⟩), .pointer (some ⟨g13, 0, none⟩), .slice s1.a s1.n s1.c, .int .i64 ((s1.n : Nat) : Int), .int .i64 (k : Int)] ∧ Hp w Non [Res.row g10 [.pointer none, .pointer (some ⟨b389, 0, none⟩)] 43, Res.row g13 [.pointer none, .pointer (some ⟨rb377, 0, none⟩)] 45, Res.row b389 [.int .i64 other.N, .int .i64 other.K, .int .i64 other.Delta, .map (some mb390)] 98, Res.mp mb390 kI vI m2_, Res.row rb377 [.int .i64 other.N, .int .i64 other.K, .int .i64 other.Delta, .slice aC378 other.N.toNat kC379, .slice aL380 other.N.toNat kL381] 95, Res.own 4 1 (.slice aC378 other.N.toNat kC379) other.N.toNat (List.flatMap (fun (y : Bool) => [Go.Value.bool y]) cs2_), Res.own 3 1 (.slice aL380 other.N.toNat kL381) other.N.toNat (List.flatMap (fun (y : Int) => [Go.Value.int .i64 y]) ls2_), Res.row g17 [.int .i64 one.N, .int .i64 one.K, .int .i64 one.Delta, .int .i64 other.N, .int .i64 other.K, .int .i64 other.Delta] 23] w407) (l1.length - (0)) ⟨0, ([] : List (Int × Int)), (List.replicate other.N.toNat false), (List.replicate other.N.toNat (0 : Int)), rfl, ⟨by omega, (RelP.nil other)⟩, by kernel_rfl, hp402⟩ ?_
          rintro _ e406 w407 ⟨k, m2_, cs2_, ls2_, rfl, hI409, hE410, hp408⟩
          obtain ⟨b411, rfl⟩ := toMk hE410
          clear hE410
          obtain ⟨pa, hr2_⟩ := hI409
          have pt1 := Int.lt_tmod_of_pos (l1[k]!.P) (show (0 : Int) < 2 by omega)
          have pt2 := Int.tmod_lt_of_pos (l1[k]!.P) (show (0 : Int) < 2 by omega)
          refine WP.seq ?_
          refine WP.pure {} [] [7, 8, 54, 55, 56, 57] [.pointer (some ⟨g10, 0, none⟩), .pointer (some ⟨g13, 0, none⟩), .slice s1.a s1.n s1.c, .int .i64 ((s1.n : Nat) : Int), .int .i64 (k : Int), .bool (decide ((k : Int) < ((s1.n : Nat) : Int)))] .nil (by kernel_rfl) (fun b412 => ?_)
          refine thn_n ?_
          refine WP.seq ?_
          refine WP.test (p := (k : Int) < ((s1.n : Nat) : Int)) rfl Bp.dec (fun h413 => ?_) (fun h413 => ?_)
          · refine WP.skip ?_
            refine thn_n ?_
            refine WP.seq ?_
            refine WP.block ?_
            refine WP.seq ?_
            refine WP.region _ rfl (by kernel_rfl) ?_
            have hy417 : (l1)[k]? = some l1[k]! := get_bang (by first | (omega) | (simp only [List.length_append, List.length_cons, List.length_nil]; omega) | (simp only [List.length_take, List.length_append, List.length_cons, List.length_nil]; omega))
            refine OPS.batch 2 {} [Gsherdlaw17_Op.val (l1[k]!)] [7, 8, 54, 55, 56, 59] [.pointer (some ⟨g10, 0, none⟩), .pointer (some ⟨g13, 0, none⟩), .slice s1.a s1.n s1.c, .int .i64 ((s1.n : Nat) : Int), .int .i64 (k : Int), Gsherdlaw17_Op.val (l1[k]!)] (.cons (show InB ((k : Int)) (s1.n) from ⟨by omega, by omega⟩) (.cons ((o1.rd.at hp408).some (by omega)) (.cons (Ld.add0 (Ld.elN (P := Try.prog) (t := 52) (o1.rd.at hp408).rd 5 (fun _ => rfl) hy417 (o := 0) (cs := [.int .i64 (l1[k]!.Kind), .int .i64 (l1[k]!.P), .int .i64 (l1[k]!.Server), .int .i64 (l1[k]!.V), .int .i64 (l1[k]!.N)]) (by kernel_rfl))) .nil))) (by kernel_rfl) (fun b418 => ?_)
            refine OPS.cons (opStep.alloc hp408 [.int .i64 0, .int .i64 0, .int .i64 0, .int .i64 0, .int .i64 0] (by kernel_rfl) (fun g421 w419 hp420 => ?_))
            refine OPS.cons (opStep.store0 hp420 rfl [.int .i64 (l1[k]!.Kind), .int .i64 (l1[k]!.P), .int .i64 (l1[k]!.Server), .int .i64 (l1[k]!.V), .int .i64 (l1[k]!.N)] [.int .i64 (l1[k]!.Kind), .int .i64 (l1[k]!.P), .int .i64 (l1[k]!.Server), .int .i64 (l1[k]!.V), .int .i64 (l1[k]!.N)] (by kernel_rfl) (fun w422 hp423 => ?_))
            refine OPS.nil ?_
            refine thn_n ?_
            refine WP.seq ?_
            have hk424 : (((l1[k]!.P).tmod 2) + 2).tmod 2 = 0 ∨ (((l1[k]!.P).tmod 2) + 2).tmod 2 = 1 := two_of _
            rcases hk424 with hk424 | hk424
            · refine WP.pure { subs := [64] } [.int .i64 (l1[k]!.P), .int .i64 0] [7, 8, 16, 17, 54, 55, 56] [.pointer (some ⟨g10, 0, none⟩), .pointer (some ⟨g13, 0, none⟩), .pointer (some ⟨g421, 0, none⟩), .int .i64 0, .slice s1.a s1.n s1.c, .int .i64 ((s1.n : Nat) : Int), .int .i64 (k : Int)] (.cons (Ld.row1 (P := Try.prog) (t := 3) (o := 1) (v := .int .i64 (l1[k]!.P)) hp423.get0 (by kernel_rfl)) (.cons (show (2 : Int) ≠ 0 from by omega) (.cons (show Rng .i64 (((l1[k]!.P).tmod 2) + 2) from Rng.i64 (by omega)) (.cons (show (2 : Int) ≠ 0 from by omega) (.cons (show (.int .i64 ((((l1[k]!.P).tmod 2) + 2).tmod 2) : Go.Value) = .int .i64 0 from congrArg (Value.int .i64) (hk424)) .nil))))) (by kernel_rfl) (fun b425 => ?_)
              refine thn_n ?_
              refine WP.seq ?_
              have hp426 := hp423.drew
              refine WP.held (fun w427 => Ld Try.prog w427 42 ⟨g10, 0, none⟩ (.pointer none) ∧ Ld Try.prog w427 44 ⟨g13, 0, none⟩ (.pointer none) ∧ Ld Try.prog w427 52 ⟨g421, 0, none⟩ (Gsherdlaw17_Op.val (l1[k]!)) ∧ True) [] [(0, true), (1, true), (2, true), (3, true), (4, true), (5, true), (6, true), (7, false), (8, true), (9, true), (10, true), (11, false), (12, true), (13, true)] (np_thn (np_blk (np_thn (np_thn (np_blk (np_thn np_body)))))) (by kernel_rfl) ?_
              refine HOPS.take 7 {} [.pointer none, .pointer none, Gsherdlaw17_Op.val (l1[k]!)] [7, 8, 16, 54, 55, 56, 67, 70, 71] [.pointer (some ⟨g10, 0, none⟩), .pointer (some ⟨g13, 0, none⟩), .pointer (some ⟨g421, 0, none⟩), .slice s1.a s1.n s1.c, .int .i64 ((s1.n : Nat) : Int), .int .i64 (k : Int), .pointer none, .pointer none, Gsherdlaw17_Op.val (l1[k]!)] (by kernel_rfl) ⟨(show Ld Try.prog w422.drew 42 ⟨g10, 0, none⟩ (.pointer none) from (Ld.row1 (P := Try.prog) (t := 42) (o := 0) (v := .pointer none) hp426.get1 (by kernel_rfl))), (show Ld Try.prog w422.drew 44 ⟨g13, 0, none⟩ (.pointer none) from (Ld.row1 (P := Try.prog) (t := 44) (o := 0) (v := .pointer none) hp426.get2 (by kernel_rfl))), (show Ld Try.prog w422.drew 52 ⟨g421, 0, none⟩ (Gsherdlaw17_Op.val (l1[k]!)) from (show Ld Try.prog w422.drew 52 ⟨g421, 0, none⟩ (Gsherdlaw17_Op.val (l1[k]!)) from Ld.rowN (cs := [.int .i64 (l1[k]!.Kind), .int .i64 (l1[k]!.P), .int .i64 (l1[k]!.Server), .int .i64 (l1[k]!.V), .int .i64 (l1[k]!.N)]) hp426.get0 (by kernel_rfl))), trivial⟩ (fun w428 hS429 => QB.mk (.cons (show InB (0) (2) from ⟨by omega, by omega⟩) (.cons (hS429.1) (.cons (show InB (0) (2) from ⟨by omega, by omega⟩) (.cons (hS429.2.1) (.cons (hS429.2.2.1) .nil))))) (by kernel_rfl)) (fun b430 => ?_)
              refine HOPS.eff _ rfl (opStep.call (some 72) [.pointer none, .pointer none, Gsherdlaw17_Op.val (l1[k]!)] (by kernel_rfl) (p17_plays_nil (l1[k]!) _) ?_)
              rintro _ w433 ⟨rfl, hf434⟩
              refine ⟨_, rfl, ?_⟩
              have hp435 := hp426.step hf434
              refine ⟨.inr ⟨(show Ld Try.prog w433 42 ⟨g10, 0, none⟩ (.pointer none) from (Ld.row1 (P := Try.prog) (t := 42) (o := 0) (v := .pointer none) hp435.get1 (by kernel_rfl))), (show Ld Try.prog w433 44 ⟨g13, 0, none⟩ (.pointer none) from (Ld.row1 (P := Try.prog) (t := 44) (o := 0) (v := .pointer none) hp435.get2 (by kernel_rfl))), (show Ld Try.prog w433 52 ⟨g421, 0, none⟩ (Gsherdlaw17_Op.val (l1[k]!)) from (show Ld Try.prog w433 52 ⟨g421, 0, none⟩ (Gsherdlaw17_Op.val (l1[k]!)) from Ld.rowN (cs := [.int .i64 (l1[k]!.Kind), .int .i64 (l1[k]!.P), .int .i64 (l1[k]!.Server), .int .i64 (l1[k]!.V), .int .i64 (l1[k]!.N)]) hp435.get0 (by kernel_rfl))), trivial⟩, ?_⟩
              refine HOPS.take 3 {} [Gsherdlaw17_Op.val (l1[k]!)] [7, 8, 54, 55, 56, 74, 75] [.pointer (some ⟨g10, 0, none⟩), .pointer (some ⟨g13, 0, none⟩), .slice s1.a s1.n s1.c, .int .i64 ((s1.n : Nat) : Int), .int .i64 (k : Int), .bool false, Gsherdlaw17_Op.val (l1[k]!)] (by kernel_rfl) ⟨(show Ld Try.prog w433 42 ⟨g10, 0, none⟩ (.pointer none) from (Ld.row1 (P := Try.prog) (t := 42) (o := 0) (v := .pointer none) hp435.get1 (by kernel_rfl))), (show Ld Try.prog w433 44 ⟨g13, 0, none⟩ (.pointer none) from (Ld.row1 (P := Try.prog) (t := 44) (o := 0) (v := .pointer none) hp435.get2 (by kernel_rfl))), (show Ld Try.prog w433 52 ⟨g421, 0, none⟩ (Gsherdlaw17_Op.val (l1[k]!)) from (show Ld Try.prog w433 52 ⟨g421, 0, none⟩ (Gsherdlaw17_Op.val (l1[k]!)) from Ld.rowN (cs := [.int .i64 (l1[k]!.Kind), .int .i64 (l1[k]!.P), .int .i64 (l1[k]!.Server), .int .i64 (l1[k]!.V), .int .i64 (l1[k]!.N)]) hp435.get0 (by kernel_rfl))), trivial⟩ (fun w436 hS437 => QB.mk (.cons (hS437.2.2.1) .nil) (by kernel_rfl)) (fun b438 => ?_)
              refine HOPS.effW _ rfl (by kernel_rfl) (opStep.call (some 76) [.pointer none, .pointer none, Gsherdlaw17_Op.val (l1[k]!)] (by kernel_rfl) (p17_plays_nil (l1[k]!) _) ?_)
              rintro _ w441 ⟨rfl, hf442⟩
              refine ⟨_, rfl, ?_⟩
              have hp443 := hp435.step hf442
              refine ⟨.inr ⟨(show Ld Try.prog w441 42 ⟨g10, 0, none⟩ (.pointer none) from (Ld.row1 (P := Try.prog) (t := 42) (o := 0) (v := .pointer none) hp443.get1 (by kernel_rfl))), (show Ld Try.prog w441 44 ⟨g13, 0, none⟩ (.pointer none) from (Ld.row1 (P := Try.prog) (t := 44) (o := 0) (v := .pointer none) hp443.get2 (by kernel_rfl))), (show Ld Try.prog w441 52 ⟨g421, 0, none⟩ (Gsherdlaw17_Op.val (l1[k]!)) from (show Ld Try.prog w441 52 ⟨g421, 0, none⟩ (Gsherdlaw17_Op.val (l1[k]!)) from Ld.rowN (cs := [.int .i64 (l1[k]!.Kind), .int .i64 (l1[k]!.P), .int .i64 (l1[k]!.Server), .int .i64 (l1[k]!.V), .int .i64 (l1[k]!.N)]) hp443.get0 (by kernel_rfl))), trivial⟩, ?_⟩
              refine HOPS.take 2 { wraps := [78] } [] [7, 8, 54, 55, 56, 78] [.pointer (some ⟨g10, 0, none⟩), .pointer (some ⟨g13, 0, none⟩), .slice s1.a s1.n s1.c, .int .i64 ((s1.n : Nat) : Int), .int .i64 (k : Int), .bool false] (by kernel_rfl) ⟨(show Ld Try.prog w441 42 ⟨g10, 0, none⟩ (.pointer none) from (Ld.row1 (P := Try.prog) (t := 42) (o := 0) (v := .pointer none) hp443.get1 (by kernel_rfl))), (show Ld Try.prog w441 44 ⟨g13, 0, none⟩ (.pointer none) from (Ld.row1 (P := Try.prog) (t := 44) (o := 0) (v := .pointer none) hp443.get2 (by kernel_rfl))), (show Ld Try.prog w441 52 ⟨g421, 0, none⟩ (Gsherdlaw17_Op.val (l1[k]!)) from (show Ld Try.prog w441 52 ⟨g421, 0, none⟩ (Gsherdlaw17_Op.val (l1[k]!)) from Ld.rowN (cs := [.int .i64 (l1[k]!.Kind), .int .i64 (l1[k]!.P), .int .i64 (l1[k]!.Server), .int .i64 (l1[k]!.V), .int .i64 (l1[k]!.N)]) hp443.get0 (by kernel_rfl))), trivial⟩ (fun w444 hS445 => QB.mk .nil (by kernel_rfl)) (fun b446 => ?_)
              refine HOPS.nil ?_
              refine thn_n ?_
              refine WP.condF rfl ?_
              refine WP.skip ?_
              refine blk_n ?_
              refine thn_n ?_
              refine WP.pure {} [] [7, 8, 54, 55, 56] [.pointer (some ⟨g10, 0, none⟩), .pointer (some ⟨g13, 0, none⟩), .slice s1.a s1.n s1.c, .int .i64 ((s1.n : Nat) : Int), .int .i64 ((k : Int) + 1)] (.cons (show Rng .i64 ((k : Int) + 1) from Rng.i64 (by omega)) .nil) (by kernel_rfl) (fun b447 => ?_)
              refine thn_n ?_
              exact ⟨l1.length - (k + 1), (by omega), k + 1, m2_, cs2_, ls2_, rfl, ⟨by omega, hr2_⟩, by kernel_rfl, (hp443.sub (.cons _ (.cons_cons _ (.cons_cons _ (.cons_cons _ (.cons_cons _ (.cons_cons _ (.cons_cons _ (.cons_cons _ (.cons_cons _ (.slnil)))))))))))⟩
            · refine WP.pure { subs := [64] } [.int .i64 (l1[k]!.P), .int .i64 1] [7, 8, 16, 17, 54, 55, 56] [.pointer (some ⟨g10, 0, none⟩), .pointer (some ⟨g13, 0, none⟩), .pointer (some ⟨g421, 0, none⟩), .int .i64 1, .slice s1.a s1.n s1.c, .int .i64 ((s1.n : Nat) : Int), .int .i64 (k : Int)] (.cons (Ld.row1 (P := Try.prog) (t := 3) (o := 1) (v := .int .i64 (l1[k]!.P)) hp423.get0 (by kernel_rfl)) (.cons (show (2 : Int) ≠ 0 from by omega) (.cons (show Rng .i64 (((l1[k]!.P).tmod 2) + 2) from Rng.i64 (by omega)) (.cons (show (2 : Int) ≠ 0 from by omega) (.cons (show (.int .i64 ((((l1[k]!.P).tmod 2) + 2).tmod 2) : Go.Value) = .int .i64 1 from congrArg (Value.int .i64) (hk424)) .nil))))) (by kernel_rfl) (fun b448 => ?_)
              refine thn_n ?_
              refine WP.seq ?_
              have hp449 := hp423.drew
              refine WP.held (fun w450 => Ld Try.prog w450 42 ⟨g10, 1, none⟩ (.pointer (some ⟨b389, 0, none⟩)) ∧ Ld Try.prog w450 44 ⟨g13, 1, none⟩ (.pointer (some ⟨rb377, 0, none⟩)) ∧ Ld Try.prog w450 52 ⟨g421, 0, none⟩ (Gsherdlaw17_Op.val (l1[k]!)) ∧ True) [] [(0, true), (1, true), (2, true), (3, true), (4, true), (5, true), (6, true), (7, false), (8, true), (9, true), (10, true), (11, false), (12, true), (13, true)] (np_thn (np_blk (np_thn (np_thn (np_blk (np_thn np_body)))))) (by kernel_rfl) ?_
              refine HOPS.take 7 {} [.pointer (some ⟨b389, 0, none⟩), .pointer (some ⟨rb377, 0, none⟩), Gsherdlaw17_Op.val (l1[k]!)] [7, 8, 16, 54, 55, 56, 67, 70, 71] [.pointer (some ⟨g10, 0, none⟩), .pointer (some ⟨g13, 0, none⟩), .pointer (some ⟨g421, 0, none⟩), .slice s1.a s1.n s1.c, .int .i64 ((s1.n : Nat) : Int), .int .i64 (k : Int), .pointer (some ⟨b389, 0, none⟩), .pointer (some ⟨rb377, 0, none⟩), Gsherdlaw17_Op.val (l1[k]!)] (by kernel_rfl) ⟨(show Ld Try.prog w422.drew 42 ⟨g10, 1, none⟩ (.pointer (some ⟨b389, 0, none⟩)) from (Ld.row1 (P := Try.prog) (t := 42) (o := 1) (v := .pointer (some ⟨b389, 0, none⟩)) hp449.get1 (by kernel_rfl))), (show Ld Try.prog w422.drew 44 ⟨g13, 1, none⟩ (.pointer (some ⟨rb377, 0, none⟩)) from (Ld.row1 (P := Try.prog) (t := 44) (o := 1) (v := .pointer (some ⟨rb377, 0, none⟩)) hp449.get2 (by kernel_rfl))), (show Ld Try.prog w422.drew 52 ⟨g421, 0, none⟩ (Gsherdlaw17_Op.val (l1[k]!)) from (show Ld Try.prog w422.drew 52 ⟨g421, 0, none⟩ (Gsherdlaw17_Op.val (l1[k]!)) from Ld.rowN (cs := [.int .i64 (l1[k]!.Kind), .int .i64 (l1[k]!.P), .int .i64 (l1[k]!.Server), .int .i64 (l1[k]!.V), .int .i64 (l1[k]!.N)]) hp449.get0 (by kernel_rfl))), trivial⟩ (fun w451 hS452 => QB.mk (.cons (show InB (1) (2) from ⟨by omega, by omega⟩) (.cons (hS452.1) (.cons (show InB (1) (2) from ⟨by omega, by omega⟩) (.cons (hS452.2.1) (.cons (hS452.2.2.1) .nil))))) (by kernel_rfl)) (fun b453 => ?_)
              have hp456 := hp449.pull7
              have hp457 := hp456.pull7
              have hp458 := hp457.pull7
              have hp459 := hp458.pull7
              have hp460 := hp459.pull7
              refine HOPS.eff _ rfl (opStep.call (some 72) [.pointer (some ⟨b389, 0, none⟩), .pointer (some ⟨rb377, 0, none⟩), Gsherdlaw17_Op.val (l1[k]!)] (by kernel_rfl) (p17_plays _ _ b389 mb390 rb377 other _ _ _ _ m2_ cs2_ ls2_ (l1[k]!) _ hr2_ (by omega) hp460) ?_)
              rintro _ w461 ⟨l463, cs464, ls465, rfl, hr466, hp462⟩
              refine ⟨_, rfl, ?_⟩
              refine ⟨.inr ⟨(show Ld Try.prog w461 42 ⟨g10, 1, none⟩ (.pointer (some ⟨b389, 0, none⟩)) from (Ld.row1 (P := Try.prog) (t := 42) (o := 1) (v := .pointer (some ⟨b389, 0, none⟩)) hp462.get6 (by kernel_rfl))), (show Ld Try.prog w461 44 ⟨g13, 1, none⟩ (.pointer (some ⟨rb377, 0, none⟩)) from (Ld.row1 (P := Try.prog) (t := 44) (o := 1) (v := .pointer (some ⟨rb377, 0, none⟩)) hp462.get7 (by kernel_rfl))), (show Ld Try.prog w461 52 ⟨g421, 0, none⟩ (Gsherdlaw17_Op.val (l1[k]!)) from (show Ld Try.prog w461 52 ⟨g421, 0, none⟩ (Gsherdlaw17_Op.val (l1[k]!)) from Ld.rowN (cs := [.int .i64 (l1[k]!.Kind), .int .i64 (l1[k]!.P), .int .i64 (l1[k]!.Server), .int .i64 (l1[k]!.V), .int .i64 (l1[k]!.N)]) hp462.get5 (by kernel_rfl))), trivial⟩, ?_⟩
              refine HOPS.take 3 {} [Gsherdlaw17_Op.val (l1[k]!)] [7, 8, 54, 55, 56, 74, 75] [.pointer (some ⟨g10, 0, none⟩), .pointer (some ⟨g13, 0, none⟩), .slice s1.a s1.n s1.c, .int .i64 ((s1.n : Nat) : Int), .int .i64 (k : Int), .bool false, Gsherdlaw17_Op.val (l1[k]!)] (by kernel_rfl) ⟨(show Ld Try.prog w461 42 ⟨g10, 1, none⟩ (.pointer (some ⟨b389, 0, none⟩)) from (Ld.row1 (P := Try.prog) (t := 42) (o := 1) (v := .pointer (some ⟨b389, 0, none⟩)) hp462.get6 (by kernel_rfl))), (show Ld Try.prog w461 44 ⟨g13, 1, none⟩ (.pointer (some ⟨rb377, 0, none⟩)) from (Ld.row1 (P := Try.prog) (t := 44) (o := 1) (v := .pointer (some ⟨rb377, 0, none⟩)) hp462.get7 (by kernel_rfl))), (show Ld Try.prog w461 52 ⟨g421, 0, none⟩ (Gsherdlaw17_Op.val (l1[k]!)) from (show Ld Try.prog w461 52 ⟨g421, 0, none⟩ (Gsherdlaw17_Op.val (l1[k]!)) from Ld.rowN (cs := [.int .i64 (l1[k]!.Kind), .int .i64 (l1[k]!.P), .int .i64 (l1[k]!.Server), .int .i64 (l1[k]!.V), .int .i64 (l1[k]!.N)]) hp462.get5 (by kernel_rfl))), trivial⟩ (fun w467 hS468 => QB.mk (.cons (hS468.2.2.1) .nil) (by kernel_rfl)) (fun b469 => ?_)
              refine HOPS.effW _ rfl (by kernel_rfl) (opStep.call (some 76) [.pointer none, .pointer none, Gsherdlaw17_Op.val (l1[k]!)] (by kernel_rfl) (p17_plays_nil (l1[k]!) _) ?_)
              rintro _ w472 ⟨rfl, hf473⟩
              refine ⟨_, rfl, ?_⟩
              have hp474 := hp462.step hf473
              refine ⟨.inr ⟨(show Ld Try.prog w472 42 ⟨g10, 1, none⟩ (.pointer (some ⟨b389, 0, none⟩)) from (Ld.row1 (P := Try.prog) (t := 42) (o := 1) (v := .pointer (some ⟨b389, 0, none⟩)) hp474.get6 (by kernel_rfl))), (show Ld Try.prog w472 44 ⟨g13, 1, none⟩ (.pointer (some ⟨rb377, 0, none⟩)) from (Ld.row1 (P := Try.prog) (t := 44) (o := 1) (v := .pointer (some ⟨rb377, 0, none⟩)) hp474.get7 (by kernel_rfl))), (show Ld Try.prog w472 52 ⟨g421, 0, none⟩ (Gsherdlaw17_Op.val (l1[k]!)) from (show Ld Try.prog w472 52 ⟨g421, 0, none⟩ (Gsherdlaw17_Op.val (l1[k]!)) from Ld.rowN (cs := [.int .i64 (l1[k]!.Kind), .int .i64 (l1[k]!.P), .int .i64 (l1[k]!.Server), .int .i64 (l1[k]!.V), .int .i64 (l1[k]!.N)]) hp474.get5 (by kernel_rfl))), trivial⟩, ?_⟩
              refine HOPS.take 2 { wraps := [78] } [] [7, 8, 54, 55, 56, 78] [.pointer (some ⟨g10, 0, none⟩), .pointer (some ⟨g13, 0, none⟩), .slice s1.a s1.n s1.c, .int .i64 ((s1.n : Nat) : Int), .int .i64 (k : Int), .bool false] (by kernel_rfl) ⟨(show Ld Try.prog w472 42 ⟨g10, 1, none⟩ (.pointer (some ⟨b389, 0, none⟩)) from (Ld.row1 (P := Try.prog) (t := 42) (o := 1) (v := .pointer (some ⟨b389, 0, none⟩)) hp474.get6 (by kernel_rfl))), (show Ld Try.prog w472 44 ⟨g13, 1, none⟩ (.pointer (some ⟨rb377, 0, none⟩)) from (Ld.row1 (P := Try.prog) (t := 44) (o := 1) (v := .pointer (some ⟨rb377, 0, none⟩)) hp474.get7 (by kernel_rfl))), (show Ld Try.prog w472 52 ⟨g421, 0, none⟩ (Gsherdlaw17_Op.val (l1[k]!)) from (show Ld Try.prog w472 52 ⟨g421, 0, none⟩ (Gsherdlaw17_Op.val (l1[k]!)) from Ld.rowN (cs := [.int .i64 (l1[k]!.Kind), .int .i64 (l1[k]!.P), .int .i64 (l1[k]!.Server), .int .i64 (l1[k]!.V), .int .i64 (l1[k]!.N)]) hp474.get5 (by kernel_rfl))), trivial⟩ (fun w475 hS476 => QB.mk .nil (by kernel_rfl)) (fun b477 => ?_)
              refine HOPS.nil ?_
              refine thn_n ?_
              refine WP.condF rfl ?_
              refine WP.skip ?_
              refine blk_n ?_
              refine thn_n ?_
              refine WP.pure {} [] [7, 8, 54, 55, 56] [.pointer (some ⟨g10, 0, none⟩), .pointer (some ⟨g13, 0, none⟩), .slice s1.a s1.n s1.c, .int .i64 ((s1.n : Nat) : Int), .int .i64 ((k : Int) + 1)] (.cons (show Rng .i64 ((k : Int) + 1) from Rng.i64 (by omega)) .nil) (by kernel_rfl) (fun b478 => ?_)
              refine thn_n ?_
              exact ⟨l1.length - (k + 1), (by omega), k + 1, l463, cs464, ls465, rfl, ⟨by omega, hr466⟩, by kernel_rfl, (((((((((hp474.pull8).pull5).pull5).pull5).pull5).pull5).pull8).pull8).sub (.cons_cons _ (.cons_cons _ (.cons_cons _ (.cons_cons _ (.cons_cons _ (.cons_cons _ (.cons_cons _ (.cons_cons _ (.cons _ (.slnil)))))))))))⟩
          · refine WP.exit ?_
            refine thn_x ?_
            refine thn_x ?_
            refine blk_hit ?_
            refine thn_n ?_
            refine WP.seq ?_
            refine WP.region _ rfl (by kernel_rfl) ?_
            refine OPS.batch 5 {} [.pointer none, .pointer none] [7, 8, 81, 83, 84] [.pointer (some ⟨g10, 0, none⟩), .pointer (some ⟨g13, 0, none⟩), .pointer none, .pointer none, .agg #[.int .i64 1, .int .i64 0, .int .i64 0, .int .i64 0, .int .i64 0]] (.cons (show InB (0) (2) from ⟨by omega, by omega⟩) (.cons (Ld.row1 (P := Try.prog) (t := 42) (o := 0) (v := .pointer none) hp408.get0 (by kernel_rfl)) (.cons (show InB (0) (2) from ⟨by omega, by omega⟩) (.cons (Ld.row1 (P := Try.prog) (t := 44) (o := 0) (v := .pointer none) hp408.get1 (by kernel_rfl)) .nil)))) (by kernel_rfl) (fun b479 => ?_)
            refine OPS.cons (opStep.call (some 85) [.pointer none, .pointer none, .agg #[.int .i64 1, .int .i64 0, .int .i64 0, .int .i64 0, .int .i64 0]] (by kernel_rfl) (p17_plays_nil (⟨1, 0, 0, 0, 0⟩ : Gsherdlaw17_Op) _) ?_)
            rintro _ w482 ⟨rfl, hf483⟩
            refine ⟨_, rfl, ?_⟩
            have hp484 := hp408.step hf483
            refine OPS.batch 6 {} [.pointer (some ⟨b389, 0, none⟩), .pointer (some ⟨rb377, 0, none⟩)] [86, 88, 90, 91] [.bool true, .pointer (some ⟨b389, 0, none⟩), .pointer (some ⟨rb377, 0, none⟩), .agg #[.int .i64 1, .int .i64 0, .int .i64 0, .int .i64 0, .int .i64 0]] (.cons (show InB (1) (2) from ⟨by omega, by omega⟩) (.cons (Ld.row1 (P := Try.prog) (t := 42) (o := 1) (v := .pointer (some ⟨b389, 0, none⟩)) hp484.get0 (by kernel_rfl)) (.cons (show InB (1) (2) from ⟨by omega, by omega⟩) (.cons (Ld.row1 (P := Try.prog) (t := 44) (o := 1) (v := .pointer (some ⟨rb377, 0, none⟩)) hp484.get1 (by kernel_rfl)) .nil)))) (by kernel_rfl) (fun b485 => ?_)
            refine OPS.want (by kernel_rfl) ?_
            have hp488 := hp484.pull6
            have hp489 := hp488.pull6
            have hp490 := hp489.pull6
            have hp491 := hp490.pull6
            have hp492 := hp491.pull6
            refine OPS.cons (opStep.call (some 92) [.pointer (some ⟨b389, 0, none⟩), .pointer (some ⟨rb377, 0, none⟩), .agg #[.int .i64 1, .int .i64 0, .int .i64 0, .int .i64 0, .int .i64 0]] (by kernel_rfl) (p17_plays _ _ b389 mb390 rb377 other _ _ _ _ m2_ cs2_ ls2_ (⟨1, 0, 0, 0, 0⟩ : Gsherdlaw17_Op) _ hr2_ (by omega) hp492) ?_)
            rintro _ w493 ⟨l495, cs496, ls497, rfl, hr498, hp494⟩
            refine ⟨_, rfl, ?_⟩
            refine OPS.batch 2 { wraps := [93] } [] [94] [.bool true] .nil (by kernel_rfl) (fun b499 => ?_)
            refine OPS.want (by kernel_rfl) ?_
            refine OPS.cons (opStep.call (some 95) [] (by kernel_rfl) (ph_taken _) ?_)
            rintro _ w502 ⟨rfl, hf503⟩
            refine ⟨_, rfl, ?_⟩
            have hp504 := hp494.step hf503
            refine OPS.batch 2 { wraps := [96] } [] [6] [.bool true] .nil (by kernel_rfl) (fun b505 => ?_)
            refine OPS.nil ?_
            refine thn_n ?_
            refine WP.ret ?_
            refine bodyQ.of _ rfl [.bool true] ⟨rfl, trivial⟩ ?_
            exact ⟨rfl, hp504.fr⟩
      · refine OPS.cons (opStep.call (some 29) [.agg #[.int .i64 other.N, .int .i64 other.K, .int .i64 other.Delta]] (by kernel_rfl) (r17_New_no other _ hcfg2_) ?_)
        rintro _ w506 ⟨rfl, hf507⟩
        refine ⟨_, rfl, ?_⟩
        have hp508 := hp370.step hf507
        refine OPS.batch 5 {} [] [2, 7, 8, 9, 10, 11, 12, 20, 21, 22] [.slice s1.a s1.n s1.c, .pointer (some ⟨g10, 0, none⟩), .pointer (some ⟨g13, 0, none⟩), .int .i64 1, .pointer (some ⟨g367, 0, none⟩), .pointer none, .int .i64 40, .slice (some ⟨g17, 0, none⟩) 2 2, .int .i64 2, .int .i64 1] .nil (by kernel_rfl) (fun b509 => ?_)
        refine OPS.nil ?_
        refine thn_n ?_
        refine WP.seq ?_
        refine WP.region _ rfl (by kernel_rfl) ?_
        refine OPS.batch 1 {} [.agg #[.int .i64 other.N, .int .i64 other.K, .int .i64 other.Delta]] [2, 7, 8, 9, 11, 12, 20, 21, 22, 33] [.slice s1.a s1.n s1.c, .pointer (some ⟨g10, 0, none⟩), .pointer (some ⟨g13, 0, none⟩), .int .i64 1, .pointer none, .int .i64 40, .slice (some ⟨g17, 0, none⟩) 2 2, .int .i64 2, .int .i64 1, .agg #[.int .i64 other.N, .int .i64 other.K, .int .i64 other.Delta]] (.cons (show Ld Try.prog w506 23 ⟨g367, 0, none⟩ (.agg #[.int .i64 other.N, .int .i64 other.K, .int .i64 other.Delta]) from Ld.rowN (cs := [.int .i64 other.N, .int .i64 other.K, .int .i64 other.Delta]) hp508.get0 (by kernel_rfl)) .nil) (by kernel_rfl) (fun b510 => ?_)
        refine OPS.cons (opStep.call (some 34) [.agg #[.int .i64 other.N, .int .i64 other.K, .int .i64 other.Delta]] (by kernel_rfl) (pi_New_no other _ hcfg2_) ?_)
        rintro _ w513 ⟨rfl, hf514⟩
        refine ⟨_, rfl, ?_⟩
        have hp515 := (hp508.sub (.cons _ (.cons_cons _ (.cons_cons _ (.cons_cons _ (.slnil)))))).step hf514
        refine OPS.batch 5 {} [] [2, 7, 8, 9, 11, 12, 13, 14, 20, 21, 22] [.slice s1.a s1.n s1.c, .pointer (some ⟨g10, 0, none⟩), .pointer (some ⟨g13, 0, none⟩), .int .i64 1, .pointer none, .int .i64 40, .pointer none, .int .i64 40, .slice (some ⟨g17, 0, none⟩) 2 2, .int .i64 2, .int .i64 1] .nil (by kernel_rfl) (fun b516 => ?_)
        refine OPS.nil ?_
        refine thn_n ?_
        refine WP.seq ?_
        refine WP.seq ?_
        refine WP.pure { wraps := [46] } [] [2, 7, 8, 9, 11, 13, 20, 21, 22, 46] [.slice s1.a s1.n s1.c, .pointer (some ⟨g10, 0, none⟩), .pointer (some ⟨g13, 0, none⟩), .int .i64 1, .pointer none, .pointer none, .slice (some ⟨g17, 0, none⟩) 2 2, .int .i64 2, .int .i64 1, .bool (!(true == true))] .nil (by kernel_rfl) (fun b517 => ?_)
        refine thn_n ?_
        refine WP.test (p := ¬ (((True) ↔ (True)))) rfl (Bp.not (Bp.beq Bp.t Bp.t)) (fun h518 => ?_) (fun h518 => ?_)
        · refine WP.seq ?_
          refine WP.pure {} [] [6] [.bool false] .nil (by kernel_rfl) (fun b519 => ?_)
          refine thn_n ?_
          refine WP.ret ?_
          refine thn_r ?_
          refine blk_r ?_
          refine thn_r ?_
          refine thn_r ?_
          refine blk_r ?_
          refine thn_r ?_
          refine bodyQ.of _ rfl [.bool false] ⟨rfl, trivial⟩ ?_
          exfalso
          first | exact h518 Iff.rfl | simp at h518
        · replace h518 := Classical.not_not.1 h518
          refine WP.skip ?_
          refine thn_n ?_
          refine WP.seq ?_
          refine WP.region _ rfl (by kernel_rfl) ?_
          refine OPS.batch 3 {} [] [2, 7, 8, 9, 11, 20, 21, 22, 48, 49] [.slice s1.a s1.n s1.c, .pointer (some ⟨g10, 0, none⟩), .pointer (some ⟨g13, 0, none⟩), .int .i64 1, .pointer none, .slice (some ⟨g17, 0, none⟩) 2 2, .int .i64 2, .int .i64 1, .pointer none, .pointer (some ⟨g10, 1, none⟩)] (.cons (show InB (1) (2) from ⟨by omega, by omega⟩) .nil) (by kernel_rfl) (fun b520 => ?_)
          refine OPS.cons (opStep.store2 hp515 rfl [.pointer none] [.pointer none, .pointer none] (by kernel_rfl) (fun w521 hp522 => ?_))
          refine OPS.nil ?_
          refine thn_n ?_
          refine WP.region _ rfl (by kernel_rfl) ?_
          refine OPS.batch 3 {} [] [2, 7, 8, 20, 21, 22, 51, 52] [.slice s1.a s1.n s1.c, .pointer (some ⟨g10, 0, none⟩), .pointer (some ⟨g13, 0, none⟩), .slice (some ⟨g17, 0, none⟩) 2 2, .int .i64 2, .int .i64 1, .pointer none, .pointer (some ⟨g13, 1, none⟩)] (.cons (show InB (1) (2) from ⟨by omega, by omega⟩) .nil) (by kernel_rfl) (fun b523 => ?_)
          refine OPS.cons (opStep.store1 hp522 rfl [.pointer none] [.pointer none, .pointer none] (by kernel_rfl) (fun w524 hp525 => ?_))
          refine OPS.nil ?_
          refine blk_n ?_
          refine thn_n ?_
          refine WP.pure {} [] [2, 7, 8, 20, 21, 22] [.slice s1.a s1.n s1.c, .pointer (some ⟨g10, 0, none⟩), .pointer (some ⟨g13, 0, none⟩), .slice (some ⟨g17, 0, none⟩) 2 2, .int .i64 2, .int .i64 2] (.cons (show Rng .i64 (2) from Rng.i64 (by omega)) .nil) (by kernel_rfl) (fun b526 => ?_)
          refine thn_n ?_
          refine RND.step ?_
          refine WP.seq ?_
          refine WP.pure {} [] [2, 7, 8, 20, 21, 22, 23] [.slice s1.a s1.n s1.c, .pointer (some ⟨g10, 0, none⟩), .pointer (some ⟨g13, 0, none⟩), .slice (some ⟨g17, 0, none⟩) 2 2, .int .i64 2, .int .i64 2, .bool false] .nil (by kernel_rfl) (fun b527 => ?_)
          refine thn_n ?_
          refine WP.seq ?_
          refine WP.condF rfl ?_
          refine WP.exit ?_
          refine thn_x ?_
          refine thn_x ?_
          refine blk_hit ?_
          refine thn_n ?_
          refine WP.seq ?_
          refine WP.seq ?_
          refine WP.pure {} [] [7, 8, 54, 55, 56] [.pointer (some ⟨g10, 0, none⟩), .pointer (some ⟨g13, 0, none⟩), .slice s1.a s1.n s1.c, .int .i64 ((s1.n : Nat) : Int), .int .i64 0] .nil (by kernel_rfl) (fun b528 => ?_)
          refine thn_n ?_
          refine WP.block ?_
          refine WP.loop (fun mz_ e529 w530 => ∃ (k : Nat), mz_ = l1.length - k ∧ (k ≤ l1.length) ∧ List.map e529 [7, 8, 54, 55, 56] = [.pointer (some ⟨g10, 0, none⟩), .pointer (some ⟨g13, 0, none⟩), .slice s1.a s1.n s1.c, .int .i64 ((s1.n : Nat) : Int), .int .i64 (k : Int)] ∧ Hp w Non [Res.row g17 [.int .i64 one.N, .int .i64 one.K, .int .i64 one.Delta, .int .i64 other.N, .int .i64 other.K, .int .i64 other.Delta] 23, Res.row g13 [.pointer none, .pointer none] 45, Res.row g10 [.pointer none, .pointer none] 43] w530) (l1.length - (0)) ⟨0, rfl, (by omega), by kernel_rfl, hp525⟩ ?_
          rintro _ e529 w530 ⟨k, rfl, hI532, hE533, hp531⟩
          obtain ⟨b534, rfl⟩ := toMk hE533
          clear hE533
          obtain pa := hI532
          have pt1 := Int.lt_tmod_of_pos (l1[k]!.P) (show (0 : Int) < 2 by omega)
          have pt2 := Int.tmod_lt_of_pos (l1[k]!.P) (show (0 : Int) < 2 by omega)
          refine WP.seq ?_
          refine WP.pure {} [] [7, 8, 54, 55, 56, 57] [.pointer (some ⟨g10, 0, none⟩), .pointer (some ⟨g13, 0, none⟩), .slice s1.a s1.n s1.c, .int .i64 ((s1.n : Nat) : Int), .int .i64 (k : Int), .bool (decide ((k : Int) < ((s1.n : Nat) : Int)))] .nil (by kernel_rfl) (fun b535 => ?_)
          refine thn_n ?_
          refine WP.seq ?_
          refine WP.test (p := (k : Int) < ((s1.n : Nat) : Int)) rfl Bp.dec (fun h536 => ?_) (fun h536 => ?_)
          · refine WP.skip ?_
            refine thn_n ?_
            refine WP.seq ?_
            refine WP.block ?_
            refine WP.seq ?_
            refine WP.region _ rfl (by kernel_rfl) ?_
            have hy540 : (l1)[k]? = some l1[k]! := get_bang (by first | (omega) | (simp only [List.length_append, List.length_cons, List.length_nil]; omega) | (simp only [List.length_take, List.length_append, List.length_cons, List.length_nil]; omega))
            refine OPS.batch 2 {} [Gsherdlaw17_Op.val (l1[k]!)] [7, 8, 54, 55, 56, 59] [.pointer (some ⟨g10, 0, none⟩), .pointer (some ⟨g13, 0, none⟩), .slice s1.a s1.n s1.c, .int .i64 ((s1.n : Nat) : Int), .int .i64 (k : Int), Gsherdlaw17_Op.val (l1[k]!)] (.cons (show InB ((k : Int)) (s1.n) from ⟨by omega, by omega⟩) (.cons ((o1.rd.at hp531).some (by omega)) (.cons (Ld.add0 (Ld.elN (P := Try.prog) (t := 52) (o1.rd.at hp531).rd 5 (fun _ => rfl) hy540 (o := 0) (cs := [.int .i64 (l1[k]!.Kind), .int .i64 (l1[k]!.P), .int .i64 (l1[k]!.Server), .int .i64 (l1[k]!.V), .int .i64 (l1[k]!.N)]) (by kernel_rfl))) .nil))) (by kernel_rfl) (fun b541 => ?_)
            refine OPS.cons (opStep.alloc hp531 [.int .i64 0, .int .i64 0, .int .i64 0, .int .i64 0, .int .i64 0] (by kernel_rfl) (fun g544 w542 hp543 => ?_))
            refine OPS.cons (opStep.store0 hp543 rfl [.int .i64 (l1[k]!.Kind), .int .i64 (l1[k]!.P), .int .i64 (l1[k]!.Server), .int .i64 (l1[k]!.V), .int .i64 (l1[k]!.N)] [.int .i64 (l1[k]!.Kind), .int .i64 (l1[k]!.P), .int .i64 (l1[k]!.Server), .int .i64 (l1[k]!.V), .int .i64 (l1[k]!.N)] (by kernel_rfl) (fun w545 hp546 => ?_))
            refine OPS.nil ?_
            refine thn_n ?_
            refine WP.seq ?_
            have hk547 : (((l1[k]!.P).tmod 2) + 2).tmod 2 = 0 ∨ (((l1[k]!.P).tmod 2) + 2).tmod 2 = 1 := two_of _
            rcases hk547 with hk547 | hk547
            · refine WP.pure { subs := [64] } [.int .i64 (l1[k]!.P), .int .i64 0] [7, 8, 16, 17, 54, 55, 56] [.pointer (some ⟨g10, 0, none⟩), .pointer (some ⟨g13, 0, none⟩), .pointer (some ⟨g544, 0, none⟩), .int .i64 0, .slice s1.a s1.n s1.c, .int .i64 ((s1.n : Nat) : Int), .int .i64 (k : Int)] (.cons (Ld.row1 (P := Try.prog) (t := 3) (o := 1) (v := .int .i64 (l1[k]!.P)) hp546.get0 (by kernel_rfl)) (.cons (show (2 : Int) ≠ 0 from by omega) (.cons (show Rng .i64 (((l1[k]!.P).tmod 2) + 2) from Rng.i64 (by omega)) (.cons (show (2 : Int) ≠ 0 from by omega) (.cons (show (.int .i64 ((((l1[k]!.P).tmod 2) + 2).tmod 2) : Go.Value) = .int .i64 0 from congrArg (Value.int .i64) (hk547)) .nil))))) (by kernel_rfl) (fun b548 => ?_)
              refine thn_n ?_
              refine WP.seq ?_
              have hp549 := hp546.drew
              refine WP.held (fun w550 => Ld Try.prog w550 42 ⟨g10, 0, none⟩ (.pointer none) ∧ Ld Try.prog w550 44 ⟨g13, 0, none⟩ (.pointer none) ∧ Ld Try.prog w550 52 ⟨g544, 0, none⟩ (Gsherdlaw17_Op.val (l1[k]!)) ∧ True) [] [(0, true), (1, true), (2, true), (3, true), (4, true), (5, true), (6, true), (7, false), (8, true), (9, true), (10, true), (11, false), (12, true), (13, true)] (np_thn (np_blk (np_thn (np_thn (np_blk (np_thn np_body)))))) (by kernel_rfl) ?_
              refine HOPS.take 7 {} [.pointer none, .pointer none, Gsherdlaw17_Op.val (l1[k]!)] [7, 8, 16, 54, 55, 56, 67, 70, 71] [.pointer (some ⟨g10, 0, none⟩), .pointer (some ⟨g13, 0, none⟩), .pointer (some ⟨g544, 0, none⟩), .slice s1.a s1.n s1.c, .int .i64 ((s1.n : Nat) : Int), .int .i64 (k : Int), .pointer none, .pointer none, Gsherdlaw17_Op.val (l1[k]!)] (by kernel_rfl) ⟨(show Ld Try.prog w545.drew 42 ⟨g10, 0, none⟩ (.pointer none) from (Ld.row1 (P := Try.prog) (t := 42) (o := 0) (v := .pointer none) hp549.get3 (by kernel_rfl))), (show Ld Try.prog w545.drew 44 ⟨g13, 0, none⟩ (.pointer none) from (Ld.row1 (P := Try.prog) (t := 44) (o := 0) (v := .pointer none) hp549.get2 (by kernel_rfl))), (show Ld Try.prog w545.drew 52 ⟨g544, 0, none⟩ (Gsherdlaw17_Op.val (l1[k]!)) from (show Ld Try.prog w545.drew 52 ⟨g544, 0, none⟩ (Gsherdlaw17_Op.val (l1[k]!)) from Ld.rowN (cs := [.int .i64 (l1[k]!.Kind), .int .i64 (l1[k]!.P), .int .i64 (l1[k]!.Server), .int .i64 (l1[k]!.V), .int .i64 (l1[k]!.N)]) hp549.get0 (by kernel_rfl))), trivial⟩ (fun w551 hS552 => QB.mk (.cons (show InB (0) (2) from ⟨by omega, by omega⟩) (.cons (hS552.1) (.cons (show InB (0) (2) from ⟨by omega, by omega⟩) (.cons (hS552.2.1) (.cons (hS552.2.2.1) .nil))))) (by kernel_rfl)) (fun b553 => ?_)
              refine HOPS.eff _ rfl (opStep.call (some 72) [.pointer none, .pointer none, Gsherdlaw17_Op.val (l1[k]!)] (by kernel_rfl) (p17_plays_nil (l1[k]!) _) ?_)
              rintro _ w556 ⟨rfl, hf557⟩
              refine ⟨_, rfl, ?_⟩
              have hp558 := hp549.step hf557
              refine ⟨.inr ⟨(show Ld Try.prog w556 42 ⟨g10, 0, none⟩ (.pointer none) from (Ld.row1 (P := Try.prog) (t := 42) (o := 0) (v := .pointer none) hp558.get3 (by kernel_rfl))), (show Ld Try.prog w556 44 ⟨g13, 0, none⟩ (.pointer none) from (Ld.row1 (P := Try.prog) (t := 44) (o := 0) (v := .pointer none) hp558.get2 (by kernel_rfl))), (show Ld Try.prog w556 52 ⟨g544, 0, none⟩ (Gsherdlaw17_Op.val (l1[k]!)) from (show Ld Try.prog w556 52 ⟨g544, 0, none⟩ (Gsherdlaw17_Op.val (l1[k]!)) from Ld.rowN (cs := [.int .i64 (l1[k]!.Kind), .int .i64 (l1[k]!.P), .int .i64 (l1[k]!.Server), .int .i64 (l1[k]!.V), .int .i64 (l1[k]!.N)]) hp558.get0 (by kernel_rfl))), trivial⟩, ?_⟩
              refine HOPS.take 3 {} [Gsherdlaw17_Op.val (l1[k]!)] [7, 8, 54, 55, 56, 74, 75] [.pointer (some ⟨g10, 0, none⟩), .pointer (some ⟨g13, 0, none⟩), .slice s1.a s1.n s1.c, .int .i64 ((s1.n : Nat) : Int), .int .i64 (k : Int), .bool false, Gsherdlaw17_Op.val (l1[k]!)] (by kernel_rfl) ⟨(show Ld Try.prog w556 42 ⟨g10, 0, none⟩ (.pointer none) from (Ld.row1 (P := Try.prog) (t := 42) (o := 0) (v := .pointer none) hp558.get3 (by kernel_rfl))), (show Ld Try.prog w556 44 ⟨g13, 0, none⟩ (.pointer none) from (Ld.row1 (P := Try.prog) (t := 44) (o := 0) (v := .pointer none) hp558.get2 (by kernel_rfl))), (show Ld Try.prog w556 52 ⟨g544, 0, none⟩ (Gsherdlaw17_Op.val (l1[k]!)) from (show Ld Try.prog w556 52 ⟨g544, 0, none⟩ (Gsherdlaw17_Op.val (l1[k]!)) from Ld.rowN (cs := [.int .i64 (l1[k]!.Kind), .int .i64 (l1[k]!.P), .int .i64 (l1[k]!.Server), .int .i64 (l1[k]!.V), .int .i64 (l1[k]!.N)]) hp558.get0 (by kernel_rfl))), trivial⟩ (fun w559 hS560 => QB.mk (.cons (hS560.2.2.1) .nil) (by kernel_rfl)) (fun b561 => ?_)
              refine HOPS.effW _ rfl (by kernel_rfl) (opStep.call (some 76) [.pointer none, .pointer none, Gsherdlaw17_Op.val (l1[k]!)] (by kernel_rfl) (p17_plays_nil (l1[k]!) _) ?_)
              rintro _ w564 ⟨rfl, hf565⟩
              refine ⟨_, rfl, ?_⟩
              have hp566 := hp558.step hf565
              refine ⟨.inr ⟨(show Ld Try.prog w564 42 ⟨g10, 0, none⟩ (.pointer none) from (Ld.row1 (P := Try.prog) (t := 42) (o := 0) (v := .pointer none) hp566.get3 (by kernel_rfl))), (show Ld Try.prog w564 44 ⟨g13, 0, none⟩ (.pointer none) from (Ld.row1 (P := Try.prog) (t := 44) (o := 0) (v := .pointer none) hp566.get2 (by kernel_rfl))), (show Ld Try.prog w564 52 ⟨g544, 0, none⟩ (Gsherdlaw17_Op.val (l1[k]!)) from (show Ld Try.prog w564 52 ⟨g544, 0, none⟩ (Gsherdlaw17_Op.val (l1[k]!)) from Ld.rowN (cs := [.int .i64 (l1[k]!.Kind), .int .i64 (l1[k]!.P), .int .i64 (l1[k]!.Server), .int .i64 (l1[k]!.V), .int .i64 (l1[k]!.N)]) hp566.get0 (by kernel_rfl))), trivial⟩, ?_⟩
              refine HOPS.take 2 { wraps := [78] } [] [7, 8, 54, 55, 56, 78] [.pointer (some ⟨g10, 0, none⟩), .pointer (some ⟨g13, 0, none⟩), .slice s1.a s1.n s1.c, .int .i64 ((s1.n : Nat) : Int), .int .i64 (k : Int), .bool false] (by kernel_rfl) ⟨(show Ld Try.prog w564 42 ⟨g10, 0, none⟩ (.pointer none) from (Ld.row1 (P := Try.prog) (t := 42) (o := 0) (v := .pointer none) hp566.get3 (by kernel_rfl))), (show Ld Try.prog w564 44 ⟨g13, 0, none⟩ (.pointer none) from (Ld.row1 (P := Try.prog) (t := 44) (o := 0) (v := .pointer none) hp566.get2 (by kernel_rfl))), (show Ld Try.prog w564 52 ⟨g544, 0, none⟩ (Gsherdlaw17_Op.val (l1[k]!)) from (show Ld Try.prog w564 52 ⟨g544, 0, none⟩ (Gsherdlaw17_Op.val (l1[k]!)) from Ld.rowN (cs := [.int .i64 (l1[k]!.Kind), .int .i64 (l1[k]!.P), .int .i64 (l1[k]!.Server), .int .i64 (l1[k]!.V), .int .i64 (l1[k]!.N)]) hp566.get0 (by kernel_rfl))), trivial⟩ (fun w567 hS568 => QB.mk .nil (by kernel_rfl)) (fun b569 => ?_)
              refine HOPS.nil ?_
              refine thn_n ?_
              refine WP.condF rfl ?_
              refine WP.skip ?_
              refine blk_n ?_
              refine thn_n ?_
              refine WP.pure {} [] [7, 8, 54, 55, 56] [.pointer (some ⟨g10, 0, none⟩), .pointer (some ⟨g13, 0, none⟩), .slice s1.a s1.n s1.c, .int .i64 ((s1.n : Nat) : Int), .int .i64 ((k : Int) + 1)] (.cons (show Rng .i64 ((k : Int) + 1) from Rng.i64 (by omega)) .nil) (by kernel_rfl) (fun b570 => ?_)
              refine thn_n ?_
              exact ⟨l1.length - (k + 1), (by omega), k + 1, rfl, (by omega), by kernel_rfl, (hp566.sub (.cons _ (.cons_cons _ (.cons_cons _ (.cons_cons _ (.slnil))))))⟩
            · refine WP.pure { subs := [64] } [.int .i64 (l1[k]!.P), .int .i64 1] [7, 8, 16, 17, 54, 55, 56] [.pointer (some ⟨g10, 0, none⟩), .pointer (some ⟨g13, 0, none⟩), .pointer (some ⟨g544, 0, none⟩), .int .i64 1, .slice s1.a s1.n s1.c, .int .i64 ((s1.n : Nat) : Int), .int .i64 (k : Int)] (.cons (Ld.row1 (P := Try.prog) (t := 3) (o := 1) (v := .int .i64 (l1[k]!.P)) hp546.get0 (by kernel_rfl)) (.cons (show (2 : Int) ≠ 0 from by omega) (.cons (show Rng .i64 (((l1[k]!.P).tmod 2) + 2) from Rng.i64 (by omega)) (.cons (show (2 : Int) ≠ 0 from by omega) (.cons (show (.int .i64 ((((l1[k]!.P).tmod 2) + 2).tmod 2) : Go.Value) = .int .i64 1 from congrArg (Value.int .i64) (hk547)) .nil))))) (by kernel_rfl) (fun b571 => ?_)
              refine thn_n ?_
              refine WP.seq ?_
              have hp572 := hp546.drew
              refine WP.held (fun w573 => Ld Try.prog w573 42 ⟨g10, 1, none⟩ (.pointer none) ∧ Ld Try.prog w573 44 ⟨g13, 1, none⟩ (.pointer none) ∧ Ld Try.prog w573 52 ⟨g544, 0, none⟩ (Gsherdlaw17_Op.val (l1[k]!)) ∧ True) [] [(0, true), (1, true), (2, true), (3, true), (4, true), (5, true), (6, true), (7, false), (8, true), (9, true), (10, true), (11, false), (12, true), (13, true)] (np_thn (np_blk (np_thn (np_thn (np_blk (np_thn np_body)))))) (by kernel_rfl) ?_
              refine HOPS.take 7 {} [.pointer none, .pointer none, Gsherdlaw17_Op.val (l1[k]!)] [7, 8, 16, 54, 55, 56, 67, 70, 71] [.pointer (some ⟨g10, 0, none⟩), .pointer (some ⟨g13, 0, none⟩), .pointer (some ⟨g544, 0, none⟩), .slice s1.a s1.n s1.c, .int .i64 ((s1.n : Nat) : Int), .int .i64 (k : Int), .pointer none, .pointer none, Gsherdlaw17_Op.val (l1[k]!)] (by kernel_rfl) ⟨(show Ld Try.prog w545.drew 42 ⟨g10, 1, none⟩ (.pointer none) from (Ld.row1 (P := Try.prog) (t := 42) (o := 1) (v := .pointer none) hp572.get3 (by kernel_rfl))), (show Ld Try.prog w545.drew 44 ⟨g13, 1, none⟩ (.pointer none) from (Ld.row1 (P := Try.prog) (t := 44) (o := 1) (v := .pointer none) hp572.get2 (by kernel_rfl))), (show Ld Try.prog w545.drew 52 ⟨g544, 0, none⟩ (Gsherdlaw17_Op.val (l1[k]!)) from (show Ld Try.prog w545.drew 52 ⟨g544, 0, none⟩ (Gsherdlaw17_Op.val (l1[k]!)) from Ld.rowN (cs := [.int .i64 (l1[k]!.Kind), .int .i64 (l1[k]!.P), .int .i64 (l1[k]!.Server), .int .i64 (l1[k]!.V), .int .i64 (l1[k]!.N)]) hp572.get0 (by kernel_rfl))), trivial⟩ (fun w574 hS575 => QB.mk (.cons (show InB (1) (2) from ⟨by omega, by omega⟩) (.cons (hS575.1) (.cons (show InB (1) (2) from ⟨by omega, by omega⟩) (.cons (hS575.2.1) (.cons (hS575.2.2.1) .nil))))) (by kernel_rfl)) (fun b576 => ?_)
              refine HOPS.eff _ rfl (opStep.call (some 72) [.pointer none, .pointer none, Gsherdlaw17_Op.val (l1[k]!)] (by kernel_rfl) (p17_plays_nil (l1[k]!) _) ?_)
              rintro _ w579 ⟨rfl, hf580⟩
              refine ⟨_, rfl, ?_⟩
              have hp581 := hp572.step hf580
              refine ⟨.inr ⟨(show Ld Try.prog w579 42 ⟨g10, 1, none⟩ (.pointer none) from (Ld.row1 (P := Try.prog) (t := 42) (o := 1) (v := .pointer none) hp581.get3 (by kernel_rfl))), (show Ld Try.prog w579 44 ⟨g13, 1, none⟩ (.pointer none) from (Ld.row1 (P := Try.prog) (t := 44) (o := 1) (v := .pointer none) hp581.get2 (by kernel_rfl))), (show Ld Try.prog w579 52 ⟨g544, 0, none⟩ (Gsherdlaw17_Op.val (l1[k]!)) from (show Ld Try.prog w579 52 ⟨g544, 0, none⟩ (Gsherdlaw17_Op.val (l1[k]!)) from Ld.rowN (cs := [.int .i64 (l1[k]!.Kind), .int .i64 (l1[k]!.P), .int .i64 (l1[k]!.Server), .int .i64 (l1[k]!.V), .int .i64 (l1[k]!.N)]) hp581.get0 (by kernel_rfl))), trivial⟩, ?_⟩
              refine HOPS.take 3 {} [Gsherdlaw17_Op.val (l1[k]!)] [7, 8, 54, 55, 56, 74, 75] [.pointer (some ⟨g10, 0, none⟩), .pointer (some ⟨g13, 0, none⟩), .slice s1.a s1.n s1.c, .int .i64 ((s1.n : Nat) : Int), .int .i64 (k : Int), .bool false, Gsherdlaw17_Op.val (l1[k]!)] (by kernel_rfl) ⟨(show Ld Try.prog w579 42 ⟨g10, 1, none⟩ (.pointer none) from (Ld.row1 (P := Try.prog) (t := 42) (o := 1) (v := .pointer none) hp581.get3 (by kernel_rfl))), (show Ld Try.prog w579 44 ⟨g13, 1, none⟩ (.pointer none) from (Ld.row1 (P := Try.prog) (t := 44) (o := 1) (v := .pointer none) hp581.get2 (by kernel_rfl))), (show Ld Try.prog w579 52 ⟨g544, 0, none⟩ (Gsherdlaw17_Op.val (l1[k]!)) from (show Ld Try.prog w579 52 ⟨g544, 0, none⟩ (Gsherdlaw17_Op.val (l1[k]!)) from Ld.rowN (cs := [.int .i64 (l1[k]!.Kind), .int .i64 (l1[k]!.P), .int .i64 (l1[k]!.Server), .int .i64 (l1[k]!.V), .int .i64 (l1[k]!.N)]) hp581.get0 (by kernel_rfl))), trivial⟩ (fun w582 hS583 => QB.mk (.cons (hS583.2.2.1) .nil) (by kernel_rfl)) (fun b584 => ?_)
              refine HOPS.effW _ rfl (by kernel_rfl) (opStep.call (some 76) [.pointer none, .pointer none, Gsherdlaw17_Op.val (l1[k]!)] (by kernel_rfl) (p17_plays_nil (l1[k]!) _) ?_)
              rintro _ w587 ⟨rfl, hf588⟩
              refine ⟨_, rfl, ?_⟩
              have hp589 := hp581.step hf588
              refine ⟨.inr ⟨(show Ld Try.prog w587 42 ⟨g10, 1, none⟩ (.pointer none) from (Ld.row1 (P := Try.prog) (t := 42) (o := 1) (v := .pointer none) hp589.get3 (by kernel_rfl))), (show Ld Try.prog w587 44 ⟨g13, 1, none⟩ (.pointer none) from (Ld.row1 (P := Try.prog) (t := 44) (o := 1) (v := .pointer none) hp589.get2 (by kernel_rfl))), (show Ld Try.prog w587 52 ⟨g544, 0, none⟩ (Gsherdlaw17_Op.val (l1[k]!)) from (show Ld Try.prog w587 52 ⟨g544, 0, none⟩ (Gsherdlaw17_Op.val (l1[k]!)) from Ld.rowN (cs := [.int .i64 (l1[k]!.Kind), .int .i64 (l1[k]!.P), .int .i64 (l1[k]!.Server), .int .i64 (l1[k]!.V), .int .i64 (l1[k]!.N)]) hp589.get0 (by kernel_rfl))), trivial⟩, ?_⟩
              refine HOPS.take 2 { wraps := [78] } [] [7, 8, 54, 55, 56, 78] [.pointer (some ⟨g10, 0, none⟩), .pointer (some ⟨g13, 0, none⟩), .slice s1.a s1.n s1.c, .int .i64 ((s1.n : Nat) : Int), .int .i64 (k : Int), .bool false] (by kernel_rfl) ⟨(show Ld Try.prog w587 42 ⟨g10, 1, none⟩ (.pointer none) from (Ld.row1 (P := Try.prog) (t := 42) (o := 1) (v := .pointer none) hp589.get3 (by kernel_rfl))), (show Ld Try.prog w587 44 ⟨g13, 1, none⟩ (.pointer none) from (Ld.row1 (P := Try.prog) (t := 44) (o := 1) (v := .pointer none) hp589.get2 (by kernel_rfl))), (show Ld Try.prog w587 52 ⟨g544, 0, none⟩ (Gsherdlaw17_Op.val (l1[k]!)) from (show Ld Try.prog w587 52 ⟨g544, 0, none⟩ (Gsherdlaw17_Op.val (l1[k]!)) from Ld.rowN (cs := [.int .i64 (l1[k]!.Kind), .int .i64 (l1[k]!.P), .int .i64 (l1[k]!.Server), .int .i64 (l1[k]!.V), .int .i64 (l1[k]!.N)]) hp589.get0 (by kernel_rfl))), trivial⟩ (fun w590 hS591 => QB.mk .nil (by kernel_rfl)) (fun b592 => ?_)
              refine HOPS.nil ?_
              refine thn_n ?_
              refine WP.condF rfl ?_
              refine WP.skip ?_
              refine blk_n ?_
              refine thn_n ?_
              refine WP.pure {} [] [7, 8, 54, 55, 56] [.pointer (some ⟨g10, 0, none⟩), .pointer (some ⟨g13, 0, none⟩), .slice s1.a s1.n s1.c, .int .i64 ((s1.n : Nat) : Int), .int .i64 ((k : Int) + 1)] (.cons (show Rng .i64 ((k : Int) + 1) from Rng.i64 (by omega)) .nil) (by kernel_rfl) (fun b593 => ?_)
              refine thn_n ?_
              exact ⟨l1.length - (k + 1), (by omega), k + 1, rfl, (by omega), by kernel_rfl, (hp589.sub (.cons _ (.cons_cons _ (.cons_cons _ (.cons_cons _ (.slnil))))))⟩
          · refine WP.exit ?_
            refine thn_x ?_
            refine thn_x ?_
            refine blk_hit ?_
            refine thn_n ?_
            refine WP.seq ?_
            refine WP.region _ rfl (by kernel_rfl) ?_
            refine OPS.batch 5 {} [.pointer none, .pointer none] [7, 8, 81, 83, 84] [.pointer (some ⟨g10, 0, none⟩), .pointer (some ⟨g13, 0, none⟩), .pointer none, .pointer none, .agg #[.int .i64 1, .int .i64 0, .int .i64 0, .int .i64 0, .int .i64 0]] (.cons (show InB (0) (2) from ⟨by omega, by omega⟩) (.cons (Ld.row1 (P := Try.prog) (t := 42) (o := 0) (v := .pointer none) hp531.get2 (by kernel_rfl)) (.cons (show InB (0) (2) from ⟨by omega, by omega⟩) (.cons (Ld.row1 (P := Try.prog) (t := 44) (o := 0) (v := .pointer none) hp531.get1 (by kernel_rfl)) .nil)))) (by kernel_rfl) (fun b594 => ?_)
            refine OPS.cons (opStep.call (some 85) [.pointer none, .pointer none, .agg #[.int .i64 1, .int .i64 0, .int .i64 0, .int .i64 0, .int .i64 0]] (by kernel_rfl) (p17_plays_nil (⟨1, 0, 0, 0, 0⟩ : Gsherdlaw17_Op) _) ?_)
            rintro _ w597 ⟨rfl, hf598⟩
            refine ⟨_, rfl, ?_⟩
            have hp599 := hp531.step hf598
            refine OPS.batch 6 {} [.pointer none, .pointer none] [86, 88, 90, 91] [.bool true, .pointer none, .pointer none, .agg #[.int .i64 1, .int .i64 0, .int .i64 0, .int .i64 0, .int .i64 0]] (.cons (show InB (1) (2) from ⟨by omega, by omega⟩) (.cons (Ld.row1 (P := Try.prog) (t := 42) (o := 1) (v := .pointer none) hp599.get2 (by kernel_rfl)) (.cons (show InB (1) (2) from ⟨by omega, by omega⟩) (.cons (Ld.row1 (P := Try.prog) (t := 44) (o := 1) (v := .pointer none) hp599.get1 (by kernel_rfl)) .nil)))) (by kernel_rfl) (fun b600 => ?_)
            refine OPS.want (by kernel_rfl) ?_
            refine OPS.cons (opStep.call (some 92) [.pointer none, .pointer none, .agg #[.int .i64 1, .int .i64 0, .int .i64 0, .int .i64 0, .int .i64 0]] (by kernel_rfl) (p17_plays_nil (⟨1, 0, 0, 0, 0⟩ : Gsherdlaw17_Op) _) ?_)
            rintro _ w603 ⟨rfl, hf604⟩
            refine ⟨_, rfl, ?_⟩
            have hp605 := hp599.step hf604
            refine OPS.batch 2 { wraps := [93] } [] [94] [.bool true] .nil (by kernel_rfl) (fun b606 => ?_)
            refine OPS.want (by kernel_rfl) ?_
            refine OPS.cons (opStep.call (some 95) [] (by kernel_rfl) (ph_taken _) ?_)
            rintro _ w609 ⟨rfl, hf610⟩
            refine ⟨_, rfl, ?_⟩
            have hp611 := hp605.step hf610
            refine OPS.batch 2 { wraps := [96] } [] [6] [.bool true] .nil (by kernel_rfl) (fun b612 => ?_)
            refine OPS.nil ?_
            refine thn_n ?_
            refine WP.ret ?_
            refine bodyQ.of _ rfl [.bool true] ⟨rfl, trivial⟩ ?_
            exact ⟨rfl, hp611.fr⟩

end Go.Proofs.Ytgpjpcemfaignaa.K
