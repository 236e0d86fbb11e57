/- The walks of PlY: what each function computes. -/
import Derived.Test.YtgpjpcemfaignaaProg
import Derived.Test.YtgpjpcemfaignaaCoreO
import Derived.Test.YtgpjpcemfaignaaPlE
namespace Go.Proofs.Ytgpjpcemfaignaa.K
open Go Go.Proofs Go.RowKit
set_option linter.unusedVariables false
set_option linter.unusedSimpArgs false
set_option maxRecDepth 20000
set_option maxHeartbeats 4000000

theorem p17_plays (w0 : World) (L : List Res) (b mb rb : Nat) (c : GConfig) (aC : Option Addr) (kC : Nat) (aL : Option Addr) (kL : Nat) (l : List (Int × Int)) (cs : List Bool) (ls : List Int) (o : Gsherdlaw17_Op) (w : World) (hrel : RelP c l cs ls) (hN : c.N ≤ 255) (hp0 : Hp w0 Non (Res.row b [.int .i64 c.N, .int .i64 c.K, .int .i64 c.Delta, .map (some mb)] 98 :: Res.mp mb kI vI l :: Res.row rb [.int .i64 c.N, .int .i64 c.K, .int .i64 c.Delta, .slice aC c.N.toNat kC, .slice aL c.N.toNat kL] 95 :: Res.own 4 1 (.slice aC c.N.toNat kC) c.N.toNat (List.flatMap (fun (y : Bool) => [Go.Value.bool y]) cs) :: Res.own 3 1 (.slice aL c.N.toNat kL) c.N.toNat (List.flatMap (fun (y : Int) => [Go.Value.int .i64 y]) ls) :: L) w) :
    Calls Try.prog 24 #[.pointer (some ⟨b, 0, none⟩), .pointer (some ⟨rb, 0, none⟩), Gsherdlaw17_Op.val o] w (fun r_ w' => ∃ (l' : List (Int × Int)) (cs' : List Bool) (ls' : List Int), r_ = .returned (.bool true) ∧ RelP c l' cs' ls' ∧ Hp w0 Non (Res.row b [.int .i64 c.N, .int .i64 c.K, .int .i64 c.Delta, .map (some mb)] 98 :: Res.mp mb kI vI l' :: Res.row rb [.int .i64 c.N, .int .i64 c.K, .int .i64 c.Delta, .slice aC c.N.toNat kC, .slice aL c.N.toNat kL] 95 :: Res.own 4 1 (.slice aC c.N.toNat kC) c.N.toNat (List.flatMap (fun (y : Bool) => [Go.Value.bool y]) cs') :: Res.own 3 1 (.slice aL c.N.toNat kL) c.N.toNat (List.flatMap (fun (y : Int) => [Go.Value.int .i64 y]) ls') :: L) w') := by
  have hf1 := hrel.first o.Server
  have hf2 := hrel.value o.Server
  have hf3 := hrel.miss
  have hf4 := hrel.len
  have hml := missP_le l c.N.toNat
  have hwl := want_le ls (servQ cs true) o.N
  have hst := servT_le cs true cs.length
  have hsf := servT_le cs false cs.length
  have hsq : ∀ b, servT cs b cs.length = servQ cs b := fun _ => rfl
  rw [hsq, hrel.n1] at hst hsf
  refine calls_of Try.func24 rfl 121 rfl (by simp) ?_
  have he0 : List.map (env0 [.pointer (some ⟨b, 0, none⟩), .pointer (some ⟨rb, 0, none⟩), Gsherdlaw17_Op.val o]) [0, 1, 2] = [.pointer (some ⟨b, 0, none⟩), .pointer (some ⟨rb, 0, none⟩), Gsherdlaw17_Op.val o] := by kernel_rfl
  obtain ⟨b0, he0⟩ := toMk he0
  rw [he0]
  clear he0
  refine WP.seq ?_
  refine WP.region _ rfl (by kernel_rfl) ?_
  refine OPS.cons (opStep.box hp0 [.int .i64 o.Kind, .int .i64 o.P, .int .i64 o.Server, .int .i64 o.V, .int .i64 o.N] (by kernel_rfl) (fun g3 w1 hp2 => ?_))
  refine OPS.batch 1 {} [] [0, 1, 5] [.pointer (some ⟨b, 0, none⟩), .pointer (some ⟨rb, 0, none⟩), .pointer (some ⟨g3, 0, none⟩)] .nil (by kernel_rfl) (fun b4 => ?_)
  refine OPS.nil ?_
  refine thn_n ?_
  refine WP.seq ?_
  refine WP.seq ?_
  refine WP.pure {} [.int .i64 o.Kind] [0, 1, 5, 20] [.pointer (some ⟨b, 0, none⟩), .pointer (some ⟨rb, 0, none⟩), .pointer (some ⟨g3, 0, none⟩), .int .i64 o.Kind] (.cons (Ld.row1 (P := Try.prog) (t := 3) (o := 0) (v := .int .i64 o.Kind) hp2.get0 (by kernel_rfl)) .nil) (by kernel_rfl) (fun b5 => ?_)
  refine thn_n ?_
  refine WP.block ?_
  refine WP.seq ?_
  refine WP.pure {} [] [0, 1, 5, 20, 21] [.pointer (some ⟨b, 0, none⟩), .pointer (some ⟨rb, 0, none⟩), .pointer (some ⟨g3, 0, none⟩), .int .i64 o.Kind, .bool (decide (o.Kind = 0))] .nil (by kernel_rfl) (fun b6 => ?_)
  refine thn_n ?_
  refine WP.test (p := o.Kind = 0) rfl Bp.dec (fun h7 => ?_) (fun h7 => ?_)
  · refine WP.seq ?_
    refine WP.region _ rfl (by kernel_rfl) ?_
    refine OPS.batch 5 {} [.int .i64 o.Server, .int .i64 o.V] [0, 5, 24, 26, 28] [.pointer (some ⟨b, 0, none⟩), .pointer (some ⟨g3, 0, none⟩), .pointer (some ⟨rb, 0, none⟩), .int .i64 o.Server, .int .i64 o.V] (.cons (Ld.row1 (P := Try.prog) (t := 3) (o := 2) (v := .int .i64 o.Server) hp2.get0 (by kernel_rfl)) (.cons (Ld.row1 (P := Try.prog) (t := 3) (o := 3) (v := .int .i64 o.V) hp2.get0 (by kernel_rfl)) .nil)) (by kernel_rfl) (fun b8 => ?_)
    have hp11 := hp2.pull5
    have hp12 := hp11.pull5
    have hp13 := hp12.pull5
    refine OPS.cons (opStep.call (some 29) [.pointer (some ⟨rb, 0, none⟩), .int .i64 o.Server, .int .i64 o.V] (by kernel_rfl) (r17_Answer _ _ _ c _ _ _ _ cs ls _ hrel.n1 hrel.n2 o.Server o.V hp13) ?_)
    rintro _ w14 ⟨b16, rfl, hb17, hp15⟩
    refine ⟨_, rfl, ?_⟩
    refine OPS.batch 5 {} [] [0, 5, 7, 8] [.pointer (some ⟨b, 0, none⟩), .pointer (some ⟨g3, 0, none⟩), .bool b16, .int .i64 (errP c o.Server)] .nil (by kernel_rfl) (fun b18 => ?_)
    refine OPS.nil ?_
    refine thn_n ?_
    refine WP.seq ?_
    refine WP.region _ rfl (by kernel_rfl) ?_
    refine OPS.batch 5 {} [.int .i64 o.Server, .int .i64 o.V] [7, 8, 33, 35, 37] [.bool b16, .int .i64 (errP c o.Server), .pointer (some ⟨b, 0, none⟩), .int .i64 o.Server, .int .i64 o.V] (.cons (Ld.row1 (P := Try.prog) (t := 3) (o := 2) (v := .int .i64 o.Server) hp15.get3 (by kernel_rfl)) (.cons (Ld.row1 (P := Try.prog) (t := 3) (o := 3) (v := .int .i64 o.V) hp15.get3 (by kernel_rfl)) .nil)) (by kernel_rfl) (fun b19 => ?_)
    have hp22 := hp15.pull5
    have hp23 := hp22.pull5
    refine OPS.cons (opStep.call (some 38) [.pointer (some ⟨b, 0, none⟩), .int .i64 o.Server, .int .i64 o.V] (by kernel_rfl) (pi_Answer _ _ _ mb c l _ o.Server o.V hp23) ?_)
    rintro _ w24 ⟨b26, rfl, hb27, hp25⟩
    refine ⟨_, rfl, ?_⟩
    refine OPS.batch 5 {} [] [7, 8, 9, 10] [.bool b16, .int .i64 (errP c o.Server), .bool b26, .int .i64 (errP c o.Server)] .nil (by kernel_rfl) (fun b28 => ?_)
    refine OPS.nil ?_
    refine thn_n ?_
    refine WP.cut (fun e38 w39 => ∃ (x36 : Bool), (True) ∧ Bp x36 (((inP c o.Server ∧ ¬ cs[o.Server.toNat]! = true) ↔ (inP c o.Server ∧ ¬ (mapV l o.Server).isSome = true)) ∧ ((errP c o.Server) = (errP c o.Server))) ∧ List.map e38 [6] = [.bool x36] ∧ Hp w0 Non (Res.row b [.int .i64 c.N, .int .i64 c.K, .int .i64 c.Delta, .map (some mb)] 98 :: Res.mp mb kI vI (ansP c l o.Server o.V) :: Res.row rb [.int .i64 c.N, .int .i64 c.K, .int .i64 c.Delta, .slice aC c.N.toNat kC, .slice aL c.N.toNat kL] 95 :: Res.own 4 1 (.slice aC c.N.toNat kC) c.N.toNat (List.flatMap (fun (y : Bool) => [Go.Value.bool y]) (ansC c cs o.Server)) :: Res.own 3 1 (.slice aL c.N.toNat kL) c.N.toNat (List.flatMap (fun (y : Int) => [Go.Value.int .i64 y]) (ansI c ls o.Server o.V)) :: Res.row g3 [.int .i64 o.Kind, .int .i64 o.P, .int .i64 o.Server, .int .i64 o.V, .int .i64 o.N] 52 :: L) w39) ?_ ?_
    · refine WP.region _ rfl (by kernel_rfl) ?_
      refine OPS.batch 4 {} [] [8, 10, 44] [.int .i64 (errP c o.Server), .int .i64 (errP c o.Server), .bool (b16 == b26)] .nil (by kernel_rfl) (fun b30 => ?_)
      by_cases h31 : ((inP c o.Server ∧ ¬ cs[o.Server.toNat]! = true) ↔ (inP c o.Server ∧ ¬ (mapV l o.Server).isSome = true))
      · refine OPS.batch 0 {} [] [8, 10, 44] [.int .i64 (errP c o.Server), .int .i64 (errP c o.Server), .bool (b16 == b26)] .nil (by kernel_rfl) (fun b32 => ?_)
        refine OPS.re [.int .i64 (errP c o.Server), .int .i64 (errP c o.Server), .bool true] (by rw [show (b16 == b26) = true from (Bp.beq hb17 hb27).tt h31]) ?_
        refine OPS.batch 5 { wraps := [48] } [] [6] [.bool (decide ((errP c o.Server) = (errP c o.Server)))] .nil (by kernel_rfl) (fun b33 => ?_)
        refine OPS.nil ?_
        refine thn_n ?_
        exact ⟨decide ((errP c o.Server) = (errP c o.Server)), trivial, Bp.of Bp.dec (by first | (simp only [h31, iff_false, false_iff, iff_true, true_iff, Classical.not_not, and_true, true_and, and_false, false_and, or_true, true_or, or_false, false_or, not_true_eq_false, not_false_eq_true, and_self, or_self, iff_self]; done) | (simp [h31]; done) | simp_all), by kernel_rfl, hp25⟩
      · refine OPS.batch 0 {} [] [8, 10, 44] [.int .i64 (errP c o.Server), .int .i64 (errP c o.Server), .bool (b16 == b26)] .nil (by kernel_rfl) (fun b34 => ?_)
        refine OPS.re [.int .i64 (errP c o.Server), .int .i64 (errP c o.Server), .bool false] (by rw [show (b16 == b26) = false from (Bp.beq hb17 hb27).ff h31]) ?_
        refine OPS.batch 5 { wraps := [48] } [] [6] [.bool false] .nil (by kernel_rfl) (fun b35 => ?_)
        refine OPS.nil ?_
        refine thn_n ?_
        exact ⟨false, trivial, Bp.of Bp.f (by first | (simp only [h31, iff_false, false_iff, iff_true, true_iff, Classical.not_not, and_true, true_and, and_false, false_and, or_true, true_or, or_false, false_or, not_true_eq_false, not_false_eq_true, and_self, or_self, iff_self]; done) | (simp [h31]; done) | simp_all), by kernel_rfl, hp25⟩
    rintro e38 w39 ⟨x36, hd41, hb37, hE42, hp40⟩
    obtain ⟨b43, rfl⟩ := toMk hE42
    clear hE42
    clear hd41
    refine WP.ret ?_
    refine blk_r ?_
    refine thn_r ?_
    refine bodyQ.of _ rfl [.bool x36] ⟨rfl, trivial⟩ ?_
    refine ⟨ansP c l o.Server o.V, (ansC c cs o.Server), (ansI c ls o.Server o.V), congrArg (fun b => Ending.returned (.bool b)) (Bp.tt hb37 ?_), hrel.ans o.Server o.V, (hp40.sub (.cons_cons _ (.cons_cons _ (.cons_cons _ (.cons_cons _ (.cons_cons _ (.cons _ (.refl _))))))))⟩
    (refine ?_; repeat' apply And.intro) <;> first | rfl | exact Iff.rfl | exact hf1 | exact hf1.symm | exact hf2.1 | exact hf2.1.symm | exact hf2.2 | exact hf2.2.symm | (rw [hf4]) | (rw [hf3]) | assumption | (simp; done)
  · refine WP.seq ?_
    refine WP.pure {} [] [0, 1, 5, 20, 49] [.pointer (some ⟨b, 0, none⟩), .pointer (some ⟨rb, 0, none⟩), .pointer (some ⟨g3, 0, none⟩), .int .i64 o.Kind, .bool (decide (o.Kind = 2))] .nil (by kernel_rfl) (fun b44 => ?_)
    refine thn_n ?_
    refine WP.test (p := o.Kind = 2) rfl Bp.dec (fun h45 => ?_) (fun h45 => ?_)
    · refine WP.seq ?_
      refine WP.region _ rfl (by kernel_rfl) ?_
      refine OPS.batch 3 {} [.int .i64 o.Server] [0, 5, 52, 54] [.pointer (some ⟨b, 0, none⟩), .pointer (some ⟨g3, 0, none⟩), .pointer (some ⟨rb, 0, none⟩), .int .i64 o.Server] (.cons (Ld.row1 (P := Try.prog) (t := 3) (o := 2) (v := .int .i64 o.Server) hp2.get0 (by kernel_rfl)) .nil) (by kernel_rfl) (fun b46 => ?_)
      have hp49 := hp2.pull5
      have hp50 := hp49.pull5
      have hp51 := hp50.pull5
      refine OPS.cons (opStep.call (some 55) [.pointer (some ⟨rb, 0, none⟩), .int .i64 o.Server] (by kernel_rfl) (r17_Get _ _ _ c _ _ _ _ cs ls _ hrel.n1 hrel.n2 o.Server hp51) ?_)
      rintro _ w52 ⟨b54, rfl, hb55, hp53⟩
      refine ⟨_, rfl, ?_⟩
      refine OPS.batch 5 {} [] [0, 5, 11, 12] [.pointer (some ⟨b, 0, none⟩), .pointer (some ⟨g3, 0, none⟩), .int .i64 (getI c cs ls o.Server), .bool b54] .nil (by kernel_rfl) (fun b56 => ?_)
      refine OPS.nil ?_
      refine thn_n ?_
      refine WP.seq ?_
      refine WP.region _ rfl (by kernel_rfl) ?_
      refine OPS.batch 3 {} [.int .i64 o.Server] [11, 12, 59, 61] [.int .i64 (getI c cs ls o.Server), .bool b54, .pointer (some ⟨b, 0, none⟩), .int .i64 o.Server] (.cons (Ld.row1 (P := Try.prog) (t := 3) (o := 2) (v := .int .i64 o.Server) hp53.get3 (by kernel_rfl)) .nil) (by kernel_rfl) (fun b57 => ?_)
      have hp60 := hp53.pull5
      have hp61 := hp60.pull5
      refine OPS.cons (opStep.call (some 62) [.pointer (some ⟨b, 0, none⟩), .int .i64 o.Server] (by kernel_rfl) (pi_Get _ _ _ mb c l _ o.Server hp61) ?_)
      rintro _ w62 ⟨rfl, hp63⟩
      refine ⟨_, rfl, ?_⟩
      refine OPS.batch 5 {} [] [11, 12, 13, 14] [.int .i64 (getI c cs ls o.Server), .bool b54, .int .i64 ((mapV l o.Server).getD 0), .bool ((mapV l o.Server).isSome)] .nil (by kernel_rfl) (fun b64 => ?_)
      refine OPS.nil ?_
      refine thn_n ?_
      refine WP.cut (fun e74 w75 => ∃ (x72 : Bool), (True) ∧ Bp x72 (((getI c cs ls o.Server) = ((mapV l o.Server).getD 0)) ∧ ((((mapV l o.Server).isSome) = true) ↔ (getC c cs o.Server))) ∧ List.map e74 [6] = [.bool x72] ∧ Hp w0 Non (Res.row b [.int .i64 c.N, .int .i64 c.K, .int .i64 c.Delta, .map (some mb)] 98 :: Res.mp mb kI vI l :: Res.row rb [.int .i64 c.N, .int .i64 c.K, .int .i64 c.Delta, .slice aC c.N.toNat kC, .slice aL c.N.toNat kL] 95 :: Res.own 4 1 (.slice aC c.N.toNat kC) c.N.toNat (List.flatMap (fun (y : Bool) => [Go.Value.bool y]) cs) :: Res.own 3 1 (.slice aL c.N.toNat kL) c.N.toNat (List.flatMap (fun (y : Int) => [Go.Value.int .i64 y]) ls) :: Res.row g3 [.int .i64 o.Kind, .int .i64 o.P, .int .i64 o.Server, .int .i64 o.V, .int .i64 o.N] 52 :: L) w75) ?_ ?_
      · refine WP.region _ rfl (by kernel_rfl) ?_
        refine OPS.batch 4 {} [] [12, 14, 68] [.bool b54, .bool ((mapV l o.Server).isSome), .bool (decide ((getI c cs ls o.Server) = ((mapV l o.Server).getD 0)))] .nil (by kernel_rfl) (fun b66 => ?_)
        by_cases h67 : (getI c cs ls o.Server) = ((mapV l o.Server).getD 0)
        · refine OPS.batch 0 {} [] [12, 14, 68] [.bool b54, .bool ((mapV l o.Server).isSome), .bool (decide ((getI c cs ls o.Server) = ((mapV l o.Server).getD 0)))] .nil (by kernel_rfl) (fun b68 => ?_)
          refine OPS.re [.bool b54, .bool ((mapV l o.Server).isSome), .bool true] (by rw [show (decide ((getI c cs ls o.Server) = ((mapV l o.Server).getD 0))) = true from Bp.dec.tt h67]) ?_
          refine OPS.batch 5 { wraps := [72] } [] [6] [.bool (((mapV l o.Server).isSome) == b54)] .nil (by kernel_rfl) (fun b69 => ?_)
          refine OPS.nil ?_
          refine thn_n ?_
          exact ⟨((mapV l o.Server).isSome) == b54, trivial, Bp.of (Bp.beq Bp.var hb55) (by first | (simp only [h67, iff_false, false_iff, iff_true, true_iff, Classical.not_not, and_true, true_and, and_false, false_and, or_true, true_or, or_false, false_or, not_true_eq_false, not_false_eq_true, and_self, or_self, iff_self]; done) | (simp [h67]; done) | simp_all), by kernel_rfl, hp63⟩
        · refine OPS.batch 0 {} [] [12, 14, 68] [.bool b54, .bool ((mapV l o.Server).isSome), .bool (decide ((getI c cs ls o.Server) = ((mapV l o.Server).getD 0)))] .nil (by kernel_rfl) (fun b70 => ?_)
          refine OPS.re [.bool b54, .bool ((mapV l o.Server).isSome), .bool false] (by rw [show (decide ((getI c cs ls o.Server) = ((mapV l o.Server).getD 0))) = false from Bp.dec.ff h67]) ?_
          refine OPS.batch 5 { wraps := [72] } [] [6] [.bool false] .nil (by kernel_rfl) (fun b71 => ?_)
          refine OPS.nil ?_
          refine thn_n ?_
          exact ⟨false, trivial, Bp.of Bp.f (by first | (simp only [h67, iff_false, false_iff, iff_true, true_iff, Classical.not_not, and_true, true_and, and_false, false_and, or_true, true_or, or_false, false_or, not_true_eq_false, not_false_eq_true, and_self, or_self, iff_self]; done) | (simp [h67]; done) | simp_all), by kernel_rfl, hp63⟩
      rintro e74 w75 ⟨x72, hd77, hb73, hE78, hp76⟩
      obtain ⟨b79, rfl⟩ := toMk hE78
      clear hE78
      clear hd77
      refine WP.ret ?_
      refine blk_r ?_
      refine thn_r ?_
      refine bodyQ.of _ rfl [.bool x72] ⟨rfl, trivial⟩ ?_
      refine ⟨l, cs, ls, congrArg (fun b => Ending.returned (.bool b)) (Bp.tt hb73 ?_), hrel, (hp76.sub (.cons_cons _ (.cons_cons _ (.cons_cons _ (.cons_cons _ (.cons_cons _ (.cons _ (.refl _))))))))⟩
      (refine ?_; repeat' apply And.intro) <;> first | rfl | exact Iff.rfl | exact hf1 | exact hf1.symm | exact hf2.1 | exact hf2.1.symm | exact hf2.2 | exact hf2.2.symm | (rw [hf4]) | (rw [hf3]) | assumption | (simp; done)
    · refine WP.seq ?_
      refine WP.pure {} [] [0, 1, 5, 73] [.pointer (some ⟨b, 0, none⟩), .pointer (some ⟨rb, 0, none⟩), .pointer (some ⟨g3, 0, none⟩), .bool (decide (o.Kind = 3))] .nil (by kernel_rfl) (fun b80 => ?_)
      refine thn_n ?_
      refine WP.test (p := o.Kind = 3) rfl Bp.dec (fun h81 => ?_) (fun h81 => ?_)
      · refine WP.seq ?_
        refine WP.region _ rfl (by kernel_rfl) ?_
        refine OPS.batch 2 {} [Gsherdlaw17_Op.val o] [0, 5, 75, 76] [.pointer (some ⟨b, 0, none⟩), .pointer (some ⟨g3, 0, none⟩), .pointer (some ⟨rb, 0, none⟩), Gsherdlaw17_Op.val o] (.cons (show Ld Try.prog w1 52 ⟨g3, 0, none⟩ (Gsherdlaw17_Op.val o) from Ld.rowN (cs := [.int .i64 o.Kind, .int .i64 o.P, .int .i64 o.Server, .int .i64 o.V, .int .i64 o.N]) hp2.get0 (by kernel_rfl)) .nil) (by kernel_rfl) (fun b82 => ?_)
        have hp85 := hp2.pull5
        have hp86 := hp85.pull5
        have hp87 := hp86.pull5
        refine OPS.cons (opStep.call (some 77) [.pointer (some ⟨rb, 0, none⟩), Gsherdlaw17_Op.val o] (by kernel_rfl) (w17_wanted _ _ _ c _ _ _ _ cs ls _ hrel.n1 hrel.n2 o (by omega) hp87) ?_)
        rintro _ w88 ⟨a90, c91, rfl, hp89⟩
        refine ⟨_, rfl, ?_⟩
        refine OPS.batch 1 {} [] [0, 5, 15] [.pointer (some ⟨b, 0, none⟩), .pointer (some ⟨g3, 0, none⟩), .slice a90 ((wantP ls (servQ cs true) o.N).length) c91] .nil (by kernel_rfl) (fun b93 => ?_)
        refine OPS.nil ?_
        refine thn_n ?_
        refine WP.seq ?_
        refine WP.region _ rfl (by kernel_rfl) ?_
        refine OPS.batch 2 {} [Gsherdlaw17_Op.val o] [15, 78, 79] [.slice a90 ((wantP ls (servQ cs true) o.N).length) c91, .pointer (some ⟨b, 0, none⟩), Gsherdlaw17_Op.val o] (.cons (show Ld Try.prog w88 52 ⟨g3, 0, none⟩ (Gsherdlaw17_Op.val o) from Ld.rowN (cs := [.int .i64 o.Kind, .int .i64 o.P, .int .i64 o.Server, .int .i64 o.V, .int .i64 o.N]) hp89.get4 (by kernel_rfl)) .nil) (by kernel_rfl) (fun b94 => ?_)
        have hp97 := hp89.pull6
        have hp98 := hp97.pull6
        refine OPS.cons (opStep.call (some 80) [.pointer (some ⟨b, 0, none⟩), Gsherdlaw17_Op.val o] (by kernel_rfl) (e17_each _ _ _ _ c o _ l cs ls hrel (by omega) hp98) ?_)
        rintro _ w99 ⟨a101, c102, rfl, hp100⟩
        refine ⟨_, rfl, ?_⟩
        refine OPS.batch 1 {} [] [80, 81] [.slice a101 ((wantP ls (servQ cs true) o.N).length) c102, .slice a90 ((wantP ls (servQ cs true) o.N).length) c91] .nil (by kernel_rfl) (fun b104 => ?_)
        refine OPS.cons (opStep.call (some 82) [.slice a101 ((wantP ls (servQ cs true) o.N).length) c102, .slice a90 ((wantP ls (servQ cs true) o.N).length) c91] (by kernel_rfl) (s17_sameInts (wantP ls (servQ cs true) o.N) (wantP ls (servQ cs true) o.N) _ _ _ _ _ _ _ (by first | rfl | (simp; done) | (simp only [List.length_map]; omega) | omega) (by first | rfl | (simp; done) | (simp only [List.length_map]; omega) | omega) (by first | rfl | (simp; done) | (simp only [List.length_map]; omega) | omega) (SlR.own (hp100.get0)) (SlR.own (hp100.get3))) ?_)
        rintro _ w107 ⟨b110, rfl, hb111, hf108⟩
        refine ⟨_, rfl, ?_⟩
        have hp109 := hp100.step hf108
        refine OPS.batch 1 {} [] [6] [.bool b110] .nil (by kernel_rfl) (fun b112 => ?_)
        refine OPS.nil ?_
        refine thn_n ?_
        refine WP.ret ?_
        refine blk_r ?_
        refine thn_r ?_
        refine bodyQ.of _ rfl [.bool b110] ⟨rfl, trivial⟩ ?_
        refine ⟨eachP c cs l o.V, (eachC c cs o.V), (eachI c cs ls o.V), congrArg (fun b => Ending.returned (.bool b)) (Bp.tt hb111 ?_), hrel.each o.V, (hp109.sub (.cons _ (.cons_cons _ (.cons_cons _ (.cons _ (.cons_cons _ (.cons_cons _ (.cons_cons _ (.cons _ (.refl _))))))))))⟩
        (refine ?_; repeat' apply And.intro) <;> first | rfl | exact Iff.rfl | exact hf1 | exact hf1.symm | exact hf2.1 | exact hf2.1.symm | exact hf2.2 | exact hf2.2.symm | (rw [hf4]) | (rw [hf3]) | assumption | (simp; done)
      · refine WP.skip ?_
        refine blk_n ?_
        refine thn_n ?_
        refine WP.seq ?_
        refine WP.region _ rfl (by kernel_rfl) ?_
        refine OPS.batch 1 {} [] [0, 1, 83] [.pointer (some ⟨b, 0, none⟩), .pointer (some ⟨rb, 0, none⟩), .pointer (some ⟨b, 0, none⟩)] .nil (by kernel_rfl) (fun b113 => ?_)
        have hp116 := hp2.pull2
        have hp117 := hp116.pull2
        refine OPS.cons (opStep.call (some 84) [.pointer (some ⟨b, 0, none⟩)] (by kernel_rfl) (pi_Missing _ _ _ mb c l _ (by first | decide | omega | (show (nn : Int) ≤ 100000; omega)) hp117) ?_)
        rintro _ w118 ⟨a120, c121, rfl, hp119⟩
        refine ⟨_, rfl, ?_⟩
        have hp123 := hp119
        rw [show List.flatMap (fun (y : Nat) => [Go.Value.int .i64 (y : Int)]) (missP l c.N.toNat) = List.flatMap (fun (y : Int) => [Go.Value.int .i64 y]) ((missP l c.N.toNat).map (fun (y : Nat) => (y : Int))) from flat_natI _] at hp123
        refine OPS.batch 1 {} [] [0, 1, 16] [.pointer (some ⟨b, 0, none⟩), .pointer (some ⟨rb, 0, none⟩), .slice a120 ((missP l c.N.toNat).length) c121] .nil (by kernel_rfl) (fun b124 => ?_)
        refine OPS.nil ?_
        refine thn_n ?_
        refine WP.cut (fun e196 w197 => ∃ (x194 : Bool), (True) ∧ Bp x194 (((qSize c ≤ ((l.length : Nat) : Int)) ↔ (qSize c ≤ (((servQ cs true).length : Nat) : Int))) ∧ (((l.length : Nat) : Int) = (((servQ cs true).length : Nat) : Int)) ∧ (((missP l c.N.toNat).map (fun (y : Nat) => (y : Int))) = ((servQ cs false).map (fun (y : Nat) => (y : Int))))) ∧ List.map e196 [0, 1, 16, 17] = [.pointer (some ⟨b, 0, none⟩), .pointer (some ⟨rb, 0, none⟩), .slice a120 ((missP l c.N.toNat).length) c121, .bool x194] ∧ Hp w0 Non (Res.row rb [.int .i64 c.N, .int .i64 c.K, .int .i64 c.Delta, .slice aC c.N.toNat kC, .slice aL c.N.toNat kL] 95 :: Res.own 4 1 (.slice aC c.N.toNat kC) c.N.toNat (List.flatMap (fun (y : Bool) => [Go.Value.bool y]) cs) :: Res.own 3 1 (.slice aL c.N.toNat kL) c.N.toNat (List.flatMap (fun (y : Int) => [Go.Value.int .i64 y]) ls) :: Res.row b [.int .i64 c.N, .int .i64 c.K, .int .i64 c.Delta, .map (some mb)] 98 :: Res.mp mb kI vI l :: Res.own 3 1 (.slice a120 ((missP l c.N.toNat).length) c121) ((missP l c.N.toNat).length) (List.flatMap (fun (y : Int) => [Go.Value.int .i64 y]) ((missP l c.N.toNat).map (fun (y : Nat) => (y : Int)))) :: Res.row g3 [.int .i64 o.Kind, .int .i64 o.P, .int .i64 o.Server, .int .i64 o.V, .int .i64 o.N] 52 :: L) w197) ?_ ?_
        · refine WP.region _ rfl (by kernel_rfl) ?_
          refine OPS.batch 1 {} [] [0, 1, 16, 85] [.pointer (some ⟨b, 0, none⟩), .pointer (some ⟨rb, 0, none⟩), .slice a120 ((missP l c.N.toNat).length) c121, .pointer (some ⟨b, 0, none⟩)] .nil (by kernel_rfl) (fun b126 => ?_)
          have hp129 := hp123.pull2
          have hp130 := hp129.pull2
          refine OPS.cons (opStep.call (some 86) [.pointer (some ⟨b, 0, none⟩)] (by kernel_rfl) (pi_Met _ _ _ mb c l _  hp130) ?_)
          rintro _ w131 ⟨b133, rfl, hb134, hp132⟩
          refine ⟨_, rfl, ?_⟩
          refine OPS.batch 1 {} [] [0, 1, 16, 86, 87] [.pointer (some ⟨b, 0, none⟩), .pointer (some ⟨rb, 0, none⟩), .slice a120 ((missP l c.N.toNat).length) c121, .bool b133, .pointer (some ⟨rb, 0, none⟩)] .nil (by kernel_rfl) (fun b135 => ?_)
          have hp138 := hp132.pull6
          have hp139 := hp138.pull6
          have hp140 := hp139.pull6
          refine OPS.cons (opStep.call (some 88) [.pointer (some ⟨rb, 0, none⟩)] (by kernel_rfl) (r17_Met _ _ _ c _ _ _ _ cs ls _ hrel.n1 hrel.n2  (by omega) hp140) ?_)
          rintro _ w141 ⟨b143, rfl, hb144, hp142⟩
          refine ⟨_, rfl, ?_⟩
          refine OPS.batch 2 {} [] [0, 1, 16, 90] [.pointer (some ⟨b, 0, none⟩), .pointer (some ⟨rb, 0, none⟩), .slice a120 ((missP l c.N.toNat).length) c121, .bool (b133 == b143)] .nil (by kernel_rfl) (fun b145 => ?_)
          by_cases h146 : ((qSize c ≤ ((l.length : Nat) : Int)) ↔ (qSize c ≤ (((servQ cs true).length : Nat) : Int)))
          · refine OPS.batch 0 {} [] [0, 1, 16, 90] [.pointer (some ⟨b, 0, none⟩), .pointer (some ⟨rb, 0, none⟩), .slice a120 ((missP l c.N.toNat).length) c121, .bool (b133 == b143)] .nil (by kernel_rfl) (fun b147 => ?_)
            refine OPS.re [.pointer (some ⟨b, 0, none⟩), .pointer (some ⟨rb, 0, none⟩), .slice a120 ((missP l c.N.toNat).length) c121, .bool true] (by rw [show (b133 == b143) = true from (Bp.beq hb134 hb144).tt h146]) ?_
            refine OPS.batch 1 {} [] [0, 1, 16, 90, 91] [.pointer (some ⟨b, 0, none⟩), .pointer (some ⟨rb, 0, none⟩), .slice a120 ((missP l c.N.toNat).length) c121, .bool true, .pointer (some ⟨b, 0, none⟩)] .nil (by kernel_rfl) (fun b148 => ?_)
            refine OPS.want (by kernel_rfl) ?_
            have hp151 := hp142.pull4
            have hp152 := hp151.pull4
            refine OPS.cons (opStep.call (some 92) [.pointer (some ⟨b, 0, none⟩)] (by kernel_rfl) (pi_Len _ _ _ mb c l _  hp152) ?_)
            rintro _ w153 ⟨rfl, hp154⟩
            refine ⟨_, rfl, ?_⟩
            refine OPS.batch 1 {} [] [0, 1, 16, 90, 92, 93] [.pointer (some ⟨b, 0, none⟩), .pointer (some ⟨rb, 0, none⟩), .slice a120 ((missP l c.N.toNat).length) c121, .bool true, .int .i64 ((l.length : Nat) : Int), .pointer (some ⟨rb, 0, none⟩)] .nil (by kernel_rfl) (fun b155 => ?_)
            refine OPS.want (by kernel_rfl) ?_
            have hp158 := hp154.pull4
            have hp159 := hp158.pull4
            have hp160 := hp159.pull4
            refine OPS.cons (opStep.call (some 94) [.pointer (some ⟨rb, 0, none⟩), .bool true] (by kernel_rfl) (r17_Servers _ _ _ c _ _ _ _ cs ls _ hrel.n1 hrel.n2 true (by omega) hp160) ?_)
            rintro _ w161 ⟨a163, c164, rfl, hp162⟩
            refine ⟨_, rfl, ?_⟩
            have hp166 := hp162
            rw [show List.flatMap (fun (y : Nat) => [Go.Value.int .i64 (y : Int)]) (servQ cs true) = List.flatMap (fun (y : Int) => [Go.Value.int .i64 y]) ((servQ cs true).map (fun (y : Nat) => (y : Int))) from flat_natI _] at hp166
            refine OPS.batch 4 { wraps := [97] } [] [0, 1, 16, 98] [.pointer (some ⟨b, 0, none⟩), .pointer (some ⟨rb, 0, none⟩), .slice a120 ((missP l c.N.toNat).length) c121, .bool (decide (((l.length : Nat) : Int) = (((servQ cs true).length : Nat) : Int)))] .nil (by kernel_rfl) (fun b167 => ?_)
            by_cases h168 : ((l.length : Nat) : Int) = (((servQ cs true).length : Nat) : Int)
            · refine OPS.batch 0 {} [] [0, 1, 16, 98] [.pointer (some ⟨b, 0, none⟩), .pointer (some ⟨rb, 0, none⟩), .slice a120 ((missP l c.N.toNat).length) c121, .bool (decide (((l.length : Nat) : Int) = (((servQ cs true).length : Nat) : Int)))] .nil (by kernel_rfl) (fun b169 => ?_)
              refine OPS.re [.pointer (some ⟨b, 0, none⟩), .pointer (some ⟨rb, 0, none⟩), .slice a120 ((missP l c.N.toNat).length) c121, .bool true] (by rw [show (decide (((l.length : Nat) : Int) = (((servQ cs true).length : Nat) : Int))) = true from Bp.dec.tt h168]) ?_
              refine OPS.batch 2 {} [] [0, 1, 16, 98, 99, 100] [.pointer (some ⟨b, 0, none⟩), .pointer (some ⟨rb, 0, none⟩), .slice a120 ((missP l c.N.toNat).length) c121, .bool true, .slice a120 ((missP l c.N.toNat).length) c121, .pointer (some ⟨rb, 0, none⟩)] .nil (by kernel_rfl) (fun b170 => ?_)
              refine OPS.want (by kernel_rfl) ?_
              have hp173 := hp166.pull3
              have hp174 := hp173.pull3
              have hp175 := hp174.pull3
              refine OPS.cons (opStep.call (some 101) [.pointer (some ⟨rb, 0, none⟩), .bool false] (by kernel_rfl) (r17_Servers _ _ _ c _ _ _ _ cs ls _ hrel.n1 hrel.n2 false (by omega) hp175) ?_)
              rintro _ w176 ⟨a178, c179, rfl, hp177⟩
              refine ⟨_, rfl, ?_⟩
              have hp181 := hp177
              rw [show List.flatMap (fun (y : Nat) => [Go.Value.int .i64 (y : Int)]) (servQ cs false) = List.flatMap (fun (y : Int) => [Go.Value.int .i64 y]) ((servQ cs false).map (fun (y : Nat) => (y : Int))) from flat_natI _] at hp181
              refine OPS.want (by kernel_rfl) ?_
              refine OPS.cons (opStep.call (some 102) [.slice a120 ((missP l c.N.toNat).length) c121, .slice a178 ((servQ cs false).length) c179] (by kernel_rfl) (s17_sameInts ((missP l c.N.toNat).map (fun (y : Nat) => (y : Int))) ((servQ cs false).map (fun (y : Nat) => (y : Int))) _ _ _ _ _ _ _ (by first | rfl | (simp; done) | (simp only [List.length_map]; omega) | omega) (by first | rfl | (simp; done) | (simp only [List.length_map]; omega) | omega) (by first | rfl | (simp; done) | (simp only [List.length_map]; omega) | omega) (SlR.own (hp181.get7)) (SlR.own (hp181.get0))) ?_)
              rintro _ w184 ⟨b187, rfl, hb188, hf185⟩
              refine ⟨_, rfl, ?_⟩
              have hp186 := hp181.step hf185
              refine OPS.batch 2 { wraps := [103] } [] [0, 1, 16, 17] [.pointer (some ⟨b, 0, none⟩), .pointer (some ⟨rb, 0, none⟩), .slice a120 ((missP l c.N.toNat).length) c121, .bool b187] .nil (by kernel_rfl) (fun b189 => ?_)
              refine OPS.nil ?_
              refine thn_n ?_
              exact ⟨b187, trivial, Bp.of hb188 (by first | (simp only [h146, h168, iff_false, false_iff, iff_true, true_iff, Classical.not_not, and_true, true_and, and_false, false_and, or_true, true_or, or_false, false_or, not_true_eq_false, not_false_eq_true, and_self, or_self, iff_self]; done) | (simp [h146, h168]; done) | simp_all), by kernel_rfl, (hp186.sub (.cons _ (.cons_cons _ (.cons_cons _ (.cons_cons _ (.cons _ (.cons_cons _ (.cons_cons _ (.cons_cons _ (.cons_cons _ (.refl _)))))))))))⟩
            · refine OPS.batch 0 {} [] [0, 1, 16, 98] [.pointer (some ⟨b, 0, none⟩), .pointer (some ⟨rb, 0, none⟩), .slice a120 ((missP l c.N.toNat).length) c121, .bool (decide (((l.length : Nat) : Int) = (((servQ cs true).length : Nat) : Int)))] .nil (by kernel_rfl) (fun b190 => ?_)
              refine OPS.re [.pointer (some ⟨b, 0, none⟩), .pointer (some ⟨rb, 0, none⟩), .slice a120 ((missP l c.N.toNat).length) c121, .bool false] (by rw [show (decide (((l.length : Nat) : Int) = (((servQ cs true).length : Nat) : Int))) = false from Bp.dec.ff h168]) ?_
              refine OPS.batch 6 { wraps := [103] } [] [0, 1, 16, 17] [.pointer (some ⟨b, 0, none⟩), .pointer (some ⟨rb, 0, none⟩), .slice a120 ((missP l c.N.toNat).length) c121, .bool false] .nil (by kernel_rfl) (fun b191 => ?_)
              refine OPS.nil ?_
              refine thn_n ?_
              exact ⟨false, trivial, Bp.of Bp.f (by first | (simp only [h146, h168, iff_false, false_iff, iff_true, true_iff, Classical.not_not, and_true, true_and, and_false, false_and, or_true, true_or, or_false, false_or, not_true_eq_false, not_false_eq_true, and_self, or_self, iff_self]; done) | (simp [h146, h168]; done) | simp_all), by kernel_rfl, (hp166.sub (.cons _ (.cons_cons _ (.cons_cons _ (.cons_cons _ (.cons_cons _ (.cons_cons _ (.cons_cons _ (.cons_cons _ (.refl _))))))))))⟩
          · refine OPS.batch 0 {} [] [0, 1, 16, 90] [.pointer (some ⟨b, 0, none⟩), .pointer (some ⟨rb, 0, none⟩), .slice a120 ((missP l c.N.toNat).length) c121, .bool (b133 == b143)] .nil (by kernel_rfl) (fun b192 => ?_)
            refine OPS.re [.pointer (some ⟨b, 0, none⟩), .pointer (some ⟨rb, 0, none⟩), .slice a120 ((missP l c.N.toNat).length) c121, .bool false] (by rw [show (b133 == b143) = false from (Bp.beq hb134 hb144).ff h146]) ?_
            refine OPS.batch 14 { wraps := [97, 103] } [] [0, 1, 16, 17] [.pointer (some ⟨b, 0, none⟩), .pointer (some ⟨rb, 0, none⟩), .slice a120 ((missP l c.N.toNat).length) c121, .bool false] .nil (by kernel_rfl) (fun b193 => ?_)
            refine OPS.nil ?_
            refine thn_n ?_
            exact ⟨false, trivial, Bp.of Bp.f (by first | (simp only [h146, iff_false, false_iff, iff_true, true_iff, Classical.not_not, and_true, true_and, and_false, false_and, or_true, true_or, or_false, false_or, not_true_eq_false, not_false_eq_true, and_self, or_self, iff_self]; done) | (simp [h146]; done) | simp_all), by kernel_rfl, hp142⟩
        rintro e196 w197 ⟨x194, hd199, hb195, hE200, hp198⟩
        obtain ⟨b201, rfl⟩ := toMk hE200
        clear hE200
        clear hd199
        refine WP.seq ?_
        refine WP.seq ?_
        refine WP.pure {} [] [0, 1, 16, 17, 105, 106] [.pointer (some ⟨b, 0, none⟩), .pointer (some ⟨rb, 0, none⟩), .slice a120 ((missP l c.N.toNat).length) c121, .bool x194, .int .i64 (((missP l c.N.toNat).length : Nat) : Int), .int .i64 0] .nil (by kernel_rfl) (fun b202 => ?_)
        refine thn_n ?_
        refine WP.block ?_
        refine WP.loop (fun mz_ e203 w204 => ∃ (k : Nat) (xs : List Int), mz_ = (missP l c.N.toNat).length - k ∧ (k ≤ (missP l c.N.toNat).length) ∧ List.map e203 [0, 1, 16, 17, 105, 106] = [.pointer (some ⟨b, 0, none⟩), .pointer (some ⟨rb, 0, none⟩), .slice a120 ((missP l c.N.toNat).length) c121, .bool x194, .int .i64 (((missP l c.N.toNat).length : Nat) : Int), .int .i64 (k : Int)] ∧ Hp w0 Non (Res.row rb [.int .i64 c.N, .int .i64 c.K, .int .i64 c.Delta, .slice aC c.N.toNat kC, .slice aL c.N.toNat kL] 95 :: Res.own 4 1 (.slice aC c.N.toNat kC) c.N.toNat (List.flatMap (fun (y : Bool) => [Go.Value.bool y]) cs) :: Res.own 3 1 (.slice aL c.N.toNat kL) c.N.toNat (List.flatMap (fun (y : Int) => [Go.Value.int .i64 y]) ls) :: Res.row b [.int .i64 c.N, .int .i64 c.K, .int .i64 c.Delta, .map (some mb)] 98 :: Res.mp mb kI vI l :: Res.own 3 1 (.slice a120 ((missP l c.N.toNat).length) c121) ((missP l c.N.toNat).length) (List.flatMap (fun (y : Int) => [Go.Value.int .i64 y]) xs) :: Res.row g3 [.int .i64 o.Kind, .int .i64 o.P, .int .i64 o.Server, .int .i64 o.V, .int .i64 o.N] 52 :: L) w204) ((missP l c.N.toNat).length - (0)) ⟨0, (missP l c.N.toNat).map (fun (y : Nat) => (y : Int)), rfl, (by omega), by kernel_rfl, hp198⟩ ?_
        rintro _ e203 w204 ⟨k, xs, rfl, hI206, hE207, hp205⟩
        obtain ⟨b208, rfl⟩ := toMk hE207
        clear hE207
        obtain pa := hI206
        have pe := own_flat (sz := 1) (fun _ => rfl) (by decide) hp205.get5
        refine WP.seq ?_
        refine WP.pure {} [] [0, 1, 16, 17, 105, 106, 107] [.pointer (some ⟨b, 0, none⟩), .pointer (some ⟨rb, 0, none⟩), .slice a120 ((missP l c.N.toNat).length) c121, .bool x194, .int .i64 (((missP l c.N.toNat).length : Nat) : Int), .int .i64 (k : Int), .bool (decide ((k : Int) < (((missP l c.N.toNat).length : Nat) : Int)))] .nil (by kernel_rfl) (fun b209 => ?_)
        refine thn_n ?_
        refine WP.seq ?_
        refine WP.test (p := (k : Int) < (((missP l c.N.toNat).length : Nat) : Int)) rfl Bp.dec (fun h210 => ?_) (fun h210 => ?_)
        · refine WP.skip ?_
          refine thn_n ?_
          refine WP.seq ?_
          refine WP.block ?_
          refine WP.seq ?_
          refine WP.pure {} [] [0, 1, 16, 17, 18, 105, 106] [.pointer (some ⟨b, 0, none⟩), .pointer (some ⟨rb, 0, none⟩), .slice a120 ((missP l c.N.toNat).length) c121, .bool x194, .int .i64 (k : Int), .int .i64 (((missP l c.N.toNat).length : Nat) : Int), .int .i64 (k : Int)] .nil (by kernel_rfl) (fun b211 => ?_)
          refine thn_n ?_
          refine WP.region _ rfl (by kernel_rfl) ?_
          refine OPS.batch 3 {} [] [0, 1, 16, 17, 105, 106, 111] [.pointer (some ⟨b, 0, none⟩), .pointer (some ⟨rb, 0, none⟩), .slice a120 ((missP l c.N.toNat).length) c121, .bool x194, .int .i64 (((missP l c.N.toNat).length : Nat) : Int), .int .i64 (k : Int), .pointer (some ((adr a120).add (k * 1)))] (.cons (show InB ((k : Int)) ((missP l c.N.toNat).length) from ⟨by omega, by omega⟩) (.cons ((SlR.own (hp205.get5)).some (by omega)) .nil)) (by kernel_rfl) (fun b212 => ?_)
          have := own_flat (sz := 1) (fun _ => rfl) (by decide) hp205.get5
          try simp only [List.length_set] at this
          refine OPS.cons (opStep.storeOwn5 (k * 1) hp205 rfl [.int .i64 (-9)] (by kernel_rfl) (by simp) (show k * 1 + 1 ≤ ((missP l c.N.toNat).length) * 1 by omega) (fun w213 hp214 => ?_))
          have hp215 := hp214
          rw [show ow (List.flatMap (fun (y : Int) => [Go.Value.int .i64 y]) xs) (k * 1) [.int .i64 (-9)] = List.flatMap (fun (y : Int) => [Go.Value.int .i64 y]) (xs.set k (-9)) from ow_flat (sz := 1) (fun _ => rfl) (by first | (omega) | (simp only [List.length_set]; omega)) (-9)] at hp215
          refine OPS.nil ?_
          refine blk_n ?_
          refine thn_n ?_
          refine WP.pure {} [] [0, 1, 16, 17, 105, 106] [.pointer (some ⟨b, 0, none⟩), .pointer (some ⟨rb, 0, none⟩), .slice a120 ((missP l c.N.toNat).length) c121, .bool x194, .int .i64 (((missP l c.N.toNat).length : Nat) : Int), .int .i64 ((k : Int) + 1)] (.cons (show Rng .i64 ((k : Int) + 1) from Rng.i64 (by omega)) .nil) (by kernel_rfl) (fun b216 => ?_)
          refine thn_n ?_
          exact ⟨(missP l c.N.toNat).length - (k + 1), (by omega), k + 1, xs.set k (-9), rfl, (by omega), by kernel_rfl, hp215⟩
        · refine WP.exit ?_
          refine thn_x ?_
          refine thn_x ?_
          refine blk_hit ?_
          refine thn_n ?_
          refine WP.cut (fun e254 w255 => ∃ (x252 : Bool), (True) ∧ Bp x252 ((((qSize c ≤ ((l.length : Nat) : Int)) ↔ (qSize c ≤ (((servQ cs true).length : Nat) : Int))) ∧ (((l.length : Nat) : Int) = (((servQ cs true).length : Nat) : Int)) ∧ (((missP l c.N.toNat).map (fun (y : Nat) => (y : Int))) = ((servQ cs false).map (fun (y : Nat) => (y : Int))))) ∧ (((missP l c.N.toNat).map (fun (y : Nat) => (y : Int))) = ((servQ cs false).map (fun (y : Nat) => (y : Int))))) ∧ List.map e254 [6] = [.bool x252] ∧ Hp w0 Non (Res.row rb [.int .i64 c.N, .int .i64 c.K, .int .i64 c.Delta, .slice aC c.N.toNat kC, .slice aL c.N.toNat kL] 95 :: Res.own 4 1 (.slice aC c.N.toNat kC) c.N.toNat (List.flatMap (fun (y : Bool) => [Go.Value.bool y]) cs) :: Res.own 3 1 (.slice aL c.N.toNat kL) c.N.toNat (List.flatMap (fun (y : Int) => [Go.Value.int .i64 y]) ls) :: Res.row b [.int .i64 c.N, .int .i64 c.K, .int .i64 c.Delta, .map (some mb)] 98 :: Res.mp mb kI vI l :: Res.own 3 1 (.slice a120 ((missP l c.N.toNat).length) c121) ((missP l c.N.toNat).length) (List.flatMap (fun (y : Int) => [Go.Value.int .i64 y]) xs) :: Res.row g3 [.int .i64 o.Kind, .int .i64 o.P, .int .i64 o.Server, .int .i64 o.V, .int .i64 o.N] 52 :: L) w255) ?_ ?_
          · refine WP.region _ rfl (by kernel_rfl) ?_
            refine OPS.batch 2 {} [] [0, 1, 114] [.pointer (some ⟨b, 0, none⟩), .pointer (some ⟨rb, 0, none⟩), .bool x194] .nil (by kernel_rfl) (fun b218 => ?_)
            by_cases h219 : ((qSize c ≤ ((l.length : Nat) : Int)) ↔ (qSize c ≤ (((servQ cs true).length : Nat) : Int))) ∧ (((l.length : Nat) : Int) = (((servQ cs true).length : Nat) : Int)) ∧ (((missP l c.N.toNat).map (fun (y : Nat) => (y : Int))) = ((servQ cs false).map (fun (y : Nat) => (y : Int))))
            · rw [show x194 = true from hb195.tt h219]
              refine OPS.batch 1 {} [] [1, 114, 115] [.pointer (some ⟨rb, 0, none⟩), .bool true, .pointer (some ⟨b, 0, none⟩)] .nil (by kernel_rfl) (fun b220 => ?_)
              refine OPS.want (by kernel_rfl) ?_
              have hp223 := hp205.pull4
              have hp224 := hp223.pull4
              refine OPS.cons (opStep.call (some 116) [.pointer (some ⟨b, 0, none⟩)] (by kernel_rfl) (pi_Missing _ _ _ mb c l _ (by first | decide | omega | (show (nn : Int) ≤ 100000; omega)) hp224) ?_)
              rintro _ w225 ⟨a227, c228, rfl, hp226⟩
              refine ⟨_, rfl, ?_⟩
              have hp230 := hp226
              rw [show List.flatMap (fun (y : Nat) => [Go.Value.int .i64 (y : Int)]) (missP l c.N.toNat) = List.flatMap (fun (y : Int) => [Go.Value.int .i64 y]) ((missP l c.N.toNat).map (fun (y : Nat) => (y : Int))) from flat_natI _] at hp230
              refine OPS.batch 1 {} [] [114, 116, 117] [.bool true, .slice a227 ((missP l c.N.toNat).length) c228, .pointer (some ⟨rb, 0, none⟩)] .nil (by kernel_rfl) (fun b231 => ?_)
              refine OPS.want (by kernel_rfl) ?_
              have hp234 := hp230.pull5
              have hp235 := hp234.pull5
              have hp236 := hp235.pull5
              refine OPS.cons (opStep.call (some 118) [.pointer (some ⟨rb, 0, none⟩), .bool false] (by kernel_rfl) (r17_Servers _ _ _ c _ _ _ _ cs ls _ hrel.n1 hrel.n2 false (by omega) hp236) ?_)
              rintro _ w237 ⟨a239, c240, rfl, hp238⟩
              refine ⟨_, rfl, ?_⟩
              have hp242 := hp238
              rw [show List.flatMap (fun (y : Nat) => [Go.Value.int .i64 (y : Int)]) (servQ cs false) = List.flatMap (fun (y : Int) => [Go.Value.int .i64 y]) ((servQ cs false).map (fun (y : Nat) => (y : Int))) from flat_natI _] at hp242
              refine OPS.want (by kernel_rfl) ?_
              refine OPS.cons (opStep.call (some 119) [.slice a227 ((missP l c.N.toNat).length) c228, .slice a239 ((servQ cs false).length) c240] (by kernel_rfl) (s17_sameInts ((missP l c.N.toNat).map (fun (y : Nat) => (y : Int))) ((servQ cs false).map (fun (y : Nat) => (y : Int))) _ _ _ _ _ _ _ (by first | rfl | (simp; done) | (simp only [List.length_map]; omega) | omega) (by first | rfl | (simp; done) | (simp only [List.length_map]; omega) | omega) (by first | rfl | (simp; done) | (simp only [List.length_map]; omega) | omega) (SlR.own (hp242.get4)) (SlR.own (hp242.get0))) ?_)
              rintro _ w245 ⟨b248, rfl, hb249, hf246⟩
              refine ⟨_, rfl, ?_⟩
              have hp247 := hp242.step hf246
              refine OPS.batch 2 { wraps := [120] } [] [6] [.bool b248] .nil (by kernel_rfl) (fun b250 => ?_)
              refine OPS.nil ?_
              refine thn_n ?_
              exact ⟨b248, trivial, Bp.of hb249 (by first | (simp only [h219, iff_false, false_iff, iff_true, true_iff, Classical.not_not, and_true, true_and, and_false, false_and, or_true, true_or, or_false, false_or, not_true_eq_false, not_false_eq_true, and_self, or_self, iff_self]; done) | (simp [h219]; done) | simp_all), by kernel_rfl, (hp247.sub (.cons _ (.cons_cons _ (.cons_cons _ (.cons_cons _ (.cons _ (.cons_cons _ (.cons_cons _ (.cons_cons _ (.cons_cons _ (.refl _)))))))))))⟩
            · rw [show x194 = false from hb195.ff h219]
              refine OPS.batch 7 { wraps := [120] } [] [6] [.bool false] .nil (by kernel_rfl) (fun b251 => ?_)
              refine OPS.nil ?_
              refine thn_n ?_
              exact ⟨false, trivial, Bp.of Bp.f (by first | (simp only [h219, iff_false, false_iff, iff_true, true_iff, Classical.not_not, and_true, true_and, and_false, false_and, or_true, true_or, or_false, false_or, not_true_eq_false, not_false_eq_true, and_self, or_self, iff_self]; done) | (simp [h219]; done) | simp_all), by kernel_rfl, hp205⟩
          rintro e254 w255 ⟨x252, hd257, hb253, hE258, hp256⟩
          obtain ⟨b259, rfl⟩ := toMk hE258
          clear hE258
          clear hd257
          refine WP.ret ?_
          refine bodyQ.of _ rfl [.bool x252] ⟨rfl, trivial⟩ ?_
          refine ⟨l, cs, ls, congrArg (fun b => Ending.returned (.bool b)) (Bp.tt hb253 ?_), hrel, ((((((hp256.pull2).pull2).pull2).pull4).pull4).sub (.cons_cons _ (.cons_cons _ (.cons_cons _ (.cons_cons _ (.cons_cons _ (.cons _ (.cons _ (.refl _)))))))))⟩
          (refine ?_; repeat' apply And.intro) <;> first | rfl | exact Iff.rfl | exact hf1 | exact hf1.symm | exact hf2.1 | exact hf2.1.symm | exact hf2.2 | exact hf2.2.symm | (rw [hf4]) | (rw [hf3]) | assumption | (simp; done)

theorem p17_plays_nil (o : Gsherdlaw17_Op) (w : World) :
    Calls Try.prog 24 #[.pointer none, .pointer none, Gsherdlaw17_Op.val o] w (fun x w' => x = .returned (.bool true) ∧ Fram Non w w') := by
  refine calls_of Try.func24 rfl 121 rfl (by simp) ?_
  have hp0 := Hp.init w
  have he0 : List.map (env0 [.pointer none, .pointer none, Gsherdlaw17_Op.val o]) [0, 1, 2] = [.pointer none, .pointer none, Gsherdlaw17_Op.val o] := by kernel_rfl
  obtain ⟨b0, he0⟩ := toMk he0
  rw [he0]
  clear he0
  refine WP.seq ?_
  refine WP.region _ rfl (by kernel_rfl) ?_
  refine OPS.cons (opStep.box hp0 [.int .i64 o.Kind, .int .i64 o.P, .int .i64 o.Server, .int .i64 o.V, .int .i64 o.N] (by kernel_rfl) (fun g3 w1 hp2 => ?_))
  refine OPS.batch 1 {} [] [0, 1, 5] [.pointer none, .pointer none, .pointer (some ⟨g3, 0, none⟩)] .nil (by kernel_rfl) (fun b4 => ?_)
  refine OPS.nil ?_
  refine thn_n ?_
  refine WP.seq ?_
  refine WP.seq ?_
  refine WP.pure {} [.int .i64 o.Kind] [0, 1, 5, 20] [.pointer none, .pointer none, .pointer (some ⟨g3, 0, none⟩), .int .i64 o.Kind] (.cons (Ld.row1 (P := Try.prog) (t := 3) (o := 0) (v := .int .i64 o.Kind) hp2.get0 (by kernel_rfl)) .nil) (by kernel_rfl) (fun b5 => ?_)
  refine thn_n ?_
  refine WP.block ?_
  refine WP.seq ?_
  refine WP.pure {} [] [0, 1, 5, 20, 21] [.pointer none, .pointer none, .pointer (some ⟨g3, 0, none⟩), .int .i64 o.Kind, .bool (decide (o.Kind = 0))] .nil (by kernel_rfl) (fun b6 => ?_)
  refine thn_n ?_
  refine WP.test (p := o.Kind = 0) rfl Bp.dec (fun h7 => ?_) (fun h7 => ?_)
  · refine WP.seq ?_
    refine WP.region _ rfl (by kernel_rfl) ?_
    refine OPS.batch 5 {} [.int .i64 o.Server, .int .i64 o.V] [0, 5, 24, 26, 28] [.pointer none, .pointer (some ⟨g3, 0, none⟩), .pointer none, .int .i64 o.Server, .int .i64 o.V] (.cons (Ld.row1 (P := Try.prog) (t := 3) (o := 2) (v := .int .i64 o.Server) hp2.get0 (by kernel_rfl)) (.cons (Ld.row1 (P := Try.prog) (t := 3) (o := 3) (v := .int .i64 o.V) hp2.get0 (by kernel_rfl)) .nil)) (by kernel_rfl) (fun b8 => ?_)
    refine OPS.cons (opStep.call (some 29) [.pointer none, .int .i64 o.Server, .int .i64 o.V] (by kernel_rfl) (r17_Answer_nil o.Server o.V _) ?_)
    rintro _ w11 ⟨rfl, hf12⟩
    refine ⟨_, rfl, ?_⟩
    have hp13 := hp2.step hf12
    refine OPS.batch 5 {} [] [0, 5, 7, 8] [.pointer none, .pointer (some ⟨g3, 0, none⟩), .bool false, .int .i64 0] .nil (by kernel_rfl) (fun b14 => ?_)
    refine OPS.nil ?_
    refine thn_n ?_
    refine WP.seq ?_
    refine WP.region _ rfl (by kernel_rfl) ?_
    refine OPS.batch 5 {} [.int .i64 o.Server, .int .i64 o.V] [7, 8, 33, 35, 37] [.bool false, .int .i64 0, .pointer none, .int .i64 o.Server, .int .i64 o.V] (.cons (Ld.row1 (P := Try.prog) (t := 3) (o := 2) (v := .int .i64 o.Server) hp13.get0 (by kernel_rfl)) (.cons (Ld.row1 (P := Try.prog) (t := 3) (o := 3) (v := .int .i64 o.V) hp13.get0 (by kernel_rfl)) .nil)) (by kernel_rfl) (fun b15 => ?_)
    refine OPS.cons (opStep.call (some 38) [.pointer none, .int .i64 o.Server, .int .i64 o.V] (by kernel_rfl) (pi_Answer_nil o.Server o.V _) ?_)
    rintro _ w18 ⟨rfl, hf19⟩
    refine ⟨_, rfl, ?_⟩
    have hp20 := hp13.step hf19
    refine OPS.batch 5 {} [] [7, 8, 9, 10] [.bool false, .int .i64 0, .bool false, .int .i64 0] .nil (by kernel_rfl) (fun b21 => ?_)
    refine OPS.nil ?_
    refine thn_n ?_
    refine WP.cut (fun e31 w32 => ∃ (x29 : Bool), (True) ∧ Bp x29 (((False) ↔ (False))) ∧ List.map e31 [6] = [.bool x29] ∧ Hp w Non [Res.row g3 [.int .i64 o.Kind, .int .i64 o.P, .int .i64 o.Server, .int .i64 o.V, .int .i64 o.N] 52] w32) ?_ ?_
    · refine WP.region _ rfl (by kernel_rfl) ?_
      refine OPS.batch 4 {} [] [8, 10, 44] [.int .i64 0, .int .i64 0, .bool (false == false)] .nil (by kernel_rfl) (fun b23 => ?_)
      by_cases h24 : ((False) ↔ (False))
      · refine OPS.batch 0 {} [] [8, 10, 44] [.int .i64 0, .int .i64 0, .bool (false == false)] .nil (by kernel_rfl) (fun b25 => ?_)
        refine OPS.re [.int .i64 0, .int .i64 0, .bool true] (by rw [show (false == false) = true from (Bp.beq Bp.f Bp.f).tt h24]) ?_
        refine OPS.batch 5 { wraps := [48] } [] [6] [.bool true] .nil (by kernel_rfl) (fun b26 => ?_)
        refine OPS.nil ?_
        refine thn_n ?_
        exact ⟨true, trivial, Bp.of Bp.t (by first | (simp only [h24, iff_false, false_iff, iff_true, true_iff, Classical.not_not, and_true, true_and, and_false, false_and, or_true, true_or, or_false, false_or, not_true_eq_false, not_false_eq_true, and_self, or_self, iff_self]; done) | (simp [h24]; done) | simp_all), by kernel_rfl, hp20⟩
      · refine OPS.batch 0 {} [] [8, 10, 44] [.int .i64 0, .int .i64 0, .bool (false == false)] .nil (by kernel_rfl) (fun b27 => ?_)
        refine OPS.re [.int .i64 0, .int .i64 0, .bool false] (by rw [show (false == false) = false from (Bp.beq Bp.f Bp.f).ff h24]) ?_
        refine OPS.batch 5 { wraps := [48] } [] [6] [.bool false] .nil (by kernel_rfl) (fun b28 => ?_)
        refine OPS.nil ?_
        refine thn_n ?_
        exact ⟨false, trivial, Bp.of Bp.f (by first | (simp only [h24, iff_false, false_iff, iff_true, true_iff, Classical.not_not, and_true, true_and, and_false, false_and, or_true, true_or, or_false, false_or, not_true_eq_false, not_false_eq_true, and_self, or_self, iff_self]; done) | (simp [h24]; done) | simp_all), by kernel_rfl, hp20⟩
    rintro e31 w32 ⟨x29, hd34, hb30, hE35, hp33⟩
    obtain ⟨b36, rfl⟩ := toMk hE35
    clear hE35
    clear hd34
    refine WP.ret ?_
    refine blk_r ?_
    refine thn_r ?_
    refine bodyQ.of _ rfl [.bool x29] ⟨rfl, trivial⟩ ?_
    exact ⟨congrArg (fun b => Ending.returned (.bool b)) (Bp.tt hb30 (by simp)), hp33.fr⟩
  · refine WP.seq ?_
    refine WP.pure {} [] [0, 1, 5, 20, 49] [.pointer none, .pointer none, .pointer (some ⟨g3, 0, none⟩), .int .i64 o.Kind, .bool (decide (o.Kind = 2))] .nil (by kernel_rfl) (fun b37 => ?_)
    refine thn_n ?_
    refine WP.test (p := o.Kind = 2) rfl Bp.dec (fun h38 => ?_) (fun h38 => ?_)
    · refine WP.seq ?_
      refine WP.region _ rfl (by kernel_rfl) ?_
      refine OPS.batch 3 {} [.int .i64 o.Server] [0, 5, 52, 54] [.pointer none, .pointer (some ⟨g3, 0, none⟩), .pointer none, .int .i64 o.Server] (.cons (Ld.row1 (P := Try.prog) (t := 3) (o := 2) (v := .int .i64 o.Server) hp2.get0 (by kernel_rfl)) .nil) (by kernel_rfl) (fun b39 => ?_)
      refine OPS.cons (opStep.call (some 55) [.pointer none, .int .i64 o.Server] (by kernel_rfl) (r17_Get_nil o.Server _) ?_)
      rintro _ w42 ⟨rfl, hf43⟩
      refine ⟨_, rfl, ?_⟩
      have hp44 := hp2.step hf43
      refine OPS.batch 5 {} [] [0, 5, 11, 12] [.pointer none, .pointer (some ⟨g3, 0, none⟩), .int .i64 0, .bool false] .nil (by kernel_rfl) (fun b45 => ?_)
      refine OPS.nil ?_
      refine thn_n ?_
      refine WP.seq ?_
      refine WP.region _ rfl (by kernel_rfl) ?_
      refine OPS.batch 3 {} [.int .i64 o.Server] [11, 12, 59, 61] [.int .i64 0, .bool false, .pointer none, .int .i64 o.Server] (.cons (Ld.row1 (P := Try.prog) (t := 3) (o := 2) (v := .int .i64 o.Server) hp44.get0 (by kernel_rfl)) .nil) (by kernel_rfl) (fun b46 => ?_)
      refine OPS.cons (opStep.call (some 62) [.pointer none, .int .i64 o.Server] (by kernel_rfl) (pi_Get_nil o.Server _) ?_)
      rintro _ w49 ⟨rfl, hf50⟩
      refine ⟨_, rfl, ?_⟩
      have hp51 := hp44.step hf50
      refine OPS.batch 5 {} [] [11, 12, 13, 14] [.int .i64 0, .bool false, .int .i64 0, .bool false] .nil (by kernel_rfl) (fun b52 => ?_)
      refine OPS.nil ?_
      refine thn_n ?_
      refine WP.seq ?_
      refine WP.pure { wraps := [72] } [] [6] [.bool (false == false)] .nil (by kernel_rfl) (fun b53 => ?_)
      refine thn_n ?_
      refine WP.ret ?_
      refine blk_r ?_
      refine thn_r ?_
      refine bodyQ.of _ rfl [.bool (false == false)] ⟨rfl, trivial⟩ ?_
      exact ⟨congrArg (fun b => Ending.returned (.bool b)) (Bp.tt (Bp.beq Bp.f Bp.f) (by simp)), hp51.fr⟩
    · refine WP.seq ?_
      refine WP.pure {} [] [0, 1, 5, 73] [.pointer none, .pointer none, .pointer (some ⟨g3, 0, none⟩), .bool (decide (o.Kind = 3))] .nil (by kernel_rfl) (fun b54 => ?_)
      refine thn_n ?_
      refine WP.test (p := o.Kind = 3) rfl Bp.dec (fun h55 => ?_) (fun h55 => ?_)
      · refine WP.seq ?_
        refine WP.region _ rfl (by kernel_rfl) ?_
        refine OPS.batch 2 {} [Gsherdlaw17_Op.val o] [0, 5, 75, 76] [.pointer none, .pointer (some ⟨g3, 0, none⟩), .pointer none, Gsherdlaw17_Op.val o] (.cons (show Ld Try.prog w1 52 ⟨g3, 0, none⟩ (Gsherdlaw17_Op.val o) from Ld.rowN (cs := [.int .i64 o.Kind, .int .i64 o.P, .int .i64 o.Server, .int .i64 o.V, .int .i64 o.N]) hp2.get0 (by kernel_rfl)) .nil) (by kernel_rfl) (fun b56 => ?_)
        refine OPS.cons (opStep.call (some 77) [.pointer none, Gsherdlaw17_Op.val o] (by kernel_rfl) (w17_wanted_nil o _) ?_)
        rintro _ w59 ⟨rfl, hf60⟩
        refine ⟨_, rfl, ?_⟩
        have hp61 := hp2.step hf60
        refine OPS.batch 1 {} [] [0, 5, 15] [.pointer none, .pointer (some ⟨g3, 0, none⟩), .slice none 0 0] .nil (by kernel_rfl) (fun b62 => ?_)
        refine OPS.nil ?_
        refine thn_n ?_
        refine WP.seq ?_
        refine WP.region _ rfl (by kernel_rfl) ?_
        refine OPS.batch 2 {} [Gsherdlaw17_Op.val o] [15, 78, 79] [.slice none 0 0, .pointer none, Gsherdlaw17_Op.val o] (.cons (show Ld Try.prog w59 52 ⟨g3, 0, none⟩ (Gsherdlaw17_Op.val o) from Ld.rowN (cs := [.int .i64 o.Kind, .int .i64 o.P, .int .i64 o.Server, .int .i64 o.V, .int .i64 o.N]) hp61.get0 (by kernel_rfl)) .nil) (by kernel_rfl) (fun b63 => ?_)
        refine OPS.cons (opStep.call (some 80) [.pointer none, Gsherdlaw17_Op.val o] (by kernel_rfl) (e17_each_nil o _) ?_)
        rintro _ w66 ⟨rfl, hf67⟩
        refine ⟨_, rfl, ?_⟩
        have hp68 := hp61.step hf67
        refine OPS.batch 1 {} [] [80, 81] [.slice none 0 0, .slice none 0 0] .nil (by kernel_rfl) (fun b69 => ?_)
        refine OPS.cons (opStep.call (some 82) [.slice none 0 0, .slice none 0 0] (by kernel_rfl) (s17_sameInts ([] : List Int) ([] : List Int) _ _ _ _ _ _ _ (by first | rfl | (simp; done) | (simp only [List.length_map]; omega) | omega) (by first | rfl | (simp; done) | (simp only [List.length_map]; omega) | omega) (by first | rfl | (simp; done) | (simp only [List.length_map]; omega) | omega) (SlR.nil _ 0 rfl) (SlR.nil _ 0 rfl)) ?_)
        rintro _ w72 ⟨b75, rfl, hb76, hf73⟩
        refine ⟨_, rfl, ?_⟩
        have hp74 := hp68.step hf73
        refine OPS.batch 1 {} [] [6] [.bool b75] .nil (by kernel_rfl) (fun b77 => ?_)
        refine OPS.nil ?_
        refine thn_n ?_
        refine WP.ret ?_
        refine blk_r ?_
        refine thn_r ?_
        refine bodyQ.of _ rfl [.bool b75] ⟨rfl, trivial⟩ ?_
        exact ⟨congrArg (fun b => Ending.returned (.bool b)) (Bp.tt hb76 (by simp)), hp74.fr⟩
      · refine WP.skip ?_
        refine blk_n ?_
        refine thn_n ?_
        refine WP.seq ?_
        refine WP.region _ rfl (by kernel_rfl) ?_
        refine OPS.batch 1 {} [] [0, 1, 83] [.pointer none, .pointer none, .pointer none] .nil (by kernel_rfl) (fun b78 => ?_)
        refine OPS.cons (opStep.call (some 84) [.pointer none] (by kernel_rfl) (pi_Missing_nil  _) ?_)
        rintro _ w81 ⟨rfl, hf82⟩
        refine ⟨_, rfl, ?_⟩
        have hp83 := hp2.step hf82
        refine OPS.batch 1 {} [] [0, 1, 16] [.pointer none, .pointer none, .slice none 0 0] .nil (by kernel_rfl) (fun b84 => ?_)
        refine OPS.nil ?_
        refine thn_n ?_
        refine WP.cut (fun e131 w132 => ∃ (x129 : Bool), (True) ∧ Bp x129 (((False) ↔ (False)) ∧ (([] : List Int) = ([] : List Int))) ∧ List.map e131 [0, 1, 16, 17] = [.pointer none, .pointer none, .slice none 0 0, .bool x129] ∧ Hp w Non [Res.row g3 [.int .i64 o.Kind, .int .i64 o.P, .int .i64 o.Server, .int .i64 o.V, .int .i64 o.N] 52] w132) ?_ ?_
        · refine WP.region _ rfl (by kernel_rfl) ?_
          refine OPS.batch 1 {} [] [0, 1, 16, 85] [.pointer none, .pointer none, .slice none 0 0, .pointer none] .nil (by kernel_rfl) (fun b86 => ?_)
          refine OPS.cons (opStep.call (some 86) [.pointer none] (by kernel_rfl) (pi_Met_nil  _) ?_)
          rintro _ w89 ⟨rfl, hf90⟩
          refine ⟨_, rfl, ?_⟩
          have hp91 := hp83.step hf90
          refine OPS.batch 1 {} [] [0, 1, 16, 86, 87] [.pointer none, .pointer none, .slice none 0 0, .bool false, .pointer none] .nil (by kernel_rfl) (fun b92 => ?_)
          refine OPS.cons (opStep.call (some 88) [.pointer none] (by kernel_rfl) (r17_Met_nil  _) ?_)
          rintro _ w95 ⟨rfl, hf96⟩
          refine ⟨_, rfl, ?_⟩
          have hp97 := hp91.step hf96
          refine OPS.batch 2 {} [] [0, 1, 16, 90] [.pointer none, .pointer none, .slice none 0 0, .bool (false == false)] .nil (by kernel_rfl) (fun b98 => ?_)
          by_cases h99 : ((False) ↔ (False))
          · refine OPS.batch 0 {} [] [0, 1, 16, 90] [.pointer none, .pointer none, .slice none 0 0, .bool (false == false)] .nil (by kernel_rfl) (fun b100 => ?_)
            refine OPS.re [.pointer none, .pointer none, .slice none 0 0, .bool true] (by rw [show (false == false) = true from (Bp.beq Bp.f Bp.f).tt h99]) ?_
            refine OPS.batch 1 {} [] [0, 1, 16, 90, 91] [.pointer none, .pointer none, .slice none 0 0, .bool true, .pointer none] .nil (by kernel_rfl) (fun b101 => ?_)
            refine OPS.want (by kernel_rfl) ?_
            refine OPS.cons (opStep.call (some 92) [.pointer none] (by kernel_rfl) (pi_Len_nil  _) ?_)
            rintro _ w104 ⟨rfl, hf105⟩
            refine ⟨_, rfl, ?_⟩
            have hp106 := hp97.step hf105
            refine OPS.batch 1 {} [] [0, 1, 16, 90, 92, 93] [.pointer none, .pointer none, .slice none 0 0, .bool true, .int .i64 0, .pointer none] .nil (by kernel_rfl) (fun b107 => ?_)
            refine OPS.want (by kernel_rfl) ?_
            refine OPS.cons (opStep.call (some 94) [.pointer none, .bool true] (by kernel_rfl) (r17_Servers_nil true _) ?_)
            rintro _ w110 ⟨rfl, hf111⟩
            refine ⟨_, rfl, ?_⟩
            have hp112 := hp106.step hf111
            refine OPS.batch 6 { wraps := [97] } [] [0, 1, 16, 98, 99, 100] [.pointer none, .pointer none, .slice none 0 0, .bool true, .slice none 0 0, .pointer none] .nil (by kernel_rfl) (fun b113 => ?_)
            refine OPS.want (by kernel_rfl) ?_
            refine OPS.cons (opStep.call (some 101) [.pointer none, .bool false] (by kernel_rfl) (r17_Servers_nil false _) ?_)
            rintro _ w116 ⟨rfl, hf117⟩
            refine ⟨_, rfl, ?_⟩
            have hp118 := hp112.step hf117
            refine OPS.want (by kernel_rfl) ?_
            refine OPS.cons (opStep.call (some 102) [.slice none 0 0, .slice none 0 0] (by kernel_rfl) (s17_sameInts ([] : List Int) ([] : List Int) _ _ _ _ _ _ _ (by first | rfl | (simp; done) | (simp only [List.length_map]; omega) | omega) (by first | rfl | (simp; done) | (simp only [List.length_map]; omega) | omega) (by first | rfl | (simp; done) | (simp only [List.length_map]; omega) | omega) (SlR.nil _ 0 rfl) (SlR.nil _ 0 rfl)) ?_)
            rintro _ w121 ⟨b124, rfl, hb125, hf122⟩
            refine ⟨_, rfl, ?_⟩
            have hp123 := hp118.step hf122
            refine OPS.batch 2 { wraps := [103] } [] [0, 1, 16, 17] [.pointer none, .pointer none, .slice none 0 0, .bool b124] .nil (by kernel_rfl) (fun b126 => ?_)
            refine OPS.nil ?_
            refine thn_n ?_
            exact ⟨b124, trivial, Bp.of hb125 (by first | (simp only [h99, iff_false, false_iff, iff_true, true_iff, Classical.not_not, and_true, true_and, and_false, false_and, or_true, true_or, or_false, false_or, not_true_eq_false, not_false_eq_true, and_self, or_self, iff_self]; done) | (simp [h99]; done) | simp_all), by kernel_rfl, hp123⟩
          · refine OPS.batch 0 {} [] [0, 1, 16, 90] [.pointer none, .pointer none, .slice none 0 0, .bool (false == false)] .nil (by kernel_rfl) (fun b127 => ?_)
            refine OPS.re [.pointer none, .pointer none, .slice none 0 0, .bool false] (by rw [show (false == false) = false from (Bp.beq Bp.f Bp.f).ff h99]) ?_
            refine OPS.batch 14 { wraps := [97, 103] } [] [0, 1, 16, 17] [.pointer none, .pointer none, .slice none 0 0, .bool false] .nil (by kernel_rfl) (fun b128 => ?_)
            refine OPS.nil ?_
            refine thn_n ?_
            exact ⟨false, trivial, Bp.of Bp.f (by first | (simp only [h99, iff_false, false_iff, iff_true, true_iff, Classical.not_not, and_true, true_and, and_false, false_and, or_true, true_or, or_false, false_or, not_true_eq_false, not_false_eq_true, and_self, or_self, iff_self]; done) | (simp [h99]; done) | simp_all), by kernel_rfl, hp97⟩
        rintro e131 w132 ⟨x129, hd134, hb130, hE135, hp133⟩
        obtain ⟨b136, rfl⟩ := toMk hE135
        clear hE135
        clear hd134
        refine WP.seq ?_
        refine WP.seq ?_
        refine WP.pure {} [] [0, 1, 16, 17, 105, 106] [.pointer none, .pointer none, .slice none 0 0, .bool x129, .int .i64 0, .int .i64 0] .nil (by kernel_rfl) (fun b137 => ?_)
        refine thn_n ?_
        refine WP.block ?_
        refine WP.rounds 1 ?_
        refine RND.step ?_
        refine WP.seq ?_
        refine WP.pure {} [] [0, 1, 16, 17, 105, 106, 107] [.pointer none, .pointer none, .slice none 0 0, .bool x129, .int .i64 0, .int .i64 0, .bool false] .nil (by kernel_rfl) (fun b138 => ?_)
        refine thn_n ?_
        refine WP.seq ?_
        refine WP.condF rfl ?_
        refine WP.exit ?_
        refine thn_x ?_
        refine thn_x ?_
        refine blk_hit ?_
        refine thn_n ?_
        refine WP.cut (fun e165 w166 => ∃ (x163 : Bool), (True) ∧ Bp x163 ((((False) ↔ (False)) ∧ (([] : List Int) = ([] : List Int))) ∧ (([] : List Int) = ([] : List Int))) ∧ List.map e165 [6] = [.bool x163] ∧ Hp w Non [Res.row g3 [.int .i64 o.Kind, .int .i64 o.P, .int .i64 o.Server, .int .i64 o.V, .int .i64 o.N] 52] w166) ?_ ?_
        · refine WP.region _ rfl (by kernel_rfl) ?_
          refine OPS.batch 2 {} [] [0, 1, 114] [.pointer none, .pointer none, .bool x129] .nil (by kernel_rfl) (fun b140 => ?_)
          by_cases h141 : ((False) ↔ (False)) ∧ (([] : List Int) = ([] : List Int))
          · rw [show x129 = true from hb130.tt h141]
            refine OPS.batch 1 {} [] [1, 114, 115] [.pointer none, .bool true, .pointer none] .nil (by kernel_rfl) (fun b142 => ?_)
            refine OPS.want (by kernel_rfl) ?_
            refine OPS.cons (opStep.call (some 116) [.pointer none] (by kernel_rfl) (pi_Missing_nil  _) ?_)
            rintro _ w145 ⟨rfl, hf146⟩
            refine ⟨_, rfl, ?_⟩
            have hp147 := hp133.step hf146
            refine OPS.batch 1 {} [] [114, 116, 117] [.bool true, .slice none 0 0, .pointer none] .nil (by kernel_rfl) (fun b148 => ?_)
            refine OPS.want (by kernel_rfl) ?_
            refine OPS.cons (opStep.call (some 118) [.pointer none, .bool false] (by kernel_rfl) (r17_Servers_nil false _) ?_)
            rintro _ w151 ⟨rfl, hf152⟩
            refine ⟨_, rfl, ?_⟩
            have hp153 := hp147.step hf152
            refine OPS.want (by kernel_rfl) ?_
            refine OPS.cons (opStep.call (some 119) [.slice none 0 0, .slice none 0 0] (by kernel_rfl) (s17_sameInts ([] : List Int) ([] : List Int) _ _ _ _ _ _ _ (by first | rfl | (simp; done) | (simp only [List.length_map]; omega) | omega) (by first | rfl | (simp; done) | (simp only [List.length_map]; omega) | omega) (by first | rfl | (simp; done) | (simp only [List.length_map]; omega) | omega) (SlR.nil _ 0 rfl) (SlR.nil _ 0 rfl)) ?_)
            rintro _ w156 ⟨b159, rfl, hb160, hf157⟩
            refine ⟨_, rfl, ?_⟩
            have hp158 := hp153.step hf157
            refine OPS.batch 2 { wraps := [120] } [] [6] [.bool b159] .nil (by kernel_rfl) (fun b161 => ?_)
            refine OPS.nil ?_
            refine thn_n ?_
            exact ⟨b159, trivial, Bp.of hb160 (by first | (simp only [h141, iff_false, false_iff, iff_true, true_iff, Classical.not_not, and_true, true_and, and_false, false_and, or_true, true_or, or_false, false_or, not_true_eq_false, not_false_eq_true, and_self, or_self, iff_self]; done) | (simp [h141]; done) | simp_all), by kernel_rfl, hp158⟩
          · rw [show x129 = false from hb130.ff h141]
            refine OPS.batch 7 { wraps := [120] } [] [6] [.bool false] .nil (by kernel_rfl) (fun b162 => ?_)
            refine OPS.nil ?_
            refine thn_n ?_
            exact ⟨false, trivial, Bp.of Bp.f (by first | (simp only [h141, iff_false, false_iff, iff_true, true_iff, Classical.not_not, and_true, true_and, and_false, false_and, or_true, true_or, or_false, false_or, not_true_eq_false, not_false_eq_true, and_self, or_self, iff_self]; done) | (simp [h141]; done) | simp_all), by kernel_rfl, hp133⟩
        rintro e165 w166 ⟨x163, hd168, hb164, hE169, hp167⟩
        obtain ⟨b170, rfl⟩ := toMk hE169
        clear hE169
        clear hd168
        refine WP.ret ?_
        refine bodyQ.of _ rfl [.bool x163] ⟨rfl, trivial⟩ ?_
        exact ⟨congrArg (fun b => Ending.returned (.bool b)) (Bp.tt hb164 (by simp)), hp167.fr⟩

end Go.Proofs.Ytgpjpcemfaignaa.K
