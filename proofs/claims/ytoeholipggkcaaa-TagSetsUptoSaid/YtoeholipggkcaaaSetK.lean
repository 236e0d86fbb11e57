/- The walks of SetK: what each function computes. -/
import Derived.Test.YtoeholipggkcaaaProg
import Derived.Test.YtoeholipggkcaaaCoreO
import Derived.Test.YtoeholipggkcaaaSetJ
namespace Go.Proofs.Ytoeholipggkcaaa.K
open Go Go.Proofs Go.RowKit
set_option linter.unusedVariables false
set_option linter.unusedSimpArgs false
set_option maxRecDepth 20000
set_option maxHeartbeats 4000000

theorem set_High (xs : List GTag) (a : Option Addr) (n c sb : Nat) (i : Int) (hi : -9223372036854775808 ≤ i ∧ i ≤ 9223372036854775807) (w : World) (hn : n = xs.length) (hb : xs.length ≤ 4194304) (hx : SlR w a n (xs.flatMap GTag.cells)) (hs : (Res.row sb [.slice a n c] 52).holds w) :
    Calls Try.prog 9 #[.pointer (some ⟨sb, 0, none⟩), .int .i64 i] w (fun r_ w' => ∃ x e, r_ = .returned (.tuple #[GTag.val x, .int .i64 e]) ∧ ((¬ (0 ≤ i ∧ i < (n : Int)) ∧ x = tag0_ ∧ e = 50) ∨ (0 ≤ i ∧ i < (n : Int) ∧ x = xs[n - 1 - i.toNat]! ∧ e = 0)) ∧ Fram Non w w') := by
  refine calls_of Try.func9 rfl 35 rfl (by simp) ?_
  have hp0 := Hp.init w
  have he0 : List.map (env0 [.pointer (some ⟨sb, 0, none⟩), .int .i64 i]) [0, 1] = [.pointer (some ⟨sb, 0, none⟩), .int .i64 i] := by kernel_rfl
  obtain ⟨b0, he0⟩ := toMk he0
  rw [he0]
  clear he0
  refine WP.seq ?_
  refine WP.region _ rfl (by kernel_rfl) ?_
  refine OPS.cons (opStep.alloc hp0 [.int .i64 0, .int .i64 0] (by kernel_rfl) (fun g3 w1 hp2 => ?_))
  refine OPS.batch 1 {} [] [0, 1, 4] [.pointer (some ⟨sb, 0, none⟩), .int .i64 i, .pointer (some ⟨g3, 0, none⟩)] .nil (by kernel_rfl) (fun b4 => ?_)
  refine OPS.nil ?_
  refine thn_n ?_
  refine WP.seq ?_
  refine WP.seq ?_
  refine WP.pure {} [] [0, 1, 4, 7] [.pointer (some ⟨sb, 0, none⟩), .int .i64 i, .pointer (some ⟨g3, 0, none⟩), .bool false] .nil (by kernel_rfl) (fun b5 => ?_)
  refine thn_n ?_
  refine WP.condF rfl ?_
  refine WP.skip ?_
  refine thn_n ?_
  refine WP.seq ?_
  refine WP.cut (fun e15 w16 => ∃ (x13 : Bool), (True) ∧ Bp x13 (((i < 0)) ∨ ((¬ (i < 0)) ∧ (((n : Nat) : Int) ≤ i))) ∧ List.map e15 [0, 1, 4, 19] = [.pointer (some ⟨sb, 0, none⟩), .int .i64 i, .pointer (some ⟨g3, 0, none⟩), .bool x13] ∧ Hp w Non [Res.row g3 [.int .i64 0, .int .i64 0] 29] w16) ?_ ?_
  · refine WP.region _ rfl (by kernel_rfl) ?_
    refine OPS.batch 3 {} [] [0, 1, 4, 11] [.pointer (some ⟨sb, 0, none⟩), .int .i64 i, .pointer (some ⟨g3, 0, none⟩), .bool (decide (i < 0))] .nil (by kernel_rfl) (fun b7 => ?_)
    by_cases h8 : i < 0
    · refine OPS.batch 0 {} [] [0, 1, 4, 11] [.pointer (some ⟨sb, 0, none⟩), .int .i64 i, .pointer (some ⟨g3, 0, none⟩), .bool (decide (i < 0))] .nil (by kernel_rfl) (fun b9 => ?_)
      refine OPS.re [.pointer (some ⟨sb, 0, none⟩), .int .i64 i, .pointer (some ⟨g3, 0, none⟩), .bool true] (by rw [show (decide (i < 0)) = true from Bp.dec.tt h8]) ?_
      refine OPS.batch 8 { wraps := [19] } [] [0, 1, 4, 19] [.pointer (some ⟨sb, 0, none⟩), .int .i64 i, .pointer (some ⟨g3, 0, none⟩), .bool true] .nil (by kernel_rfl) (fun b10 => ?_)
      refine OPS.nil ?_
      refine thn_n ?_
      exact ⟨true, trivial, Bp.of Bp.t (by first | (simp only [h8, iff_false, false_iff, iff_true, true_iff, Classical.not_not, and_true, true_and, and_false, false_and, or_true, true_or, or_false, false_or, not_true_eq_false, not_false_eq_true, and_self, or_self, iff_self]; done) | (simp [h8]; done) | grind | (simp_all; done)), by kernel_rfl, hp2⟩
    · refine OPS.batch 0 {} [] [0, 1, 4, 11] [.pointer (some ⟨sb, 0, none⟩), .int .i64 i, .pointer (some ⟨g3, 0, none⟩), .bool (decide (i < 0))] .nil (by kernel_rfl) (fun b11 => ?_)
      refine OPS.re [.pointer (some ⟨sb, 0, none⟩), .int .i64 i, .pointer (some ⟨g3, 0, none⟩), .bool false] (by rw [show (decide (i < 0)) = false from Bp.dec.ff h8]) ?_
      refine OPS.batch 8 { wraps := [19] } [.slice a n c] [0, 1, 4, 19] [.pointer (some ⟨sb, 0, none⟩), .int .i64 i, .pointer (some ⟨g3, 0, none⟩), .bool (decide (((n : Nat) : Int) ≤ i))] (.cons (Ld.row1 (P := Try.prog) (t := 22) (o := 0) (v := .slice a n c) (row_at hs hp2.fr) (by kernel_rfl)) .nil) (by kernel_rfl) (fun b12 => ?_)
      refine OPS.nil ?_
      refine thn_n ?_
      exact ⟨decide (((n : Nat) : Int) ≤ i), trivial, Bp.of Bp.dec (by first | (simp only [h8, iff_false, false_iff, iff_true, true_iff, Classical.not_not, and_true, true_and, and_false, false_and, or_true, true_or, or_false, false_or, not_true_eq_false, not_false_eq_true, and_self, or_self, iff_self]; done) | (simp [h8]; done) | grind | (simp_all; done)), by kernel_rfl, hp2⟩
  rintro e15 w16 ⟨x13, hd18, hb14, hE19, hp17⟩
  obtain ⟨b20, rfl⟩ := toMk hE19
  clear hE19
  clear hd18
  refine WP.test (p := ((i < 0)) ∨ ((¬ (i < 0)) ∧ (((n : Nat) : Int) ≤ i))) rfl hb14 (fun h21 => ?_) (fun h21 => ?_)
  · refine WP.seq ?_
    refine WP.region _ rfl (by kernel_rfl) ?_
    refine OPS.batch 1 {} [] [4, 20] [.pointer (some ⟨g3, 0, none⟩), .agg #[.int .i64 0, .int .i64 0]] .nil (by kernel_rfl) (fun b22 => ?_)
    refine OPS.cons (opStep.store0 hp17 rfl [.int .i64 0, .int .i64 0] [.int .i64 0, .int .i64 0] (by kernel_rfl) (fun w23 hp24 => ?_))
    refine OPS.batch 1 {} [] [4, 5] [.pointer (some ⟨g3, 0, none⟩), .int .i64 50] .nil (by kernel_rfl) (fun b25 => ?_)
    refine OPS.nil ?_
    refine thn_n ?_
    refine WP.ret ?_
    refine thn_r ?_
    refine bodyQ.of _ rfl [.agg #[.int .i64 0, .int .i64 0], .int .i64 50] ⟨⟨_, rfl, (show Ld Try.prog w23 29 ⟨g3, 0, none⟩ (.agg #[.int .i64 0, .int .i64 0]) from Ld.rowN (cs := [.int .i64 0, .int .i64 0]) hp24.get0 (by kernel_rfl))⟩, rfl, trivial⟩ ?_
    exact ⟨tag0_, 50, rfl, .inl ⟨by have h_ := h21; omega, rfl, rfl⟩, hp24.fr⟩
  · refine WP.skip ?_
    refine thn_n ?_
    refine WP.seq ?_
    have hp26 := hp17.drew
    have hy28 : (xs)[((((n : Nat) : Int) - 1) - i : Int).toNat]? = some xs[((((n : Nat) : Int) - 1) - i : Int).toNat]! := get_bang (by first | (omega) | (simp only [List.length_append, List.length_cons, List.length_nil]; omega) | (simp only [List.length_take, List.length_append, List.length_cons, List.length_nil]; omega))
    refine WP.held (fun w29 => Ld Try.prog w29 22 ⟨sb, 0, none⟩ (.slice a n c) ∧ Ld Try.prog w29 29 ((adr a).add (((((n : Nat) : Int) - 1) - i : Int).toNat * 2)) (GTag.val (xs[((((n : Nat) : Int) - 1) - i : Int).toNat]!)) ∧ True) [] [(0, true), (1, true), (2, true), (3, true), (4, true), (5, true), (6, true), (7, true), (8, true), (9, true), (10, true), (11, true), (12, true), (13, true), (14, false), (15, true)] (np_thn np_body) (by kernel_rfl) ?_
    refine HOPS.take 14 {} [.slice a n c, .slice a n c, GTag.val (xs[((((n : Nat) : Int) - 1) - i : Int).toNat]!)] [4, 34] [.pointer (some ⟨g3, 0, none⟩), GTag.val (xs[((((n : Nat) : Int) - 1) - i : Int).toNat]!)] (by kernel_rfl) ⟨(show Ld Try.prog w16.drew 22 ⟨sb, 0, none⟩ (.slice a n c) from (Ld.row1 (P := Try.prog) (t := 22) (o := 0) (v := .slice a n c) (row_at hs hp26.fr) (by kernel_rfl))), (show Ld Try.prog w16.drew 29 ((adr a).add (((((n : Nat) : Int) - 1) - i : Int).toNat * 2)) (GTag.val (xs[((((n : Nat) : Int) - 1) - i : Int).toNat]!)) from (Ld.add0 (Ld.elN (P := Try.prog) (t := 29) (hx.at hp26).rd 2 (fun _ => rfl) hy28 (o := 0) (cs := [.int .i64 (xs[((((n : Nat) : Int) - 1) - i : Int).toNat]!.Count), .int .i64 (xs[((((n : Nat) : Int) - 1) - i : Int).toNat]!.Client)]) (by kernel_rfl)))), trivial⟩ (fun w30 hS31 => QB.mk (.cons (hS31.1) (.cons (hS31.1) (.cons (show Rng .i64 (((n : Nat) : Int) - 1) from Rng.i64 (by omega)) (.cons (show Rng .i64 ((((n : Nat) : Int) - 1) - i) from Rng.i64 (by omega)) (.cons (show InB ((((n : Nat) : Int) - 1) - i) (n) from ⟨by omega, by omega⟩) (.cons ((hx.at hp26).some (by omega)) (.cons (hS31.2.1) .nil))))))) (by kernel_rfl)) (fun b32 => ?_)
    refine HOPS.eff _ rfl (opStep.store0 hp26 rfl [.int .i64 (xs[((((n : Nat) : Int) - 1) - i : Int).toNat]!.Count), .int .i64 (xs[((((n : Nat) : Int) - 1) - i : Int).toNat]!.Client)] [.int .i64 (xs[((((n : Nat) : Int) - 1) - i : Int).toNat]!.Count), .int .i64 (xs[((((n : Nat) : Int) - 1) - i : Int).toNat]!.Client)] (by kernel_rfl) (fun w33 hp34 => ?_))
    refine ⟨.inr ⟨(show Ld Try.prog w33 22 ⟨sb, 0, none⟩ (.slice a n c) from (Ld.row1 (P := Try.prog) (t := 22) (o := 0) (v := .slice a n c) (row_at hs hp34.fr) (by kernel_rfl))), (show Ld Try.prog w33 29 ((adr a).add (((((n : Nat) : Int) - 1) - i : Int).toNat * 2)) (GTag.val (xs[((((n : Nat) : Int) - 1) - i : Int).toNat]!)) from (Ld.add0 (Ld.elN (P := Try.prog) (t := 29) (hx.at hp34).rd 2 (fun _ => rfl) hy28 (o := 0) (cs := [.int .i64 (xs[((((n : Nat) : Int) - 1) - i : Int).toNat]!.Count), .int .i64 (xs[((((n : Nat) : Int) - 1) - i : Int).toNat]!.Client)]) (by kernel_rfl)))), trivial⟩, ?_⟩
    refine HOPS.take 1 {} [] [4, 5] [.pointer (some ⟨g3, 0, none⟩), .int .i64 0] (by kernel_rfl) ⟨(show Ld Try.prog w33 22 ⟨sb, 0, none⟩ (.slice a n c) from (Ld.row1 (P := Try.prog) (t := 22) (o := 0) (v := .slice a n c) (row_at hs hp34.fr) (by kernel_rfl))), (show Ld Try.prog w33 29 ((adr a).add (((((n : Nat) : Int) - 1) - i : Int).toNat * 2)) (GTag.val (xs[((((n : Nat) : Int) - 1) - i : Int).toNat]!)) from (Ld.add0 (Ld.elN (P := Try.prog) (t := 29) (hx.at hp34).rd 2 (fun _ => rfl) hy28 (o := 0) (cs := [.int .i64 (xs[((((n : Nat) : Int) - 1) - i : Int).toNat]!.Count), .int .i64 (xs[((((n : Nat) : Int) - 1) - i : Int).toNat]!.Client)]) (by kernel_rfl)))), trivial⟩ (fun w35 hS36 => QB.mk .nil (by kernel_rfl)) (fun b37 => ?_)
    refine HOPS.nil ?_
    refine thn_n ?_
    refine WP.ret ?_
    refine bodyQ.of _ rfl [GTag.val (xs[((((n : Nat) : Int) - 1) - i : Int).toNat]!), .int .i64 0] ⟨⟨_, rfl, (show Ld Try.prog w33 29 ⟨g3, 0, none⟩ (GTag.val (xs[((((n : Nat) : Int) - 1) - i : Int).toNat]!)) from Ld.rowN (cs := [.int .i64 (xs[((((n : Nat) : Int) - 1) - i : Int).toNat]!.Count), .int .i64 (xs[((((n : Nat) : Int) - 1) - i : Int).toNat]!.Client)]) hp34.get0 (by kernel_rfl))⟩, rfl, trivial⟩ ?_
    have h_ := h21
    exact ⟨_, 0, rfl, .inr ⟨by omega, by omega, by congr 1; omega, rfl⟩, hp34.fr⟩

end Go.Proofs.Ytoeholipggkcaaa.K
