/- The walks of SetL: what each function computes. -/
import Derived.Test.YtoeholipggkcaaaProg
import Derived.Test.YtoeholipggkcaaaCoreO
import Derived.Test.YtoeholipggkcaaaSetK
namespace Go.Proofs.Ytoeholipggkcaaa.K
open Go Go.Proofs Go.RowKit
set_option linter.unusedVariables false
set_option linter.unusedSimpArgs false
set_option maxRecDepth 20000
set_option maxHeartbeats 4000000

theorem blw_in {ys rs : List GTag} (E : Eqv ys rs) {j : Nat} (hj : j < rs.length) : ∃ z, z < ys.length ∧ blw rs rs[j]! = z := by
  have hm : rs[j]! ∈ ys := (E.2.2 _).2 (by rw [getElem!_pos rs j hj]; exact List.getElem_mem _)
  obtain ⟨i, hi⟩ := List.getElem?_of_mem hm
  have hil := (List.getElem?_eq_some_iff.1 hi).1
  have e : rs[j]! = ys[i]! := by rw [List.getElem?_eq_getElem hil] at hi; rw [getElem!_pos ys i hil]; exact (Option.some.inj hi).symm
  exact ⟨i, hil, (E.at hj hil).2 e⟩
theorem ref_High (rs : List GTag) (a : Option Addr) (n c rb : Nat) (ys : List GTag) (i : Int) (hi : -9223372036854775808 ≤ i ∧ i ≤ 9223372036854775807) (w : World) (hn : n = rs.length) (hb : rs.length ≤ 4194304) (hx : SlR w a n (rs.flatMap GTag.cells)) (hs : (Res.row rb [.slice a n c] 55).holds w) (E : Eqv ys rs) :
    Calls Try.prog 25 #[.pointer (some ⟨rb, 0, none⟩), .int .i64 i] w (fun r_ w' => ∃ x e, r_ = .returned (.tuple #[GTag.val x, .int .i64 e]) ∧ ((¬ (0 ≤ i ∧ i < (n : Int)) ∧ x = tag0_ ∧ e = 50) ∨ (0 ≤ i ∧ i < (n : Int) ∧ x = ys[n - 1 - i.toNat]! ∧ e = 0)) ∧ Fram Non w w') := by
  refine calls_of Try.func25 rfl 45 rfl (by simp) ?_
  have hp0 := Hp.init w
  have he0 : List.map (env0 [.pointer (some ⟨rb, 0, none⟩), .int .i64 i]) [0, 1] = [.pointer (some ⟨rb, 0, none⟩), .int .i64 i] := by kernel_rfl
  obtain ⟨b0, he0⟩ := toMk he0
  rw [he0]
  clear he0
  refine WP.seq ?_
  refine WP.region _ rfl (by kernel_rfl) ?_
  refine OPS.cons (opStep.alloc hp0 [.int .i64 0, .int .i64 0] (by kernel_rfl) (fun g3 w1 hp2 => ?_))
  refine OPS.batch 1 {} [] [0, 1, 4] [.pointer (some ⟨rb, 0, none⟩), .int .i64 i, .pointer (some ⟨g3, 0, none⟩)] .nil (by kernel_rfl) (fun b4 => ?_)
  refine OPS.nil ?_
  refine thn_n ?_
  refine WP.seq ?_
  refine WP.seq ?_
  refine WP.pure {} [] [0, 1, 4, 8] [.pointer (some ⟨rb, 0, none⟩), .int .i64 i, .pointer (some ⟨g3, 0, none⟩), .bool false] .nil (by kernel_rfl) (fun b5 => ?_)
  refine thn_n ?_
  refine WP.condF rfl ?_
  refine WP.skip ?_
  refine thn_n ?_
  refine WP.seq ?_
  refine WP.seq ?_
  refine WP.pure {} [] [0, 1, 4, 6] [.pointer (some ⟨rb, 0, none⟩), .int .i64 i, .pointer (some ⟨g3, 0, none⟩), .int .i64 0] .nil (by kernel_rfl) (fun b6 => ?_)
  refine thn_n ?_
  refine WP.block ?_
  refine WP.loop (fun mz_ e7 w8 => ∃ (j : Nat), mz_ = rs.length - j ∧ (j ≤ rs.length ∧ ∀ m, m < j → ¬ (0 ≤ i ∧ i < (n : Int) ∧ rs[m]! = ys[n - 1 - i.toNat]!)) ∧ List.map e7 [0, 1, 4, 6] = [.pointer (some ⟨rb, 0, none⟩), .int .i64 i, .pointer (some ⟨g3, 0, none⟩), .int .i64 (j : Int)] ∧ Hp w Non [Res.row g3 [.int .i64 0, .int .i64 0] 29] w8) (rs.length - (0)) ⟨0, rfl, ⟨by omega, fun m hm => by omega⟩, by kernel_rfl, hp2⟩ ?_
  rintro _ e7 w8 ⟨j, rfl, hI10, hE11, hp9⟩
  obtain ⟨b12, rfl⟩ := toMk hE11
  clear hE11
  obtain ⟨pa, pb⟩ := hI10
  have hblj := blw_le (rs := rs) (t := rs[j]!)
  refine WP.seq ?_
  refine WP.seq ?_
  refine WP.pure {} [.slice a n c] [0, 1, 4, 6, 16] [.pointer (some ⟨rb, 0, none⟩), .int .i64 i, .pointer (some ⟨g3, 0, none⟩), .int .i64 (j : Int), .bool (decide ((j : Int) < ((n : Nat) : Int)))] (.cons (Ld.row1 (P := Try.prog) (t := 22) (o := 0) (v := .slice a n c) (row_at hs hp9.fr) (by kernel_rfl)) .nil) (by kernel_rfl) (fun b13 => ?_)
  refine thn_n ?_
  refine WP.test (p := (j : Int) < ((n : Nat) : Int)) rfl Bp.dec (fun h14 => ?_) (fun h14 => ?_)
  · refine WP.skip ?_
    refine thn_n ?_
    refine WP.seq ?_
    refine WP.block ?_
    refine WP.seq ?_
    have hp17 := hp9.drew
    refine WP.quiet (fun w15 => Hp w Non [Res.row g3 [.int .i64 0, .int .i64 0] 29] w15) (by kernel_rfl) hp17 ?_
    have hnehp17 : ∃ wz_, (fun w15 => Hp w Non [Res.row g3 [.int .i64 0, .int .i64 0] 29] w15) wz_ := ⟨_, hp17⟩
    have hy21 : (rs)[j]? = some rs[j]! := get_bang (by first | (omega) | (simp only [List.length_append, List.length_cons, List.length_nil]; omega) | (simp only [List.length_take, List.length_append, List.length_cons, List.length_nil]; omega))
    refine QOPS.batch 8 {} [.slice a n c, GTag.val (rs[j]!)] [0, 1, 4, 6, 19, 26] [.pointer (some ⟨rb, 0, none⟩), .int .i64 i, .pointer (some ⟨g3, 0, none⟩), .int .i64 (j : Int), .pointer (some ⟨rb, 0, none⟩), GTag.val (rs[j]!)] hnehp17 (fun w18 hp19 => QB.mk (.cons (Ld.row1 (P := Try.prog) (t := 22) (o := 0) (v := .slice a n c) (row_at hs hp19.fr) (by kernel_rfl)) (.cons (show InB ((j : Int)) (n) from ⟨by omega, by omega⟩) (.cons ((hx.at hp19).some (by omega)) (.cons (Ld.add0 (Ld.elN (P := Try.prog) (t := 29) (hx.at hp19).rd 2 (fun _ => rfl) hy21 (o := 0) (cs := [.int .i64 (rs[j]!.Count), .int .i64 (rs[j]!.Client)]) (by kernel_rfl))) .nil)))) (by kernel_rfl)) (fun b22 => ?_)
    refine QOPS.call (some 27) [.pointer (some ⟨rb, 0, none⟩), GTag.val (rs[j]!)] (by kernel_rfl) (fun w23 hp24 => (ref_below rs a n c rb (rs[j]!) _ hn hb (hx.fram hp24.fr) (row_at hs hp24.fr)).mono fun _ _ h => ⟨h.1, hp24.step h.2⟩) ?_
    refine QOPS.batch 9 { wraps := [35] } [.slice a n c] [0, 1, 4, 6, 36] [.pointer (some ⟨rb, 0, none⟩), .int .i64 i, .pointer (some ⟨g3, 0, none⟩), .int .i64 (j : Int), .bool (decide (((blw rs (rs[j]!) : Nat) : Int) = (IntKind.i64.wrap ((((n : Nat) : Int) - 1) - i))))] hnehp17 (fun w25 hp26 => QB.mk (.cons (Ld.row1 (P := Try.prog) (t := 22) (o := 0) (v := .slice a n c) (row_at hs hp26.fr) (by kernel_rfl)) (.cons (show Rng .i64 (((n : Nat) : Int) - 1) from Rng.i64 (by omega)) .nil)) (by kernel_rfl)) (fun b27 => ?_)
    refine QOPS.nil (fun w28 hp29 => ?_)
    refine thn_n ?_
    refine WP.test (p := ((blw rs (rs[j]!) : Nat) : Int) = (IntKind.i64.wrap ((((n : Nat) : Int) - 1) - i))) rfl Bp.dec (fun h30 => ?_) (fun h30 => ?_)
    · refine WP.seq ?_
      refine WP.region _ rfl (by kernel_rfl) ?_
      refine OPS.batch 7 {} [.slice a n c, GTag.val (rs[j]!)] [4, 43] [.pointer (some ⟨g3, 0, none⟩), GTag.val (rs[j]!)] (.cons (Ld.row1 (P := Try.prog) (t := 22) (o := 0) (v := .slice a n c) (row_at hs hp29.fr) (by kernel_rfl)) (.cons (show InB ((j : Int)) (n) from ⟨by omega, by omega⟩) (.cons ((hx.at hp29).some (by omega)) (.cons (Ld.add0 (Ld.elN (P := Try.prog) (t := 29) (hx.at hp29).rd 2 (fun _ => rfl) hy21 (o := 0) (cs := [.int .i64 (rs[j]!.Count), .int .i64 (rs[j]!.Client)]) (by kernel_rfl))) .nil)))) (by kernel_rfl) (fun b31 => ?_)
      refine OPS.cons (opStep.store0 hp29 rfl [.int .i64 (rs[j]!.Count), .int .i64 (rs[j]!.Client)] [.int .i64 (rs[j]!.Count), .int .i64 (rs[j]!.Client)] (by kernel_rfl) (fun w32 hp33 => ?_))
      refine OPS.batch 1 {} [] [4, 5] [.pointer (some ⟨g3, 0, none⟩), .int .i64 0] .nil (by kernel_rfl) (fun b34 => ?_)
      refine OPS.nil ?_
      refine thn_n ?_
      refine WP.ret ?_
      refine blk_r ?_
      refine thn_r ?_
      refine thn_r ?_
      refine blk_r ?_
      refine thn_r ?_
      refine bodyQ.of _ rfl [GTag.val (rs[j]!), .int .i64 0] ⟨⟨_, rfl, (show Ld Try.prog w32 29 ⟨g3, 0, none⟩ (GTag.val (rs[j]!)) from Ld.rowN (cs := [.int .i64 (rs[j]!.Count), .int .i64 (rs[j]!.Client)]) hp33.get0 (by kernel_rfl))⟩, rfl, trivial⟩ ?_
      have hlt : blw rs rs[j]! < rs.length := by obtain ⟨z, hz⟩ : ∃ z, z < ys.length ∧ blw rs rs[j]! = z := blw_in E (by omega); have := E.len; omega
      have h_ := h30
      simp only [IntKind.wrap_i64] at h_
      exact ⟨rs[j]!, 0, rfl, .inr ⟨by omega, by omega, (E.at (by omega) (by have := E.len; omega)).1 (by omega), rfl⟩, hp33.fr⟩
    · refine WP.skip ?_
      refine blk_n ?_
      refine thn_n ?_
      refine WP.pure {} [] [0, 1, 4, 6] [.pointer (some ⟨rb, 0, none⟩), .int .i64 i, .pointer (some ⟨g3, 0, none⟩), .int .i64 ((j : Int) + 1)] (.cons (show Rng .i64 ((j : Int) + 1) from Rng.i64 (by omega)) .nil) (by kernel_rfl) (fun b35 => ?_)
      refine thn_n ?_
      exact ⟨rs.length - (j + 1), (by omega), j + 1, rfl, ⟨by omega, fun m hm q => by by_cases e : m = j; subst e; have q2 := (E.at (n := n - 1 - i.toNat) (by omega) (by have := E.len; omega)).2 q.2.2; have h_ := h30; simp only [IntKind.wrap_i64] at h_; omega; exact pb m (by omega) q⟩, by kernel_rfl, hp29⟩
  · refine WP.exit ?_
    refine thn_x ?_
    refine thn_x ?_
    refine blk_hit ?_
    refine thn_n ?_
    refine WP.seq ?_
    refine WP.region _ rfl (by kernel_rfl) ?_
    refine OPS.batch 1 {} [] [4, 44] [.pointer (some ⟨g3, 0, none⟩), .agg #[.int .i64 0, .int .i64 0]] .nil (by kernel_rfl) (fun b36 => ?_)
    refine OPS.cons (opStep.store0 hp9 rfl [.int .i64 0, .int .i64 0] [.int .i64 0, .int .i64 0] (by kernel_rfl) (fun w37 hp38 => ?_))
    refine OPS.batch 1 {} [] [4, 5] [.pointer (some ⟨g3, 0, none⟩), .int .i64 50] .nil (by kernel_rfl) (fun b39 => ?_)
    refine OPS.nil ?_
    refine thn_n ?_
    refine WP.ret ?_
    refine bodyQ.of _ rfl [.agg #[.int .i64 0, .int .i64 0], .int .i64 50] ⟨⟨_, rfl, (show Ld Try.prog w37 29 ⟨g3, 0, none⟩ (.agg #[.int .i64 0, .int .i64 0]) from Ld.rowN (cs := [.int .i64 0, .int .i64 0]) hp38.get0 (by kernel_rfl))⟩, rfl, trivial⟩ ?_
    refine ⟨tag0_, 50, rfl, .inl ⟨fun q => ?_, rfl, rfl⟩, hp38.fr⟩
    obtain ⟨m, h1, h2⟩ := E.has (n := n - 1 - i.toNat) (by have := E.len; omega)
    exact pb m (by omega) ⟨q.1, q.2, h2⟩

end Go.Proofs.Ytoeholipggkcaaa.K
