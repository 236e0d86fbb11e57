/- Texts of this claim, merged: what the program's functions compute, and the rules that the walks use. -/
import Derived.Test.YtdkgdidnknojlaaProg
import Derived.Test.YtdkgdidnknojlaaZ1
import Derived.Test.YtdkgdidnknojlaaZ3
import Derived.Test.YtdkgdidnknojlaaZ4
import Derived.Test.YtdkgdidnknojlaaZ7
import Derived.Test.YtdkgdidnknojlaaZ10
namespace Go.Proofs.Ytdkgdidnknojlaa.K
open Go Go.Proofs Go.RowKit
set_option linter.unusedVariables false
set_option linter.unusedSimpArgs false
set_option maxRecDepth 20000
set_option maxHeartbeats 4000000

/-- The document's shelf, from without. -/
structure ShH (w : World) (sb dl : Nat) (a : Option Addr) (n c : Nat) (C : List Ce) : Prop where
  row : (Res.row sb [.int .i64 (dl : Int), .slice a n c] 29).holds w
  len : n = C.length
  sl : SlR w a n (C.flatMap cC)
theorem ShH.fram {w w' : World} {sb dl : Nat} {a : Option Addr} {n c : Nat} {C : List Ce} (h : ShH w sb dl a n c C) (hf : Fram Non w w') : ShH w' sb dl a n c C := ⟨row_at h.row hf, h.len, SlR.fram h.sl hf⟩
theorem ShH.of {w0 w : World} {M : Nat → Prop} {L : List Res} {sb dl : Nat} {a : Option Addr} {n c : Nat} {C : List Ce} (h : Hp w0 M (Res.row sb [.int .i64 (dl : Int), .slice a n c] 29 :: Res.own 66 6 (.slice a n c) n (C.flatMap cC) :: L) w) : ShH w sb dl a n c C :=
  ⟨h.get0, (own_flat (f := cC) (sz := 6) (fun _ => rfl) (by decide) h.get1).symm, SlR.own h.get1⟩
theorem before_c (a b : GTag) (w : World) :
    Calls Try.prog 30 #[GTag.val a, GTag.val b] w (fun r_ w' => ∃ f_, r_ = .returned (.bool f_) ∧ Bp f_ (tlt a b) ∧ Fram Non w w') := by
  refine calls_of Try.func30 rfl 24 rfl (by simp) ?_
  have hp0 := Hp.init w
  have he0 : List.map (env0 [GTag.val a, GTag.val b]) [0, 1] = [GTag.val a, GTag.val b] := by kernel_rfl
  obtain ⟨b0, he0⟩ := toMk he0
  rw [he0]
  clear he0
  refine WP.seq ?_
  refine WP.region _ rfl (by kernel_rfl) ?_
  refine OPS.cons (opStep.box hp0 [.int .i64 a.Count, .int .i64 a.Client] (by kernel_rfl) (fun g3 w1 hp2 => ?_))
  refine OPS.cons (opStep.box hp2 [.int .i64 b.Count, .int .i64 b.Client] (by kernel_rfl) (fun g6 w4 hp5 => ?_))
  refine OPS.batch 1 {} [] [2, 3] [.pointer (some ⟨g3, 0, none⟩), .pointer (some ⟨g6, 0, none⟩)] .nil (by kernel_rfl) (fun b7 => ?_)
  refine OPS.nil ?_
  refine thn_n ?_
  refine WP.cut (fun e22 w23 => ∃ (x20 : Bool), (True) ∧ Bp x20 (((a.Count < b.Count)) ∨ ((¬ (a.Count < b.Count)) ∧ (a.Count = b.Count) ∧ (a.Client < b.Client))) ∧ List.map e22 [4] = [.bool x20] ∧ Hp w Non [Res.row g6 [.int .i64 b.Count, .int .i64 b.Client] 31, Res.row g3 [.int .i64 a.Count, .int .i64 a.Client] 31] w23) ?_ ?_
  · refine WP.region _ rfl (by kernel_rfl) ?_
    refine OPS.batch 6 {} [.int .i64 a.Count, .int .i64 b.Count] [2, 3, 10] [.pointer (some ⟨g3, 0, none⟩), .pointer (some ⟨g6, 0, none⟩), .bool (decide (a.Count < b.Count))] (.cons (Ld.row1 (P := Try.prog) (t := 2) (o := 0) (v := .int .i64 a.Count) hp5.get1 (by kernel_rfl)) (.cons (Ld.row1 (P := Try.prog) (t := 2) (o := 0) (v := .int .i64 b.Count) hp5.get0 (by kernel_rfl)) .nil)) (by kernel_rfl) (fun b9 => ?_)
    by_cases h10 : a.Count < b.Count
    · refine OPS.batch 0 {} [] [2, 3, 10] [.pointer (some ⟨g3, 0, none⟩), .pointer (some ⟨g6, 0, none⟩), .bool (decide (a.Count < b.Count))] .nil (by kernel_rfl) (fun b11 => ?_)
      refine OPS.re [.pointer (some ⟨g3, 0, none⟩), .pointer (some ⟨g6, 0, none⟩), .bool true] (by rw [show (decide (a.Count < b.Count)) = true from Bp.dec.tt h10]) ?_
      refine OPS.batch 14 { wraps := [23] } [] [4] [.bool true] .nil (by kernel_rfl) (fun b12 => ?_)
      refine OPS.nil ?_
      refine thn_n ?_
      exact ⟨true, trivial, Bp.of Bp.t (by first | (simp only [h10, iff_false, false_iff, iff_true, true_iff, Classical.not_not, and_true, true_and, and_false, false_and, or_true, true_or, or_false, false_or, not_true_eq_false, not_false_eq_true, and_self, or_self, iff_self]; done) | (simp [h10]; done) | grind | (simp_all; done)), by kernel_rfl, hp5⟩
    · refine OPS.batch 0 {} [] [2, 3, 10] [.pointer (some ⟨g3, 0, none⟩), .pointer (some ⟨g6, 0, none⟩), .bool (decide (a.Count < b.Count))] .nil (by kernel_rfl) (fun b13 => ?_)
      refine OPS.re [.pointer (some ⟨g3, 0, none⟩), .pointer (some ⟨g6, 0, none⟩), .bool false] (by rw [show (decide (a.Count < b.Count)) = false from Bp.dec.ff h10]) ?_
      refine OPS.batch 6 {} [.int .i64 a.Count, .int .i64 b.Count] [2, 3, 10, 16] [.pointer (some ⟨g3, 0, none⟩), .pointer (some ⟨g6, 0, none⟩), .bool false, .bool (decide (a.Count = b.Count))] (.cons (Ld.row1 (P := Try.prog) (t := 2) (o := 0) (v := .int .i64 a.Count) hp5.get1 (by kernel_rfl)) (.cons (Ld.row1 (P := Try.prog) (t := 2) (o := 0) (v := .int .i64 b.Count) hp5.get0 (by kernel_rfl)) .nil)) (by kernel_rfl) (fun b14 => ?_)
      by_cases h15 : a.Count = b.Count
      · refine OPS.batch 0 {} [] [2, 3, 10, 16] [.pointer (some ⟨g3, 0, none⟩), .pointer (some ⟨g6, 0, none⟩), .bool false, .bool (decide (a.Count = b.Count))] .nil (by kernel_rfl) (fun b16 => ?_)
        refine OPS.re [.pointer (some ⟨g3, 0, none⟩), .pointer (some ⟨g6, 0, none⟩), .bool false, .bool true] (by rw [show (decide (a.Count = b.Count)) = true from Bp.dec.tt h15]) ?_
        refine OPS.batch 8 { wraps := [22, 23] } [.int .i64 a.Client, .int .i64 b.Client] [4] [.bool (decide (a.Client < b.Client))] (.cons (Ld.row1 (P := Try.prog) (t := 3) (o := 1) (v := .int .i64 a.Client) hp5.get1 (by kernel_rfl)) (.cons (Ld.row1 (P := Try.prog) (t := 3) (o := 1) (v := .int .i64 b.Client) hp5.get0 (by kernel_rfl)) .nil)) (by kernel_rfl) (fun b17 => ?_)
        refine OPS.nil ?_
        refine thn_n ?_
        exact ⟨decide (a.Client < b.Client), trivial, Bp.of Bp.dec (by first | (simp only [h10, h15, iff_false, false_iff, iff_true, true_iff, Classical.not_not, and_true, true_and, and_false, false_and, or_true, true_or, or_false, false_or, not_true_eq_false, not_false_eq_true, and_self, or_self, iff_self]; done) | (simp [h10, h15]; done) | grind | (simp_all; done)), by kernel_rfl, hp5⟩
      · refine OPS.batch 0 {} [] [2, 3, 10, 16] [.pointer (some ⟨g3, 0, none⟩), .pointer (some ⟨g6, 0, none⟩), .bool false, .bool (decide (a.Count = b.Count))] .nil (by kernel_rfl) (fun b18 => ?_)
        refine OPS.re [.pointer (some ⟨g3, 0, none⟩), .pointer (some ⟨g6, 0, none⟩), .bool false, .bool false] (by rw [show (decide (a.Count = b.Count)) = false from Bp.dec.ff h15]) ?_
        refine OPS.batch 8 { wraps := [22, 23] } [] [4] [.bool false] .nil (by kernel_rfl) (fun b19 => ?_)
        refine OPS.nil ?_
        refine thn_n ?_
        exact ⟨false, trivial, Bp.of Bp.f (by first | (simp only [h10, h15, iff_false, false_iff, iff_true, true_iff, Classical.not_not, and_true, true_and, and_false, false_and, or_true, true_or, or_false, false_or, not_true_eq_false, not_false_eq_true, and_self, or_self, iff_self]; done) | (simp [h10, h15]; done) | grind | (simp_all; done)), by kernel_rfl, hp5⟩
  rintro e22 w23 ⟨x20, hd25, hb21, hE26, hp24⟩
  obtain ⟨b27, rfl⟩ := toMk hE26
  clear hE26
  clear hd25
  refine WP.ret ?_
  refine bodyQ.of _ rfl [.bool x20] ⟨rfl, trivial⟩ ?_
  exact ⟨_, rfl, Bp.of hb21 (by unfold tlt; skip; first | omega | grind | (simp_all; done)), hp24.fr⟩

theorem finals_c (sb dl : Nat) (a : Option Addr) (n c : Nat) (C : List Ce) (w : World) (hS : ShH w sb dl a n c C) (hb : C.length ≤ 1048600) (key : ByteArray) :
    Calls Try.prog 34 #[.pointer (some ⟨sb, 0, none⟩), .string key] w (fun r_ w' => ∃ a n c, r_ = .returned (.slice a n c) ∧ Hp w Non [Res.own 31 2 (.slice a n c) n ((finD C key).flatMap GTag.cells)] w') := by
  have hln := hS.len
  refine calls_of Try.func34 rfl 70 rfl (by simp) ?_
  have hp0 := Hp.init w
  have he0 : List.map (env0 [.pointer (some ⟨sb, 0, none⟩), .string key]) [0, 1] = [.pointer (some ⟨sb, 0, none⟩), .string key] := by kernel_rfl
  obtain ⟨b0, he0⟩ := toMk he0
  rw [he0]
  clear he0
  refine WP.seq ?_
  refine WP.pure {} [] [0, 1] [.pointer (some ⟨sb, 0, none⟩), .string key] .nil (by kernel_rfl) (fun b1 => ?_)
  refine thn_n ?_
  refine WP.seq ?_
  refine WP.pure {} [] [0, 1, 5] [.pointer (some ⟨sb, 0, none⟩), .string key, .slice none 0 0] .nil (by kernel_rfl) (fun b2 => ?_)
  refine thn_n ?_
  refine WP.seq ?_
  refine WP.seq ?_
  refine WP.pure {} [.slice a n c] [1, 5, 12, 13, 14] [.string key, .slice none 0 0, .slice a n c, .int .i64 ((n : Nat) : Int), .int .i64 0] (.cons (Ld.row1 (P := Try.prog) (t := 27) (o := 1) (v := .slice a n c) (hS.fram hp0.fr).row (by kernel_rfl)) .nil) (by kernel_rfl) (fun b3 => ?_)
  refine thn_n ?_
  refine WP.block ?_
  have hp4 := (show Hp w Non [Res.own 31 2 (.slice none 0 0) 0 (List.flatMap GTag.cells ([] : List GTag))] w from hp0.nilOwn 31 2)
  refine WP.loop (fun mz_ e5 w6 => ∃ (i : Nat) (xs : List GTag) (ao : Option Addr) (no : Nat) (co : Nat), mz_ = C.length - i ∧ (i ≤ C.length ∧ xs.length ≤ i ∧ FsI C key i xs) ∧ List.map e5 [1, 5, 12, 13, 14] = [.string key, .slice ao no co, .slice a n c, .int .i64 ((n : Nat) : Int), .int .i64 (i : Int)] ∧ Hp w Non [Res.own 31 2 (.slice ao no co) no (List.flatMap GTag.cells xs)] w6) (C.length - (0)) ⟨0, [], none, 0, 0, rfl, ⟨Nat.zero_le _, Nat.le_refl _, List.Perm.refl _, List.Pairwise.nil⟩, by kernel_rfl, hp4⟩ ?_
  rintro _ e5 w6 ⟨i, xs, ao, no, co, rfl, hI8, hE9, hp7⟩
  obtain ⟨b10, rfl⟩ := toMk hE9
  clear hE9
  obtain ⟨pa, pb, pc⟩ := hI8
  have pe := own_flat (f := GTag.cells) (sz := 2) (fun _ => rfl) (by decide) hp7.get0
  refine WP.seq ?_
  refine WP.pure {} [] [1, 5, 12, 13, 14, 15] [.string key, .slice ao no co, .slice a n c, .int .i64 ((n : Nat) : Int), .int .i64 (i : Int), .bool (decide ((i : Int) < ((n : Nat) : Int)))] .nil (by kernel_rfl) (fun b11 => ?_)
  refine thn_n ?_
  refine WP.seq ?_
  refine WP.test (p := (i : Int) < ((n : Nat) : Int)) rfl Bp.dec (fun h12 => ?_) (fun h12 => ?_)
  · refine WP.skip ?_
    refine thn_n ?_
    refine WP.seq ?_
    refine WP.block ?_
    refine WP.seq ?_
    refine WP.region _ rfl (by kernel_rfl) ?_
    have hy16 : (C)[i]? = some C[i]! := get_bang (by first | (omega) | (simp only [List.length_append, List.length_cons, List.length_nil]; omega) | (simp only [List.length_take, List.length_append, List.length_cons, List.length_nil]; omega))
    refine OPS.batch 2 {} [Gsherdtop_cell.val (C[i]!.c)] [1, 5, 12, 13, 14, 17] [.string key, .slice ao no co, .slice a n c, .int .i64 ((n : Nat) : Int), .int .i64 (i : Int), Gsherdtop_cell.val (C[i]!.c)] (.cons (show InB ((i : Int)) (n) from ⟨by omega, by omega⟩) (.cons (((hS.fram hp7.fr).sl).some (by omega)) (.cons (Ld.add0 (Ld.elN (P := Try.prog) (t := 66) ((hS.fram hp7.fr).sl).rd 6 (fun _ => rfl) hy16 (o := 0) (cs := [.string (C[i]!.c.key), .int .i64 (C[i]!.c.e.Tag.Count), .int .i64 (C[i]!.c.e.Tag.Client), .bool (C[i]!.c.e.Fin), .bool (C[i]!.c.e.Has), .slice (C[i]!.c.e.Data.a) (C[i]!.c.e.Data.n) (C[i]!.c.e.Data.c)]) (by kernel_rfl))) .nil))) (by kernel_rfl) (fun b17 => ?_)
    refine OPS.cons (opStep.alloc hp7 [.string ByteArray.empty, .int .i64 0, .int .i64 0, .bool false, .bool false, .slice none 0 0] (by kernel_rfl) (fun g20 w18 hp19 => ?_))
    refine OPS.cons (opStep.store0 hp19 rfl [.string (C[i]!.c.key), .int .i64 (C[i]!.c.e.Tag.Count), .int .i64 (C[i]!.c.e.Tag.Client), .bool (C[i]!.c.e.Fin), .bool (C[i]!.c.e.Has), .slice (C[i]!.c.e.Data.a) (C[i]!.c.e.Data.n) (C[i]!.c.e.Data.c)] [.string (C[i]!.c.key), .int .i64 (C[i]!.c.e.Tag.Count), .int .i64 (C[i]!.c.e.Tag.Client), .bool (C[i]!.c.e.Fin), .bool (C[i]!.c.e.Has), .slice (C[i]!.c.e.Data.a) (C[i]!.c.e.Data.n) (C[i]!.c.e.Data.c)] (by kernel_rfl) (fun w21 hp22 => ?_))
    refine OPS.nil ?_
    refine thn_n ?_
    refine WP.cut (fun e32 w33 => ∃ (x30 : Bool), (True) ∧ Bp x30 (((C[i]!.c.key) = key) ∧ ((C[i]!.c.e.Fin) = true)) ∧ List.map e32 [1, 5, 7, 12, 13, 14, 26] = [.string key, .slice ao no co, .pointer (some ⟨g20, 0, none⟩), .slice a n c, .int .i64 ((n : Nat) : Int), .int .i64 (i : Int), .bool x30] ∧ Hp w Non [Res.row g20 [.string (C[i]!.c.key), .int .i64 (C[i]!.c.e.Tag.Count), .int .i64 (C[i]!.c.e.Tag.Client), .bool (C[i]!.c.e.Fin), .bool (C[i]!.c.e.Has), .slice (C[i]!.c.e.Data.a) (C[i]!.c.e.Data.n) (C[i]!.c.e.Data.c)] 66, Res.own 31 2 (.slice ao no co) no (List.flatMap GTag.cells xs)] w33) ?_ ?_
    · refine WP.region _ rfl (by kernel_rfl) ?_
      refine OPS.batch 5 {} [.string (C[i]!.c.key)] [1, 5, 7, 12, 13, 14, 22] [.string key, .slice ao no co, .pointer (some ⟨g20, 0, none⟩), .slice a n c, .int .i64 ((n : Nat) : Int), .int .i64 (i : Int), .bool (decide ((C[i]!.c.key) = key))] (.cons (Ld.row1 (P := Try.prog) (t := 9) (o := 0) (v := .string (C[i]!.c.key)) hp22.get0 (by kernel_rfl)) .nil) (by kernel_rfl) (fun b24 => ?_)
      by_cases h25 : (C[i]!.c.key) = key
      · refine OPS.batch 0 {} [] [1, 5, 7, 12, 13, 14, 22] [.string key, .slice ao no co, .pointer (some ⟨g20, 0, none⟩), .slice a n c, .int .i64 ((n : Nat) : Int), .int .i64 (i : Int), .bool (decide ((C[i]!.c.key) = key))] .nil (by kernel_rfl) (fun b26 => ?_)
        refine OPS.re [.string key, .slice ao no co, .pointer (some ⟨g20, 0, none⟩), .slice a n c, .int .i64 ((n : Nat) : Int), .int .i64 (i : Int), .bool true] (by rw [show (decide ((C[i]!.c.key) = key)) = true from Bp.dec.tt h25]) ?_
        refine OPS.batch 4 { wraps := [26] } [.bool (C[i]!.c.e.Fin)] [1, 5, 7, 12, 13, 14, 26] [.string key, .slice ao no co, .pointer (some ⟨g20, 0, none⟩), .slice a n c, .int .i64 ((n : Nat) : Int), .int .i64 (i : Int), .bool (C[i]!.c.e.Fin)] (.cons (Ld.row1 (P := Try.prog) (t := 4) (o := 3) (v := .bool (C[i]!.c.e.Fin)) hp22.get0 (by kernel_rfl)) .nil) (by kernel_rfl) (fun b27 => ?_)
        refine OPS.nil ?_
        refine thn_n ?_
        exact ⟨C[i]!.c.e.Fin, trivial, Bp.of Bp.var (by first | (simp only [h25, iff_false, false_iff, iff_true, true_iff, Classical.not_not, and_true, true_and, and_false, false_and, or_true, true_or, or_false, false_or, not_true_eq_false, not_false_eq_true, and_self, or_self, iff_self]; done) | (simp [h25]; done) | grind | (simp_all; done)), by kernel_rfl, hp22⟩
      · refine OPS.batch 0 {} [] [1, 5, 7, 12, 13, 14, 22] [.string key, .slice ao no co, .pointer (some ⟨g20, 0, none⟩), .slice a n c, .int .i64 ((n : Nat) : Int), .int .i64 (i : Int), .bool (decide ((C[i]!.c.key) = key))] .nil (by kernel_rfl) (fun b28 => ?_)
        refine OPS.re [.string key, .slice ao no co, .pointer (some ⟨g20, 0, none⟩), .slice a n c, .int .i64 ((n : Nat) : Int), .int .i64 (i : Int), .bool false] (by rw [show (decide ((C[i]!.c.key) = key)) = false from Bp.dec.ff h25]) ?_
        refine OPS.batch 4 { wraps := [26] } [] [1, 5, 7, 12, 13, 14, 26] [.string key, .slice ao no co, .pointer (some ⟨g20, 0, none⟩), .slice a n c, .int .i64 ((n : Nat) : Int), .int .i64 (i : Int), .bool false] .nil (by kernel_rfl) (fun b29 => ?_)
        refine OPS.nil ?_
        refine thn_n ?_
        exact ⟨false, trivial, Bp.of Bp.f (by first | (simp only [h25, iff_false, false_iff, iff_true, true_iff, Classical.not_not, and_true, true_and, and_false, false_and, or_true, true_or, or_false, false_or, not_true_eq_false, not_false_eq_true, and_self, or_self, iff_self]; done) | (simp [h25]; done) | grind | (simp_all; done)), by kernel_rfl, hp22⟩
    rintro e32 w33 ⟨x30, hd35, hb31, hE36, hp34⟩
    obtain ⟨b37, rfl⟩ := toMk hE36
    clear hE36
    clear hd35
    refine WP.test (p := ((C[i]!.c.key) = key) ∧ ((C[i]!.c.e.Fin) = true)) rfl hb31 (fun h38 => ?_) (fun h38 => ?_)
    · refine WP.seq ?_
      refine WP.region _ rfl (by kernel_rfl) ?_
      refine OPS.batch 4 {} [.agg #[.int .i64 (C[i]!.c.e.Tag.Count), .int .i64 (C[i]!.c.e.Tag.Client)]] [1, 12, 13, 14, 27, 30] [.string key, .slice a n c, .int .i64 ((n : Nat) : Int), .int .i64 (i : Int), .slice ao no co, .agg #[.int .i64 (C[i]!.c.e.Tag.Count), .int .i64 (C[i]!.c.e.Tag.Client)]] (.cons (show Ld Try.prog w33 31 ⟨g20, 1, none⟩ (.agg #[.int .i64 (C[i]!.c.e.Tag.Count), .int .i64 (C[i]!.c.e.Tag.Client)]) from Ld.rowN (cs := [.int .i64 (C[i]!.c.e.Tag.Count), .int .i64 (C[i]!.c.e.Tag.Client)]) hp34.get0 (by kernel_rfl)) .nil) (by kernel_rfl) (fun b39 => ?_)
      refine OPS.cons (opStep.buildSlice (E := 31) hp34 [.int .i64 (C[i]!.c.e.Tag.Count), .int .i64 (C[i]!.c.e.Tag.Client)] (by kernel_rfl) (fun g42 w40 hp41 => ?_))
      refine OPS.cons (opStep.append2 [.int .i64 (C[i]!.c.e.Tag.Count), .int .i64 (C[i]!.c.e.Tag.Client)] hp41 16 (by kernel_rfl) rfl rfl rfl (SlR.row (n := 1) hp41.get0 rfl).rd (List.all_eq_true.1 (by kernel_rfl)) (by decide) (by omega) (by omega) (fun a45 c46 w47 hp48 hn49 => ?_))
      rw [(show List.flatMap GTag.cells xs ++ [.int .i64 (C[i]!.c.e.Tag.Count), .int .i64 (C[i]!.c.e.Tag.Client)] = List.flatMap GTag.cells (xs ++ [(⟨C[i]!.c.e.Tag.Count, C[i]!.c.e.Tag.Client⟩ : GTag)]) from (List.flatMap_append (xs := xs) (ys := [(⟨C[i]!.c.e.Tag.Count, C[i]!.c.e.Tag.Client⟩ : GTag)])).symm)] at hp48
      refine OPS.batch 1 {} [] [1, 5, 12, 13, 14] [.string key, .slice a45 (no + 1) c46, .slice a n c, .int .i64 ((n : Nat) : Int), .int .i64 (i : Int)] .nil (by kernel_rfl) (fun b50 => ?_)
      refine OPS.nil ?_
      refine thn_n ?_
      refine WP.seq ?_
      refine WP.pure { subs := [35] } [.int .i64 ((no : Nat) : Int)] [1, 5, 8, 12, 13, 14] [.string key, .slice a45 (no + 1) c46, .int .i64 ((no : Nat) : Int), .slice a n c, .int .i64 ((n : Nat) : Int), .int .i64 (i : Int)] (.cons (show Rng .i64 (((no + 1 : Nat) : Int) - 1) from Rng.i64 (by omega)) (.cons (show (.int .i64 (((no + 1 : Nat) : Int) - 1) : Go.Value) = .int .i64 ((no : Nat) : Int) from congrArg (Value.int .i64) ((show ((no + 1 : Nat) : Int) - 1 = ((no : Nat) : Int) from by omega))) .nil)) (by kernel_rfl) (fun b51 => ?_)
      refine thn_n ?_
      refine WP.block ?_
      refine WP.loop (fun mz_ e52 w53 => ∃ (j : Nat) (ys : List GTag), mz_ = 0 + j ∧ (FnI xs C[i]!.c.e.Tag ys j ∧ True) ∧ List.map e52 [1, 5, 8, 12, 13, 14] = [.string key, .slice a45 (no + 1) c46, .int .i64 ((j : Nat) : Int), .slice a n c, .int .i64 ((n : Nat) : Int), .int .i64 (i : Int)] ∧ Hp w Non [Res.own 31 2 (.slice a45 (no + 1) c46) (no + 1) (List.flatMap GTag.cells ys)] w53) (0 + (no)) ⟨no, xs ++ [(⟨C[i]!.c.e.Tag.Count, C[i]!.c.e.Tag.Client⟩ : GTag)], rfl, ⟨by rw [← pe]; exact fn_start pc.2, trivial⟩, by kernel_rfl, (hp48.sub (.cons _ (.cons _ (.cons_cons _ (.slnil)))))⟩ ?_
      rintro _ e52 w53 ⟨j, ys, rfl, hI55, hE56, hp54⟩
      obtain ⟨b57, rfl⟩ := toMk hE56
      clear hE56
      obtain ⟨qa, _⟩ := hI55
      have qe := own_flat (f := GTag.cells) (sz := 2) (fun _ => rfl) (by decide) hp54.get0
      have qj := qa.2.1
      refine WP.seq ?_
      refine WP.cut (fun e89 w90 => ∃ (x87 : Bool), (True) ∧ Bp x87 ((0 < ((j : Nat) : Int)) ∧ (tlt (ys[(j - 1)]!) (ys[j]!))) ∧ List.map e89 [1, 5, 8, 12, 13, 14, 49] = [.string key, .slice a45 (no + 1) c46, .int .i64 ((j : Nat) : Int), .slice a n c, .int .i64 ((n : Nat) : Int), .int .i64 (i : Int), .bool x87] ∧ Hp w Non [Res.own 31 2 (.slice a45 (no + 1) c46) (no + 1) (List.flatMap GTag.cells ys)] w90) ?_ ?_
      · have hp61 := hp54.drew
        refine WP.quiet (fun w59 => Hp w Non [Res.own 31 2 (.slice a45 (no + 1) c46) (no + 1) (List.flatMap GTag.cells ys)] w59) (by kernel_rfl) hp61 ?_
        have hnehp61 : ∃ wz_, (fun w59 => Hp w Non [Res.own 31 2 (.slice a45 (no + 1) c46) (no + 1) (List.flatMap GTag.cells ys)] w59) wz_ := ⟨_, hp61⟩
        refine QOPS.batch 3 {} [] [1, 5, 8, 12, 13, 14, 38] [.string key, .slice a45 (no + 1) c46, .int .i64 ((j : Nat) : Int), .slice a n c, .int .i64 ((n : Nat) : Int), .int .i64 (i : Int), .bool (decide (0 < ((j : Nat) : Int)))] hnehp61 (fun w62 hp63 => QB.mk .nil (by kernel_rfl)) (fun b64 => ?_)
        by_cases h65 : 0 < ((j : Nat) : Int)
        · refine QOPS.batch 0 {} [] [1, 5, 8, 12, 13, 14, 38] [.string key, .slice a45 (no + 1) c46, .int .i64 ((j : Nat) : Int), .slice a n c, .int .i64 ((n : Nat) : Int), .int .i64 (i : Int), .bool (decide (0 < ((j : Nat) : Int)))] hnehp61 (fun _ _ => QB.mk .nil (by kernel_rfl)) (fun b66 => ?_)
          refine QOPS.re [.string key, .slice a45 (no + 1) c46, .int .i64 ((j : Nat) : Int), .slice a n c, .int .i64 ((n : Nat) : Int), .int .i64 (i : Int), .bool true] (by rw [show (decide (0 < ((j : Nat) : Int))) = true from Bp.dec.tt h65]) ?_
          have := own_flat (sz := 2) (fun _ => rfl) (by decide) hp61.get0
          have hy70 : (ys)[(j - 1)]? = some ys[(j - 1)]! := get_bang (by first | (omega) | (simp only [List.length_append, List.length_cons, List.length_nil]; omega) | (simp only [List.length_take, List.length_append, List.length_cons, List.length_nil]; omega))
          have := own_flat (sz := 2) (fun _ => rfl) (by decide) hp61.get0
          have hy72 : (ys)[j]? = some ys[j]! := get_bang (by first | (omega) | (simp only [List.length_append, List.length_cons, List.length_nil]; omega) | (simp only [List.length_take, List.length_append, List.length_cons, List.length_nil]; omega))
          refine QOPS.batch 9 { subs := [41] } [.int .i64 ((j - 1 : Nat) : Int), GTag.val (ys[(j - 1)]!), GTag.val (ys[j]!)] [1, 5, 8, 12, 13, 14, 38, 43, 47] [.string key, .slice a45 (no + 1) c46, .int .i64 ((j : Nat) : Int), .slice a n c, .int .i64 ((n : Nat) : Int), .int .i64 (i : Int), .bool true, GTag.val (ys[(j - 1)]!), GTag.val (ys[j]!)] hnehp61 (fun w67 hp68 => QB.mk (.cons (show Rng .i64 (((j : Nat) : Int) - 1) from Rng.i64 (by omega)) (.cons (show (.int .i64 (((j : Nat) : Int) - 1) : Go.Value) = .int .i64 ((j - 1 : Nat) : Int) from congrArg (Value.int .i64) ((show ((j : Nat) : Int) - 1 = ((j - 1 : Nat) : Int) from by omega))) (.cons (show InB (((j - 1 : Nat) : Int)) (no + 1) from ⟨by omega, by omega⟩) (.cons ((SlR.own (hp68.get0)).some (by omega)) (.cons (Ld.add0 (Ld.elN (P := Try.prog) (t := 31) (SlR.own (hp68.get0)).rd 2 (fun _ => rfl) hy70 (o := 0) (cs := [.int .i64 (ys[(j - 1)]!.Count), .int .i64 (ys[(j - 1)]!.Client)]) (by kernel_rfl))) (.cons (show InB (((j : Nat) : Int)) (no + 1) from ⟨by omega, by omega⟩) (.cons ((SlR.own (hp68.get0)).some (by omega)) (.cons (Ld.add0 (Ld.elN (P := Try.prog) (t := 31) (SlR.own (hp68.get0)).rd 2 (fun _ => rfl) hy72 (o := 0) (cs := [.int .i64 (ys[j]!.Count), .int .i64 (ys[j]!.Client)]) (by kernel_rfl))) .nil)))))))) (by kernel_rfl)) (fun b73 => ?_)
          refine QOPS.call (some 48) [GTag.val (ys[(j - 1)]!), GTag.val (ys[j]!)] (by kernel_rfl) (fun w74 hp75 => (before_c (ys[(j - 1)]!) (ys[j]!) _).mono fun _ _ h => by obtain ⟨b, h1, h2, h3⟩ := h; exact ⟨by rw [h1, h2.eq_bo], hp75.step h3⟩) ?_
          refine QOPS.batch 1 { wraps := [49] } [] [1, 5, 8, 12, 13, 14, 49] [.string key, .slice a45 (no + 1) c46, .int .i64 ((j : Nat) : Int), .slice a n c, .int .i64 ((n : Nat) : Int), .int .i64 (i : Int), .bool (bo (tlt (ys[(j - 1)]!) (ys[j]!)))] hnehp61 (fun w76 hp77 => QB.mk .nil (by kernel_rfl)) (fun b78 => ?_)
          refine QOPS.nil (fun w79 hp80 => ?_)
          refine thn_n ?_
          exact ⟨bo (tlt (ys[(j - 1)]!) (ys[j]!)), trivial, Bp.of Bp.bo (by first | (simp only [h65, iff_false, false_iff, iff_true, true_iff, Classical.not_not, and_true, true_and, and_false, false_and, or_true, true_or, or_false, false_or, not_true_eq_false, not_false_eq_true, and_self, or_self, iff_self]; done) | (simp [h65]; done) | grind | (simp_all; done)), by kernel_rfl, hp80⟩
        · refine QOPS.batch 0 {} [] [1, 5, 8, 12, 13, 14, 38] [.string key, .slice a45 (no + 1) c46, .int .i64 ((j : Nat) : Int), .slice a n c, .int .i64 ((n : Nat) : Int), .int .i64 (i : Int), .bool (decide (0 < ((j : Nat) : Int)))] hnehp61 (fun _ _ => QB.mk .nil (by kernel_rfl)) (fun b81 => ?_)
          refine QOPS.re [.string key, .slice a45 (no + 1) c46, .int .i64 ((j : Nat) : Int), .slice a n c, .int .i64 ((n : Nat) : Int), .int .i64 (i : Int), .bool false] (by rw [show (decide (0 < ((j : Nat) : Int))) = false from Bp.dec.ff h65]) ?_
          refine QOPS.batch 11 { wraps := [49] } [] [1, 5, 8, 12, 13, 14, 49] [.string key, .slice a45 (no + 1) c46, .int .i64 ((j : Nat) : Int), .slice a n c, .int .i64 ((n : Nat) : Int), .int .i64 (i : Int), .bool false] hnehp61 (fun w82 hp83 => QB.mk .nil (by kernel_rfl)) (fun b84 => ?_)
          refine QOPS.nil (fun w85 hp86 => ?_)
          refine thn_n ?_
          exact ⟨false, trivial, Bp.of Bp.f (by first | (simp only [h65, iff_false, false_iff, iff_true, true_iff, Classical.not_not, and_true, true_and, and_false, false_and, or_true, true_or, or_false, false_or, not_true_eq_false, not_false_eq_true, and_self, or_self, iff_self]; done) | (simp [h65]; done) | grind | (simp_all; done)), by kernel_rfl, hp86⟩
      rintro e89 w90 ⟨x87, hd92, hb88, hE93, hp91⟩
      obtain ⟨b94, rfl⟩ := toMk hE93
      clear hE93
      clear hd92
      refine WP.test (p := (0 < ((j : Nat) : Int)) ∧ (tlt (ys[(j - 1)]!) (ys[j]!))) rfl hb88 (fun h95 => ?_) (fun h95 => ?_)
      · refine WP.skip ?_
        refine thn_n ?_
        refine WP.seq ?_
        refine WP.block ?_
        have hp96 := hp91.drew
        refine WP.tree (fun w97 => True) [] 18 (np_blk (np_thn (np_thn (np_blk (np_blk (np_thn (np_thn (np_blk (np_thn np_body))))))))) (by kernel_rfl) ?_
        refine HT.pre (l := [(0, true), (1, true), (2, true), (3, true), (4, true), (5, true), (6, true), (7, true), (8, true), (10, true), (11, true), (12, true)]) (n := 6) (by kernel_rfl) ?_
        refine HOPS.take 12 { subs := [56, 59] } [.int .i64 ((j - 1 : Nat) : Int), .int .i64 ((j - 1 : Nat) : Int)] [1, 5, 8, 12, 13, 14, 52, 53, 54, 56, 60, 64] [.string key, .slice a45 (no + 1) c46, .int .i64 ((j : Nat) : Int), .slice a n c, .int .i64 ((n : Nat) : Int), .int .i64 (i : Int), .slice a45 (no + 1) c46, .int .i64 ((j : Nat) : Int), .slice a45 (no + 1) c46, .int .i64 ((j - 1 : Nat) : Int), .pointer (some ((adr a45).add ((j - 1) * 2))), .pointer (some ((adr a45).add (j * 2)))] (by kernel_rfl) trivial (fun w98 hS99 => QB.mk (.cons (show Rng .i64 (((j : Nat) : Int) - 1) from Rng.i64 (by omega)) (.cons (show (.int .i64 (((j : Nat) : Int) - 1) : Go.Value) = .int .i64 ((j - 1 : Nat) : Int) from congrArg (Value.int .i64) ((show ((j : Nat) : Int) - 1 = ((j - 1 : Nat) : Int) from by omega))) (.cons (show Rng .i64 (((j : Nat) : Int) - 1) from Rng.i64 (by omega)) (.cons (show (.int .i64 (((j : Nat) : Int) - 1) : Go.Value) = .int .i64 ((j - 1 : Nat) : Int) from congrArg (Value.int .i64) ((show ((j : Nat) : Int) - 1 = ((j - 1 : Nat) : Int) from by omega))) (.cons (show InB (((j - 1 : Nat) : Int)) (no + 1) from ⟨by omega, by omega⟩) (.cons ((SlR.own (hp96.get0)).some (by omega)) (.cons (show InB (((j : Nat) : Int)) (no + 1) from ⟨by omega, by omega⟩) (.cons ((SlR.own (hp96.get0)).some (by omega)) .nil)))))))) (by kernel_rfl)) (fun b100 => ?_)
        refine HOPS.nil (QN.n ?_)
        refine HT.br (n := 5) [9, 13] (by kernel_rfl) (by simp) ?_
        refine AllR.cons _ rfl ?_ ?_
        · have := own_flat (sz := 2) (fun _ => rfl) (by decide) hp96.get0
          have hy104 : (ys)[(j - 1)]? = some ys[(j - 1)]! := get_bang (by first | (omega) | (simp only [List.length_append, List.length_cons, List.length_nil]; omega) | (simp only [List.length_take, List.length_append, List.length_cons, List.length_nil]; omega))
          refine (opStep.loadV (a := (adr a45).add ((j - 1) * 2)) (v := GTag.val (ys[(j - 1)]!)) (by kernel_rfl) ((Ld.add0 (Ld.elN (P := Try.prog) (t := 31) (SlR.own (hp96.get0)).rd 2 (fun _ => rfl) hy104 (o := 0) (cs := [.int .i64 (ys[(j - 1)]!.Count), .int .i64 (ys[(j - 1)]!.Client)]) (by kernel_rfl)))) ?_)
          refine ⟨.inr trivial, ?_⟩
          refine HT.br (n := 4) [13] (by kernel_rfl) (by simp) ?_
          refine AllR.cons _ rfl ?_ AllR.nil
          have := own_flat (sz := 2) (fun _ => rfl) (by decide) hp96.get0
          have hy108 : (ys)[j]? = some ys[j]! := get_bang (by first | (omega) | (simp only [List.length_append, List.length_cons, List.length_nil]; omega) | (simp only [List.length_take, List.length_append, List.length_cons, List.length_nil]; omega))
          refine (opStep.loadV (a := (adr a45).add (j * 2)) (v := GTag.val (ys[j]!)) (by kernel_rfl) ((Ld.add0 (Ld.elN (P := Try.prog) (t := 31) (SlR.own (hp96.get0)).rd 2 (fun _ => rfl) hy108 (o := 0) (cs := [.int .i64 (ys[j]!.Count), .int .i64 (ys[j]!.Client)]) (by kernel_rfl)))) ?_)
          refine ⟨.inr trivial, ?_⟩
          refine HT.pre (l := [(14, true)]) (n := 3) (by kernel_rfl) ?_
          refine HOPS.take 1 {} [] [1, 5, 8, 12, 13, 14, 54, 56, 61, 65, 66] [.string key, .slice a45 (no + 1) c46, .int .i64 ((j : Nat) : Int), .slice a n c, .int .i64 ((n : Nat) : Int), .int .i64 (i : Int), .slice a45 (no + 1) c46, .int .i64 ((j - 1 : Nat) : Int), GTag.val (ys[(j - 1)]!), GTag.val (ys[j]!), .pointer (some ((adr a45).add (j * 2)))] (by kernel_rfl) trivial (fun w109 hS110 => QB.mk (.cons (show InB (((j : Nat) : Int)) (no + 1) from ⟨by omega, by omega⟩) (.cons ((SlR.own (hp96.get0)).some (by omega)) .nil)) (by kernel_rfl)) (fun b111 => ?_)
          refine HOPS.nil (QN.n ?_)
          refine HT.br (n := 2) [15] (by kernel_rfl) (by simp) ?_
          refine AllR.cons _ rfl ?_ AllR.nil
          have := own_flat (sz := 2) (fun _ => rfl) (by decide) hp96.get0
          try simp only [List.length_set] at this
          refine (opStep.storeOwn0 (j * 2) hp96 rfl [.int .i64 (ys[(j - 1)]!.Count), .int .i64 (ys[(j - 1)]!.Client)] (by kernel_rfl) (by simp) (show j * 2 + 2 ≤ (no + 1) * 2 by omega) (fun w112 hp113 => ?_))
          have hp114 := hp113
          rw [show ow (List.flatMap GTag.cells ys) (j * 2) [.int .i64 (ys[(j - 1)]!.Count), .int .i64 (ys[(j - 1)]!.Client)] = List.flatMap GTag.cells (ys.set j (⟨ys[(j - 1)]!.Count, ys[(j - 1)]!.Client⟩ : GTag)) from ow_flat (sz := 2) (fun _ => rfl) (by first | (omega) | (simp only [List.length_set]; omega)) (⟨ys[(j - 1)]!.Count, ys[(j - 1)]!.Client⟩ : GTag)] at hp114
          refine ⟨.inr trivial, ?_⟩
          refine HT.pre (l := [(16, true)]) (n := 1) (by kernel_rfl) ?_
          refine HOPS.take 1 {} [] [1, 5, 8, 12, 13, 14, 65, 67] [.string key, .slice a45 (no + 1) c46, .int .i64 ((j : Nat) : Int), .slice a n c, .int .i64 ((n : Nat) : Int), .int .i64 (i : Int), GTag.val (ys[j]!), .pointer (some ((adr a45).add ((j - 1) * 2)))] (by kernel_rfl) trivial (fun w115 hS116 => QB.mk (.cons (show InB (((j - 1 : Nat) : Int)) (no + 1) from ⟨by omega, by omega⟩) (.cons ((SlR.own (hp114.get0)).some (by omega)) .nil)) (by kernel_rfl)) (fun b117 => ?_)
          refine HOPS.nil (QN.n ?_)
          refine HT.br (n := 0) [17] (by kernel_rfl) (by simp) ?_
          refine AllR.cons _ rfl ?_ AllR.nil
          have := own_flat (sz := 2) (fun _ => rfl) (by decide) hp114.get0
          try simp only [List.length_set] at this
          refine (opStep.storeOwn0 ((j - 1) * 2) hp114 rfl [.int .i64 (ys[j]!.Count), .int .i64 (ys[j]!.Client)] (by kernel_rfl) (by simp) (show (j - 1) * 2 + 2 ≤ (no + 1) * 2 by omega) (fun w118 hp119 => ?_))
          have hp120 := hp119
          rw [show ow (List.flatMap GTag.cells (ys.set j (⟨ys[(j - 1)]!.Count, ys[(j - 1)]!.Client⟩ : GTag))) ((j - 1) * 2) [.int .i64 (ys[j]!.Count), .int .i64 (ys[j]!.Client)] = List.flatMap GTag.cells ((ys.set j (⟨ys[(j - 1)]!.Count, ys[(j - 1)]!.Client⟩ : GTag)).set (j - 1) (⟨ys[j]!.Count, ys[j]!.Client⟩ : GTag)) from ow_flat (sz := 2) (fun _ => rfl) (by first | (omega) | (simp only [List.length_set]; omega)) (⟨ys[j]!.Count, ys[j]!.Client⟩ : GTag)] at hp120
          refine ⟨.inr trivial, ?_⟩
          refine HT.done (by kernel_rfl) ?_
          refine blk_n ?_
          refine thn_n ?_
          refine WP.pure { subs := [51] } [.int .i64 ((j - 1 : Nat) : Int)] [1, 5, 8, 12, 13, 14] [.string key, .slice a45 (no + 1) c46, .int .i64 ((j - 1 : Nat) : Int), .slice a n c, .int .i64 ((n : Nat) : Int), .int .i64 (i : Int)] (.cons (show Rng .i64 (((j : Nat) : Int) - 1) from Rng.i64 (by omega)) (.cons (show (.int .i64 (((j : Nat) : Int) - 1) : Go.Value) = .int .i64 ((j - 1 : Nat) : Int) from congrArg (Value.int .i64) ((show ((j : Nat) : Int) - 1 = ((j - 1 : Nat) : Int) from by omega))) .nil)) (by kernel_rfl) (fun b121 => ?_)
          refine thn_n ?_
          have hj0 := h95
          exact ⟨0 + (j - 1), (by omega), j - 1, (ys.set j (⟨ys[(j - 1)]!.Count, ys[(j - 1)]!.Client⟩ : GTag)).set (j - 1) (⟨ys[j]!.Count, ys[j]!.Client⟩ : GTag), rfl, ⟨fn_step qa (by have h_ := h95.1; omega) h95.2, trivial⟩, by kernel_rfl, hp120⟩
        refine AllR.cons _ rfl ?_ AllR.nil
        have := own_flat (sz := 2) (fun _ => rfl) (by decide) hp96.get0
        have hy125 : (ys)[j]? = some ys[j]! := get_bang (by first | (omega) | (simp only [List.length_append, List.length_cons, List.length_nil]; omega) | (simp only [List.length_take, List.length_append, List.length_cons, List.length_nil]; omega))
        refine (opStep.loadV (a := (adr a45).add (j * 2)) (v := GTag.val (ys[j]!)) (by kernel_rfl) ((Ld.add0 (Ld.elN (P := Try.prog) (t := 31) (SlR.own (hp96.get0)).rd 2 (fun _ => rfl) hy125 (o := 0) (cs := [.int .i64 (ys[j]!.Count), .int .i64 (ys[j]!.Client)]) (by kernel_rfl)))) ?_)
        refine ⟨.inr trivial, ?_⟩
        refine HT.br (n := 4) [9] (by kernel_rfl) (by simp) ?_
        refine AllR.cons _ rfl ?_ AllR.nil
        have := own_flat (sz := 2) (fun _ => rfl) (by decide) hp96.get0
        have hy129 : (ys)[(j - 1)]? = some ys[(j - 1)]! := get_bang (by first | (omega) | (simp only [List.length_append, List.length_cons, List.length_nil]; omega) | (simp only [List.length_take, List.length_append, List.length_cons, List.length_nil]; omega))
        refine (opStep.loadV (a := (adr a45).add ((j - 1) * 2)) (v := GTag.val (ys[(j - 1)]!)) (by kernel_rfl) ((Ld.add0 (Ld.elN (P := Try.prog) (t := 31) (SlR.own (hp96.get0)).rd 2 (fun _ => rfl) hy129 (o := 0) (cs := [.int .i64 (ys[(j - 1)]!.Count), .int .i64 (ys[(j - 1)]!.Client)]) (by kernel_rfl)))) ?_)
        refine ⟨.inr trivial, ?_⟩
        refine HT.pre (l := [(14, true)]) (n := 3) (by kernel_rfl) ?_
        refine HOPS.take 1 {} [] [1, 5, 8, 12, 13, 14, 54, 56, 61, 65, 66] [.string key, .slice a45 (no + 1) c46, .int .i64 ((j : Nat) : Int), .slice a n c, .int .i64 ((n : Nat) : Int), .int .i64 (i : Int), .slice a45 (no + 1) c46, .int .i64 ((j - 1 : Nat) : Int), GTag.val (ys[(j - 1)]!), GTag.val (ys[j]!), .pointer (some ((adr a45).add (j * 2)))] (by kernel_rfl) trivial (fun w130 hS131 => QB.mk (.cons (show InB (((j : Nat) : Int)) (no + 1) from ⟨by omega, by omega⟩) (.cons ((SlR.own (hp96.get0)).some (by omega)) .nil)) (by kernel_rfl)) (fun b132 => ?_)
        refine HOPS.nil (QN.n ?_)
        refine HT.br (n := 2) [15] (by kernel_rfl) (by simp) ?_
        refine AllR.cons _ rfl ?_ AllR.nil
        have := own_flat (sz := 2) (fun _ => rfl) (by decide) hp96.get0
        try simp only [List.length_set] at this
        refine (opStep.storeOwn0 (j * 2) hp96 rfl [.int .i64 (ys[(j - 1)]!.Count), .int .i64 (ys[(j - 1)]!.Client)] (by kernel_rfl) (by simp) (show j * 2 + 2 ≤ (no + 1) * 2 by omega) (fun w133 hp134 => ?_))
        have hp135 := hp134
        rw [show ow (List.flatMap GTag.cells ys) (j * 2) [.int .i64 (ys[(j - 1)]!.Count), .int .i64 (ys[(j - 1)]!.Client)] = List.flatMap GTag.cells (ys.set j (⟨ys[(j - 1)]!.Count, ys[(j - 1)]!.Client⟩ : GTag)) from ow_flat (sz := 2) (fun _ => rfl) (by first | (omega) | (simp only [List.length_set]; omega)) (⟨ys[(j - 1)]!.Count, ys[(j - 1)]!.Client⟩ : GTag)] at hp135
        refine ⟨.inr trivial, ?_⟩
        refine HT.pre (l := [(16, true)]) (n := 1) (by kernel_rfl) ?_
        refine HOPS.take 1 {} [] [1, 5, 8, 12, 13, 14, 65, 67] [.string key, .slice a45 (no + 1) c46, .int .i64 ((j : Nat) : Int), .slice a n c, .int .i64 ((n : Nat) : Int), .int .i64 (i : Int), GTag.val (ys[j]!), .pointer (some ((adr a45).add ((j - 1) * 2)))] (by kernel_rfl) trivial (fun w136 hS137 => QB.mk (.cons (show InB (((j - 1 : Nat) : Int)) (no + 1) from ⟨by omega, by omega⟩) (.cons ((SlR.own (hp135.get0)).some (by omega)) .nil)) (by kernel_rfl)) (fun b138 => ?_)
        refine HOPS.nil (QN.n ?_)
        refine HT.br (n := 0) [17] (by kernel_rfl) (by simp) ?_
        refine AllR.cons _ rfl ?_ AllR.nil
        have := own_flat (sz := 2) (fun _ => rfl) (by decide) hp135.get0
        try simp only [List.length_set] at this
        refine (opStep.storeOwn0 ((j - 1) * 2) hp135 rfl [.int .i64 (ys[j]!.Count), .int .i64 (ys[j]!.Client)] (by kernel_rfl) (by simp) (show (j - 1) * 2 + 2 ≤ (no + 1) * 2 by omega) (fun w139 hp140 => ?_))
        have hp141 := hp140
        rw [show ow (List.flatMap GTag.cells (ys.set j (⟨ys[(j - 1)]!.Count, ys[(j - 1)]!.Client⟩ : GTag))) ((j - 1) * 2) [.int .i64 (ys[j]!.Count), .int .i64 (ys[j]!.Client)] = List.flatMap GTag.cells ((ys.set j (⟨ys[(j - 1)]!.Count, ys[(j - 1)]!.Client⟩ : GTag)).set (j - 1) (⟨ys[j]!.Count, ys[j]!.Client⟩ : GTag)) from ow_flat (sz := 2) (fun _ => rfl) (by first | (omega) | (simp only [List.length_set]; omega)) (⟨ys[j]!.Count, ys[j]!.Client⟩ : GTag)] at hp141
        refine ⟨.inr trivial, ?_⟩
        refine HT.done (by kernel_rfl) ?_
        refine blk_n ?_
        refine thn_n ?_
        refine WP.pure { subs := [51] } [.int .i64 ((j - 1 : Nat) : Int)] [1, 5, 8, 12, 13, 14] [.string key, .slice a45 (no + 1) c46, .int .i64 ((j - 1 : Nat) : Int), .slice a n c, .int .i64 ((n : Nat) : Int), .int .i64 (i : Int)] (.cons (show Rng .i64 (((j : Nat) : Int) - 1) from Rng.i64 (by omega)) (.cons (show (.int .i64 (((j : Nat) : Int) - 1) : Go.Value) = .int .i64 ((j - 1 : Nat) : Int) from congrArg (Value.int .i64) ((show ((j : Nat) : Int) - 1 = ((j - 1 : Nat) : Int) from by omega))) .nil)) (by kernel_rfl) (fun b142 => ?_)
        refine thn_n ?_
        have hj0 := h95
        exact ⟨0 + (j - 1), (by omega), j - 1, (ys.set j (⟨ys[(j - 1)]!.Count, ys[(j - 1)]!.Client⟩ : GTag)).set (j - 1) (⟨ys[j]!.Count, ys[j]!.Client⟩ : GTag), rfl, ⟨fn_step qa (by have h_ := h95.1; omega) h95.2, trivial⟩, by kernel_rfl, hp141⟩
      · refine WP.exit ?_
        refine thn_x ?_
        refine thn_x ?_
        refine blk_hit ?_
        refine blk_n ?_
        refine thn_n ?_
        refine WP.pure {} [] [1, 5, 12, 13, 14] [.string key, .slice a45 (no + 1) c46, .slice a n c, .int .i64 ((n : Nat) : Int), .int .i64 ((i : Int) + 1)] (.cons (show Rng .i64 ((i : Int) + 1) from Rng.i64 (by omega)) .nil) (by kernel_rfl) (fun b143 => ?_)
        refine thn_n ?_
        have hlz := qa.1.length_eq
        rw [List.length_append, List.length_singleton] at hlz
        exact ⟨C.length - (i + 1), (by omega), i + 1, ys, a45, no + 1, c46, rfl, ⟨by omega, by omega, fs_more pc (by omega) h38 (fn_end qa (fun h_ => h95 ⟨by have := h_.1; omega, h_.2⟩))⟩, by kernel_rfl, hp91⟩
    · refine WP.skip ?_
      refine blk_n ?_
      refine thn_n ?_
      refine WP.pure {} [] [1, 5, 12, 13, 14] [.string key, .slice ao no co, .slice a n c, .int .i64 ((n : Nat) : Int), .int .i64 ((i : Int) + 1)] (.cons (show Rng .i64 ((i : Int) + 1) from Rng.i64 (by omega)) .nil) (by kernel_rfl) (fun b144 => ?_)
      refine thn_n ?_
      exact ⟨C.length - (i + 1), (by omega), i + 1, xs, ao, no, co, rfl, ⟨by omega, by omega, fs_none pc (by omega) h38⟩, by kernel_rfl, (hp34.sub (.cons _ (.cons_cons _ (.slnil))))⟩
  · refine WP.exit ?_
    refine thn_x ?_
    refine thn_x ?_
    refine blk_hit ?_
    refine thn_n ?_
    refine WP.seq ?_
    refine WP.pure {} [] [4] [.slice ao no co] .nil (by kernel_rfl) (fun b145 => ?_)
    refine thn_n ?_
    refine WP.ret ?_
    refine bodyQ.of _ rfl [.slice ao no co] ⟨rfl, trivial⟩ ?_
    exact ⟨_, _, _, rfl, by rw [← fs_end pc (by omega)]; exact hp7⟩

end Go.Proofs.Ytdkgdidnknojlaa.K
namespace Go.Proofs.Ytdkgdidnknojlaa.K
open Go Go.Proofs Go.RowKit
set_option linter.unusedVariables false
set_option linter.unusedSimpArgs false
set_option maxRecDepth 20000
set_option maxHeartbeats 4000000

theorem topD_c (sb dl : Nat) (a : Option Addr) (n c : Nat) (C : List Ce) (w : World) (hS : ShH w sb dl a n c C) (hb : C.length ≤ 1048600) (key : ByteArray) :
    Calls Try.prog 14 #[.pointer (some ⟨sb, 0, none⟩), .string key] w (fun r_ w' => r_ = .returned (GTag.val (topD C key)) ∧ Fram Non w w') := by
  refine calls_of Try.func14 rfl 16 rfl (by simp) ?_
  have hp0 := Hp.init w
  have he0 : List.map (env0 [.pointer (some ⟨sb, 0, none⟩), .string key]) [0, 1] = [.pointer (some ⟨sb, 0, none⟩), .string key] := by kernel_rfl
  obtain ⟨b0, he0⟩ := toMk he0
  rw [he0]
  clear he0
  refine WP.seq ?_
  refine WP.region _ rfl (by kernel_rfl) ?_
  refine OPS.cons (opStep.alloc hp0 [.int .i64 0, .int .i64 0] (by kernel_rfl) (fun g3 w1 hp2 => ?_))
  refine OPS.nil ?_
  refine thn_n ?_
  refine WP.seq ?_
  refine WP.seq ?_
  refine WP.region _ rfl (by kernel_rfl) ?_
  refine OPS.batch 2 {} [] [4, 6, 7] [.pointer (some ⟨g3, 0, none⟩), .pointer (some ⟨sb, 0, none⟩), .string key] .nil (by kernel_rfl) (fun b4 => ?_)
  refine OPS.cons (opStep.call (some 8) [.pointer (some ⟨sb, 0, none⟩), .string key] (by kernel_rfl) (finals_c sb dl a n c C _ (hS.fram hp2.fr) (by first | assumption | omega) key) ?_)
  rintro _ w7 ⟨fa10, fn11, fc12, rfl, hp8⟩
  refine ⟨_, rfl, ?_⟩
  have hp9 := hp2.madeQ hp8
  simp only [List.cons_append, List.nil_append] at hp9
  have hfl := own_flat (f := GTag.cells) (sz := 2) (fun _ => rfl) (by decide) hp9.get0
  refine OPS.batch 1 {} [] [4, 5] [.pointer (some ⟨g3, 0, none⟩), .slice fa10 fn11 fc12] .nil (by kernel_rfl) (fun b13 => ?_)
  refine OPS.nil ?_
  refine thn_n ?_
  refine WP.seq ?_
  refine WP.pure {} [] [4, 5, 11] [.pointer (some ⟨g3, 0, none⟩), .slice fa10 fn11 fc12, .bool (decide (0 < ((fn11 : Nat) : Int)))] .nil (by kernel_rfl) (fun b14 => ?_)
  refine thn_n ?_
  refine WP.test (p := 0 < ((fn11 : Nat) : Int)) rfl Bp.dec (fun h15 => ?_) (fun h15 => ?_)
  · refine WP.seq ?_
    refine WP.region _ rfl (by kernel_rfl) ?_
    have := own_flat (sz := 2) (fun _ => rfl) (by decide) hp9.get0
    have hy19 : ((finD C key))[0]? = some (finD C key)[0]! := get_bang (by first | (omega) | (simp only [List.length_append, List.length_cons, List.length_nil]; omega) | (simp only [List.length_take, List.length_append, List.length_cons, List.length_nil]; omega))
    refine OPS.batch 3 {} [GTag.val ((finD C key)[0]!)] [4, 14] [.pointer (some ⟨g3, 0, none⟩), GTag.val ((finD C key)[0]!)] (.cons (show InB (0) (fn11) from ⟨by omega, by omega⟩) (.cons ((SlR.own (hp9.get0)).some (by omega)) (.cons (Ld.add0 (Ld.elN (P := Try.prog) (t := 31) (SlR.own (hp9.get0)).rd 2 (fun _ => rfl) hy19 (o := 0) (cs := [.int .i64 ((finD C key)[0]!.Count), .int .i64 ((finD C key)[0]!.Client)]) (by kernel_rfl))) .nil))) (by kernel_rfl) (fun b20 => ?_)
    refine OPS.cons (opStep.store1 hp9 rfl [.int .i64 ((finD C key)[0]!.Count), .int .i64 ((finD C key)[0]!.Client)] [.int .i64 ((finD C key)[0]!.Count), .int .i64 ((finD C key)[0]!.Client)] (by kernel_rfl) (fun w21 hp22 => ?_))
    refine OPS.nil ?_
    refine thn_n ?_
    refine WP.ret ?_
    refine thn_r ?_
    refine bodyQ.of _ rfl [GTag.val ((finD C key)[0]!)] ⟨⟨_, rfl, (show Ld Try.prog w21 31 ⟨g3, 0, none⟩ (GTag.val ((finD C key)[0]!)) from Ld.rowN (cs := [.int .i64 ((finD C key)[0]!.Count), .int .i64 ((finD C key)[0]!.Client)]) hp22.get1 (by kernel_rfl))⟩, trivial⟩ ?_
    exact ⟨by unfold topD; rw [getD_in (by omega)]; rfl, hp22.fr⟩
  · refine WP.skip ?_
    refine thn_n ?_
    refine WP.seq ?_
    refine WP.region _ rfl (by kernel_rfl) ?_
    refine OPS.batch 1 {} [] [4, 15] [.pointer (some ⟨g3, 0, none⟩), .agg #[.int .i64 0, .int .i64 0]] .nil (by kernel_rfl) (fun b23 => ?_)
    refine OPS.cons (opStep.store1 hp9 rfl [.int .i64 0, .int .i64 0] [.int .i64 0, .int .i64 0] (by kernel_rfl) (fun w24 hp25 => ?_))
    refine OPS.nil ?_
    refine thn_n ?_
    refine WP.ret ?_
    refine bodyQ.of _ rfl [.agg #[.int .i64 0, .int .i64 0]] ⟨⟨_, rfl, (show Ld Try.prog w24 31 ⟨g3, 0, none⟩ (.agg #[.int .i64 0, .int .i64 0]) from Ld.rowN (cs := [.int .i64 0, .int .i64 0]) hp25.get1 (by kernel_rfl))⟩, trivial⟩ ?_
    exact ⟨by unfold topD; rw [getD_out (by omega)]; rfl, hp25.fr⟩

theorem floD_c (sb dl : Nat) (a : Option Addr) (n c : Nat) (C : List Ce) (w : World) (hS : ShH w sb dl a n c C) (hb : C.length ≤ 1048600) (key : ByteArray) (hdl : dl ≤ 4611686018427387903) :
    Calls Try.prog 16 #[.pointer (some ⟨sb, 0, none⟩), .string key] w (fun r_ w' => r_ = .returned (GTag.val (floD C key dl)) ∧ Fram Non w w') := by
  refine calls_of Try.func16 rfl 24 rfl (by simp) ?_
  have hp0 := Hp.init w
  have he0 : List.map (env0 [.pointer (some ⟨sb, 0, none⟩), .string key]) [0, 1] = [.pointer (some ⟨sb, 0, none⟩), .string key] := by kernel_rfl
  obtain ⟨b0, he0⟩ := toMk he0
  rw [he0]
  clear he0
  refine WP.seq ?_
  refine WP.region _ rfl (by kernel_rfl) ?_
  refine OPS.cons (opStep.alloc hp0 [.int .i64 0, .int .i64 0] (by kernel_rfl) (fun g3 w1 hp2 => ?_))
  refine OPS.nil ?_
  refine thn_n ?_
  refine WP.seq ?_
  refine WP.seq ?_
  refine WP.region _ rfl (by kernel_rfl) ?_
  refine OPS.batch 2 {} [] [0, 4, 6, 7] [.pointer (some ⟨sb, 0, none⟩), .pointer (some ⟨g3, 0, none⟩), .pointer (some ⟨sb, 0, none⟩), .string key] .nil (by kernel_rfl) (fun b4 => ?_)
  refine OPS.cons (opStep.call (some 8) [.pointer (some ⟨sb, 0, none⟩), .string key] (by kernel_rfl) (finals_c sb dl a n c C _ (hS.fram hp2.fr) (by first | assumption | omega) key) ?_)
  rintro _ w7 ⟨fa10, fn11, fc12, rfl, hp8⟩
  refine ⟨_, rfl, ?_⟩
  have hp9 := hp2.madeQ hp8
  simp only [List.cons_append, List.nil_append] at hp9
  have hfl := own_flat (f := GTag.cells) (sz := 2) (fun _ => rfl) (by decide) hp9.get0
  refine OPS.batch 1 {} [] [0, 4, 5] [.pointer (some ⟨sb, 0, none⟩), .pointer (some ⟨g3, 0, none⟩), .slice fa10 fn11 fc12] .nil (by kernel_rfl) (fun b13 => ?_)
  refine OPS.nil ?_
  refine thn_n ?_
  refine WP.seq ?_
  refine WP.pure {} [.int .i64 ((dl : Nat) : Int)] [0, 4, 5, 15] [.pointer (some ⟨sb, 0, none⟩), .pointer (some ⟨g3, 0, none⟩), .slice fa10 fn11 fc12, .bool (decide (((dl : Nat) : Int) < ((fn11 : Nat) : Int)))] (.cons (Ld.row1 (P := Try.prog) (t := 3) (o := 0) (v := .int .i64 ((dl : Nat) : Int)) (hS.fram hp9.fr).row (by kernel_rfl)) .nil) (by kernel_rfl) (fun b14 => ?_)
  refine thn_n ?_
  refine WP.test (p := ((dl : Nat) : Int) < ((fn11 : Nat) : Int)) rfl Bp.dec (fun h15 => ?_) (fun h15 => ?_)
  · refine WP.seq ?_
    refine WP.region _ rfl (by kernel_rfl) ?_
    have := own_flat (sz := 2) (fun _ => rfl) (by decide) hp9.get0
    have hy19 : ((finD C key))[dl]? = some (finD C key)[dl]! := get_bang (by first | (omega) | (simp only [List.length_append, List.length_cons, List.length_nil]; omega) | (simp only [List.length_take, List.length_append, List.length_cons, List.length_nil]; omega))
    refine OPS.batch 7 {} [.int .i64 ((dl : Nat) : Int), GTag.val ((finD C key)[dl]!)] [4, 22] [.pointer (some ⟨g3, 0, none⟩), GTag.val ((finD C key)[dl]!)] (.cons (Ld.row1 (P := Try.prog) (t := 3) (o := 0) (v := .int .i64 ((dl : Nat) : Int)) (hS.fram hp9.fr).row (by kernel_rfl)) (.cons (show InB (((dl : Nat) : Int)) (fn11) from ⟨by omega, by omega⟩) (.cons ((SlR.own (hp9.get0)).some (by omega)) (.cons (Ld.add0 (Ld.elN (P := Try.prog) (t := 31) (SlR.own (hp9.get0)).rd 2 (fun _ => rfl) hy19 (o := 0) (cs := [.int .i64 ((finD C key)[dl]!.Count), .int .i64 ((finD C key)[dl]!.Client)]) (by kernel_rfl))) .nil)))) (by kernel_rfl) (fun b20 => ?_)
    refine OPS.cons (opStep.store1 hp9 rfl [.int .i64 ((finD C key)[dl]!.Count), .int .i64 ((finD C key)[dl]!.Client)] [.int .i64 ((finD C key)[dl]!.Count), .int .i64 ((finD C key)[dl]!.Client)] (by kernel_rfl) (fun w21 hp22 => ?_))
    refine OPS.nil ?_
    refine thn_n ?_
    refine WP.ret ?_
    refine thn_r ?_
    refine bodyQ.of _ rfl [GTag.val ((finD C key)[dl]!)] ⟨⟨_, rfl, (show Ld Try.prog w21 31 ⟨g3, 0, none⟩ (GTag.val ((finD C key)[dl]!)) from Ld.rowN (cs := [.int .i64 ((finD C key)[dl]!.Count), .int .i64 ((finD C key)[dl]!.Client)]) hp22.get1 (by kernel_rfl))⟩, trivial⟩ ?_
    exact ⟨by unfold floD; rw [getD_in (by omega)]; rfl, hp22.fr⟩
  · refine WP.skip ?_
    refine thn_n ?_
    refine WP.seq ?_
    refine WP.region _ rfl (by kernel_rfl) ?_
    refine OPS.batch 1 {} [] [4, 23] [.pointer (some ⟨g3, 0, none⟩), .agg #[.int .i64 0, .int .i64 0]] .nil (by kernel_rfl) (fun b23 => ?_)
    refine OPS.cons (opStep.store1 hp9 rfl [.int .i64 0, .int .i64 0] [.int .i64 0, .int .i64 0] (by kernel_rfl) (fun w24 hp25 => ?_))
    refine OPS.nil ?_
    refine thn_n ?_
    refine WP.ret ?_
    refine bodyQ.of _ rfl [.agg #[.int .i64 0, .int .i64 0]] ⟨⟨_, rfl, (show Ld Try.prog w24 31 ⟨g3, 0, none⟩ (.agg #[.int .i64 0, .int .i64 0]) from Ld.rowN (cs := [.int .i64 0, .int .i64 0]) hp25.get1 (by kernel_rfl))⟩, trivial⟩ ?_
    exact ⟨by unfold floD; rw [getD_out (by omega)]; rfl, hp25.fr⟩

theorem at_c (sb dl : Nat) (a : Option Addr) (n c : Nat) (C : List Ce) (w : World) (hS : ShH w sb dl a n c C) (hb : C.length ≤ 1048600) (key : ByteArray) (t : GTag) :
    Calls Try.prog 29 #[.pointer (some ⟨sb, 0, none⟩), .string key, GTag.val t] w (fun r_ w' => ∃ i, r_ = .returned (.int .i64 i) ∧ AtR C key t i ∧ Fram Non w w') := by
  have hln := hS.len
  refine calls_of Try.func29 rfl 32 rfl (by simp) ?_
  have hp0 := Hp.init w
  have he0 : List.map (env0 [.pointer (some ⟨sb, 0, none⟩), .string key, GTag.val t]) [0, 1, 2] = [.pointer (some ⟨sb, 0, none⟩), .string key, GTag.val t] := by kernel_rfl
  obtain ⟨b0, he0⟩ := toMk he0
  rw [he0]
  clear he0
  refine WP.seq ?_
  refine WP.region _ rfl (by kernel_rfl) ?_
  refine OPS.cons (opStep.box hp0 [.int .i64 t.Count, .int .i64 t.Client] (by kernel_rfl) (fun g3 w1 hp2 => ?_))
  refine OPS.batch 1 {} [] [0, 1, 5] [.pointer (some ⟨sb, 0, none⟩), .string key, .pointer (some ⟨g3, 0, none⟩)] .nil (by kernel_rfl) (fun b4 => ?_)
  refine OPS.nil ?_
  refine thn_n ?_
  refine WP.seq ?_
  refine WP.seq ?_
  refine WP.pure {} [.slice a n c] [1, 5, 12, 13, 14] [.string key, .pointer (some ⟨g3, 0, none⟩), .slice a n c, .int .i64 ((n : Nat) : Int), .int .i64 0] (.cons (Ld.row1 (P := Try.prog) (t := 27) (o := 1) (v := .slice a n c) (hS.fram hp2.fr).row (by kernel_rfl)) .nil) (by kernel_rfl) (fun b5 => ?_)
  refine thn_n ?_
  refine WP.block ?_
  refine WP.loop (fun mz_ e6 w7 => ∃ (i : Nat), mz_ = C.length - i ∧ (i ≤ C.length ∧ ∀ p, p < i → ¬ isC key t C[p]!) ∧ List.map e6 [1, 5, 12, 13, 14] = [.string key, .pointer (some ⟨g3, 0, none⟩), .slice a n c, .int .i64 ((n : Nat) : Int), .int .i64 (i : Int)] ∧ Hp w Non [Res.row g3 [.int .i64 t.Count, .int .i64 t.Client] 31] w7) (C.length - (0)) ⟨0, rfl, ⟨Nat.zero_le _, fun p hp => absurd hp (by omega)⟩, by kernel_rfl, hp2⟩ ?_
  rintro _ e6 w7 ⟨i, rfl, hI9, hE10, hp8⟩
  obtain ⟨b11, rfl⟩ := toMk hE10
  clear hE10
  obtain ⟨pa, pb⟩ := hI9
  refine WP.seq ?_
  refine WP.pure {} [] [1, 5, 12, 13, 14, 15] [.string key, .pointer (some ⟨g3, 0, none⟩), .slice a n c, .int .i64 ((n : Nat) : Int), .int .i64 (i : Int), .bool (decide ((i : Int) < ((n : Nat) : Int)))] .nil (by kernel_rfl) (fun b12 => ?_)
  refine thn_n ?_
  refine WP.seq ?_
  refine WP.test (p := (i : Int) < ((n : Nat) : Int)) rfl Bp.dec (fun h13 => ?_) (fun h13 => ?_)
  · refine WP.skip ?_
    refine thn_n ?_
    refine WP.seq ?_
    refine WP.block ?_
    refine WP.seq ?_
    refine WP.region _ rfl (by kernel_rfl) ?_
    have hy17 : (C)[i]? = some C[i]! := get_bang (by first | (omega) | (simp only [List.length_append, List.length_cons, List.length_nil]; omega) | (simp only [List.length_take, List.length_append, List.length_cons, List.length_nil]; omega))
    refine OPS.batch 3 {} [Gsherdtop_cell.val (C[i]!.c)] [1, 5, 12, 13, 14, 16, 18] [.string key, .pointer (some ⟨g3, 0, none⟩), .slice a n c, .int .i64 ((n : Nat) : Int), .int .i64 (i : Int), .int .i64 (i : Int), Gsherdtop_cell.val (C[i]!.c)] (.cons (show InB ((i : Int)) (n) from ⟨by omega, by omega⟩) (.cons (((hS.fram hp8.fr).sl).some (by omega)) (.cons (Ld.add0 (Ld.elN (P := Try.prog) (t := 66) ((hS.fram hp8.fr).sl).rd 6 (fun _ => rfl) hy17 (o := 0) (cs := [.string (C[i]!.c.key), .int .i64 (C[i]!.c.e.Tag.Count), .int .i64 (C[i]!.c.e.Tag.Client), .bool (C[i]!.c.e.Fin), .bool (C[i]!.c.e.Has), .slice (C[i]!.c.e.Data.a) (C[i]!.c.e.Data.n) (C[i]!.c.e.Data.c)]) (by kernel_rfl))) .nil))) (by kernel_rfl) (fun b18 => ?_)
    refine OPS.cons (opStep.alloc hp8 [.string ByteArray.empty, .int .i64 0, .int .i64 0, .bool false, .bool false, .slice none 0 0] (by kernel_rfl) (fun g21 w19 hp20 => ?_))
    refine OPS.batch 1 {} [] [1, 5, 7, 8, 12, 13, 14, 18] [.string key, .pointer (some ⟨g3, 0, none⟩), .int .i64 (i : Int), .pointer (some ⟨g21, 0, none⟩), .slice a n c, .int .i64 ((n : Nat) : Int), .int .i64 (i : Int), Gsherdtop_cell.val (C[i]!.c)] .nil (by kernel_rfl) (fun b22 => ?_)
    refine OPS.cons (opStep.store0 hp20 rfl [.string (C[i]!.c.key), .int .i64 (C[i]!.c.e.Tag.Count), .int .i64 (C[i]!.c.e.Tag.Client), .bool (C[i]!.c.e.Fin), .bool (C[i]!.c.e.Has), .slice (C[i]!.c.e.Data.a) (C[i]!.c.e.Data.n) (C[i]!.c.e.Data.c)] [.string (C[i]!.c.key), .int .i64 (C[i]!.c.e.Tag.Count), .int .i64 (C[i]!.c.e.Tag.Client), .bool (C[i]!.c.e.Fin), .bool (C[i]!.c.e.Has), .slice (C[i]!.c.e.Data.a) (C[i]!.c.e.Data.n) (C[i]!.c.e.Data.c)] (by kernel_rfl) (fun w23 hp24 => ?_))
    refine OPS.nil ?_
    refine thn_n ?_
    refine WP.cut (fun e34 w35 => ∃ (x32 : Bool), (True) ∧ Bp x32 (((C[i]!.c.key) = key) ∧ (((C[i]!.c.e.Tag.Count) = t.Count) ∧ ((C[i]!.c.e.Tag.Client) = t.Client))) ∧ List.map e34 [1, 5, 7, 12, 13, 14, 29] = [.string key, .pointer (some ⟨g3, 0, none⟩), .int .i64 (i : Int), .slice a n c, .int .i64 ((n : Nat) : Int), .int .i64 (i : Int), .bool x32] ∧ Hp w Non [Res.row g21 [.string (C[i]!.c.key), .int .i64 (C[i]!.c.e.Tag.Count), .int .i64 (C[i]!.c.e.Tag.Client), .bool (C[i]!.c.e.Fin), .bool (C[i]!.c.e.Has), .slice (C[i]!.c.e.Data.a) (C[i]!.c.e.Data.n) (C[i]!.c.e.Data.c)] 66, Res.row g3 [.int .i64 t.Count, .int .i64 t.Client] 31] w35) ?_ ?_
    · refine WP.region _ rfl (by kernel_rfl) ?_
      refine OPS.batch 5 {} [.string (C[i]!.c.key)] [1, 5, 7, 8, 12, 13, 14, 23] [.string key, .pointer (some ⟨g3, 0, none⟩), .int .i64 (i : Int), .pointer (some ⟨g21, 0, none⟩), .slice a n c, .int .i64 ((n : Nat) : Int), .int .i64 (i : Int), .bool (decide ((C[i]!.c.key) = key))] (.cons (Ld.row1 (P := Try.prog) (t := 9) (o := 0) (v := .string (C[i]!.c.key)) hp24.get0 (by kernel_rfl)) .nil) (by kernel_rfl) (fun b26 => ?_)
      by_cases h27 : (C[i]!.c.key) = key
      · refine OPS.batch 0 {} [] [1, 5, 7, 8, 12, 13, 14, 23] [.string key, .pointer (some ⟨g3, 0, none⟩), .int .i64 (i : Int), .pointer (some ⟨g21, 0, none⟩), .slice a n c, .int .i64 ((n : Nat) : Int), .int .i64 (i : Int), .bool (decide ((C[i]!.c.key) = key))] .nil (by kernel_rfl) (fun b28 => ?_)
        refine OPS.re [.string key, .pointer (some ⟨g3, 0, none⟩), .int .i64 (i : Int), .pointer (some ⟨g21, 0, none⟩), .slice a n c, .int .i64 ((n : Nat) : Int), .int .i64 (i : Int), .bool true] (by rw [show (decide ((C[i]!.c.key) = key)) = true from Bp.dec.tt h27]) ?_
        refine OPS.batch 6 { wraps := [29] } [.agg #[.int .i64 (C[i]!.c.e.Tag.Count), .int .i64 (C[i]!.c.e.Tag.Client)], GTag.val t] [1, 5, 7, 12, 13, 14, 29] [.string key, .pointer (some ⟨g3, 0, none⟩), .int .i64 (i : Int), .slice a n c, .int .i64 ((n : Nat) : Int), .int .i64 (i : Int), .bool ((decide ((C[i]!.c.e.Tag.Count) = t.Count)) && ((decide ((C[i]!.c.e.Tag.Client) = t.Client)) && true))] (.cons (show Ld Try.prog w23 31 ⟨g21, 1, none⟩ (.agg #[.int .i64 (C[i]!.c.e.Tag.Count), .int .i64 (C[i]!.c.e.Tag.Client)]) from Ld.rowN (cs := [.int .i64 (C[i]!.c.e.Tag.Count), .int .i64 (C[i]!.c.e.Tag.Client)]) hp24.get0 (by kernel_rfl)) (.cons (show Ld Try.prog w23 31 ⟨g3, 0, none⟩ (GTag.val t) from Ld.rowN (cs := [.int .i64 t.Count, .int .i64 t.Client]) hp24.get1 (by kernel_rfl)) .nil)) (by kernel_rfl) (fun b29 => ?_)
        refine OPS.nil ?_
        refine thn_n ?_
        exact ⟨(decide ((C[i]!.c.e.Tag.Count) = t.Count)) && ((decide ((C[i]!.c.e.Tag.Client) = t.Client)) && true), trivial, Bp.of (Bp.band Bp.dec (Bp.band1 Bp.dec)) (by first | (simp only [h27, iff_false, false_iff, iff_true, true_iff, Classical.not_not, and_true, true_and, and_false, false_and, or_true, true_or, or_false, false_or, not_true_eq_false, not_false_eq_true, and_self, or_self, iff_self]; done) | (simp [h27]; done) | grind | (simp_all; done)), by kernel_rfl, hp24⟩
      · refine OPS.batch 0 {} [] [1, 5, 7, 8, 12, 13, 14, 23] [.string key, .pointer (some ⟨g3, 0, none⟩), .int .i64 (i : Int), .pointer (some ⟨g21, 0, none⟩), .slice a n c, .int .i64 ((n : Nat) : Int), .int .i64 (i : Int), .bool (decide ((C[i]!.c.key) = key))] .nil (by kernel_rfl) (fun b30 => ?_)
        refine OPS.re [.string key, .pointer (some ⟨g3, 0, none⟩), .int .i64 (i : Int), .pointer (some ⟨g21, 0, none⟩), .slice a n c, .int .i64 ((n : Nat) : Int), .int .i64 (i : Int), .bool false] (by rw [show (decide ((C[i]!.c.key) = key)) = false from Bp.dec.ff h27]) ?_
        refine OPS.batch 6 { wraps := [29] } [] [1, 5, 7, 12, 13, 14, 29] [.string key, .pointer (some ⟨g3, 0, none⟩), .int .i64 (i : Int), .slice a n c, .int .i64 ((n : Nat) : Int), .int .i64 (i : Int), .bool false] .nil (by kernel_rfl) (fun b31 => ?_)
        refine OPS.nil ?_
        refine thn_n ?_
        exact ⟨false, trivial, Bp.of Bp.f (by first | (simp only [h27, iff_false, false_iff, iff_true, true_iff, Classical.not_not, and_true, true_and, and_false, false_and, or_true, true_or, or_false, false_or, not_true_eq_false, not_false_eq_true, and_self, or_self, iff_self]; done) | (simp [h27]; done) | grind | (simp_all; done)), by kernel_rfl, hp24⟩
    rintro e34 w35 ⟨x32, hd37, hb33, hE38, hp36⟩
    obtain ⟨b39, rfl⟩ := toMk hE38
    clear hE38
    clear hd37
    refine WP.test (p := ((C[i]!.c.key) = key) ∧ (((C[i]!.c.e.Tag.Count) = t.Count) ∧ ((C[i]!.c.e.Tag.Client) = t.Client))) rfl hb33 (fun h40 => ?_) (fun h40 => ?_)
    · refine WP.seq ?_
      refine WP.pure {} [] [6] [.int .i64 (i : Int)] .nil (by kernel_rfl) (fun b41 => ?_)
      refine thn_n ?_
      refine WP.ret ?_
      refine blk_r ?_
      refine thn_r ?_
      refine thn_r ?_
      refine blk_r ?_
      refine thn_r ?_
      refine bodyQ.of _ rfl [.int .i64 (i : Int)] ⟨rfl, trivial⟩ ?_
      exact ⟨_, rfl, .inr ⟨i, rfl, by omega, isC_iff.2 h40, pb⟩, hp36.fr⟩
    · refine WP.skip ?_
      refine blk_n ?_
      refine thn_n ?_
      refine WP.pure {} [] [1, 5, 12, 13, 14] [.string key, .pointer (some ⟨g3, 0, none⟩), .slice a n c, .int .i64 ((n : Nat) : Int), .int .i64 ((i : Int) + 1)] (.cons (show Rng .i64 ((i : Int) + 1) from Rng.i64 (by omega)) .nil) (by kernel_rfl) (fun b42 => ?_)
      refine thn_n ?_
      exact ⟨C.length - (i + 1), (by omega), i + 1, rfl, ⟨by omega, at_step pb (fun z => h40 (isC_iff.1 z))⟩, by kernel_rfl, (hp36.sub (.cons _ (.cons_cons _ (.slnil))))⟩
  · refine WP.exit ?_
    refine thn_x ?_
    refine thn_x ?_
    refine blk_hit ?_
    refine thn_n ?_
    refine WP.seq ?_
    refine WP.pure {} [] [6] [.int .i64 (-1)] .nil (by kernel_rfl) (fun b43 => ?_)
    refine thn_n ?_
    refine WP.ret ?_
    refine bodyQ.of _ rfl [.int .i64 (-1)] ⟨rfl, trivial⟩ ?_
    exact ⟨_, rfl, .inl ⟨rfl, fun p hp => pb p (by omega)⟩, hp8.fr⟩

theorem sb_c (h1 h2 : SlH) (d1 d2 : ByteArray) (w : World) (k1 : Bt w h1 d1) (k2 : Bt w h2 d2) (hb : d1.size ≤ 65540) :
    Calls Try.prog 43 #[.slice h1.a h1.n h1.c, .slice h2.a h2.n h2.c] w (fun r_ w' => ∃ f_, r_ = .returned (.bool f_) ∧ Bp f_ (d1 = d2) ∧ Fram Non w w') := by
  have e1 := k1.1
  have e2 := k2.1
  have m1 := bytesI_len d1
  have m2 := bytesI_len d2
  refine calls_of Try.func43 rfl 26 rfl (by simp) ?_
  have hp0 := Hp.init w
  have he0 : List.map (env0 [.slice h1.a h1.n h1.c, .slice h2.a h2.n h2.c]) [0, 1] = [.slice h1.a h1.n h1.c, .slice h2.a h2.n h2.c] := by kernel_rfl
  obtain ⟨b0, he0⟩ := toMk he0
  rw [he0]
  clear he0
  refine WP.seq ?_
  refine WP.pure {} [] [0, 1] [.slice h1.a h1.n h1.c, .slice h2.a h2.n h2.c] .nil (by kernel_rfl) (fun b1 => ?_)
  refine thn_n ?_
  refine WP.seq ?_
  refine WP.seq ?_
  refine WP.pure {} [] [0, 1, 10] [.slice h1.a h1.n h1.c, .slice h2.a h2.n h2.c, .bool (decide (¬ (((h1.n : Nat) : Int) = ((h2.n : Nat) : Int))))] .nil (by kernel_rfl) (fun b2 => ?_)
  refine thn_n ?_
  refine WP.test (p := ¬ (((h1.n : Nat) : Int) = ((h2.n : Nat) : Int))) rfl Bp.dec (fun h3 => ?_) (fun h3 => ?_)
  · refine WP.seq ?_
    refine WP.pure {} [] [4] [.bool false] .nil (by kernel_rfl) (fun b4 => ?_)
    refine thn_n ?_
    refine WP.ret ?_
    refine thn_r ?_
    refine bodyQ.of _ rfl [.bool false] ⟨rfl, trivial⟩ ?_
    exact ⟨_, rfl, Bp.of Bp.f (by exact ⟨fun h => h.elim, fun h => h3 (by subst h; omega)⟩), hp0.fr⟩
  · replace h3 := Classical.not_not.1 h3
    refine WP.skip ?_
    refine thn_n ?_
    refine WP.seq ?_
    refine WP.seq ?_
    refine WP.pure {} [] [0, 1, 12, 13] [.slice h1.a h1.n h1.c, .slice h2.a h2.n h2.c, .int .i64 ((h1.n : Nat) : Int), .int .i64 0] .nil (by kernel_rfl) (fun b5 => ?_)
    refine thn_n ?_
    refine WP.block ?_
    refine WP.loop (fun mz_ e6 w7 => ∃ (k : Nat), mz_ = (bytesI d1).length - k ∧ (k ≤ (bytesI d1).length ∧ (bytesI d1).take k = (bytesI d2).take k) ∧ List.map e6 [0, 1, 12, 13] = [.slice h1.a h1.n h1.c, .slice h2.a h2.n h2.c, .int .i64 ((h1.n : Nat) : Int), .int .i64 (k : Int)] ∧ Hp w Non [] w7) ((bytesI d1).length - (0)) ⟨0, rfl, ⟨Nat.zero_le _, rfl⟩, by kernel_rfl, hp0⟩ ?_
    rintro _ e6 w7 ⟨k, rfl, hI9, hE10, hp8⟩
    obtain ⟨b11, rfl⟩ := toMk hE10
    clear hE10
    obtain ⟨q1, q2⟩ := hI9
    refine WP.seq ?_
    refine WP.pure {} [] [0, 1, 12, 13, 14] [.slice h1.a h1.n h1.c, .slice h2.a h2.n h2.c, .int .i64 ((h1.n : Nat) : Int), .int .i64 (k : Int), .bool (decide ((k : Int) < ((h1.n : Nat) : Int)))] .nil (by kernel_rfl) (fun b12 => ?_)
    refine thn_n ?_
    refine WP.seq ?_
    refine WP.test (p := (k : Int) < ((h1.n : Nat) : Int)) rfl Bp.dec (fun h13 => ?_) (fun h13 => ?_)
    · refine WP.skip ?_
      refine thn_n ?_
      refine WP.seq ?_
      refine WP.block ?_
      refine WP.seq ?_
      refine WP.pure {} [] [0, 1, 5, 12, 13] [.slice h1.a h1.n h1.c, .slice h2.a h2.n h2.c, .int .i64 (k : Int), .int .i64 ((h1.n : Nat) : Int), .int .i64 (k : Int)] .nil (by kernel_rfl) (fun b14 => ?_)
      refine thn_n ?_
      refine WP.seq ?_
      have hp17 := hp8.drew
      refine WP.quiet (fun w15 => Hp w Non [] w15) (by kernel_rfl) hp17 ?_
      have hnehp17 : ∃ wz_, (fun w15 => Hp w Non [] w15) wz_ := ⟨_, hp17⟩
      have hy21 : ((bytesI d1))[k]? = some (bytesI d1)[k]! := get_bang (by first | (omega) | (simp only [List.length_append, List.length_cons, List.length_nil]; omega) | (simp only [List.length_take, List.length_append, List.length_cons, List.length_nil]; omega))
      have hy23 : ((bytesI d2))[k]? = some (bytesI d2)[k]! := get_bang (by first | (omega) | (simp only [List.length_append, List.length_cons, List.length_nil]; omega) | (simp only [List.length_take, List.length_append, List.length_cons, List.length_nil]; omega))
      refine QOPS.batch 9 {} [.int .u8 ((bytesI d1)[k]!), .int .u8 ((bytesI d2)[k]!)] [0, 1, 12, 13, 24] [.slice h1.a h1.n h1.c, .slice h2.a h2.n h2.c, .int .i64 ((h1.n : Nat) : Int), .int .i64 (k : Int), .bool (decide (¬ (((bytesI d1)[k]!) = ((bytesI d2)[k]!))))] hnehp17 (fun w18 hp19 => QB.mk (.cons (show InB ((k : Int)) (h1.n) from ⟨by omega, by omega⟩) (.cons ((SlR.fram k1.2 hp19.fr).some (by omega)) (.cons (Ld.add0 (Ld.el1 (P := Try.prog) (t := 5) (SlR.fram k1.2 hp19.fr).rd 1 (fun _ => rfl) hy21 (o := 0) (v := .int .u8 ((bytesI d1)[k]!)) (by kernel_rfl))) (.cons (show InB ((k : Int)) (h2.n) from ⟨by omega, by omega⟩) (.cons ((SlR.fram k2.2 hp19.fr).some (by omega)) (.cons (Ld.add0 (Ld.el1 (P := Try.prog) (t := 5) (SlR.fram k2.2 hp19.fr).rd 1 (fun _ => rfl) hy23 (o := 0) (v := .int .u8 ((bytesI d2)[k]!)) (by kernel_rfl))) .nil)))))) (by kernel_rfl)) (fun b24 => ?_)
      refine QOPS.nil (fun w25 hp26 => ?_)
      refine thn_n ?_
      refine WP.test (p := ¬ (((bytesI d1)[k]!) = ((bytesI d2)[k]!))) rfl Bp.dec (fun h27 => ?_) (fun h27 => ?_)
      · refine WP.seq ?_
        refine WP.pure {} [] [4] [.bool false] .nil (by kernel_rfl) (fun b28 => ?_)
        refine thn_n ?_
        refine WP.ret ?_
        refine blk_r ?_
        refine thn_r ?_
        refine thn_r ?_
        refine blk_r ?_
        refine thn_r ?_
        refine bodyQ.of _ rfl [.bool false] ⟨rfl, trivial⟩ ?_
        exact ⟨_, rfl, Bp.of Bp.f (by exact ⟨fun h => h.elim, fun h => h27 (by rw [h])⟩), hp26.fr⟩
      · replace h27 := Classical.not_not.1 h27
        refine WP.skip ?_
        refine blk_n ?_
        refine thn_n ?_
        refine WP.pure {} [] [0, 1, 12, 13] [.slice h1.a h1.n h1.c, .slice h2.a h2.n h2.c, .int .i64 ((h1.n : Nat) : Int), .int .i64 ((k : Int) + 1)] (.cons (show Rng .i64 ((k : Int) + 1) from Rng.i64 (by omega)) .nil) (by kernel_rfl) (fun b29 => ?_)
        refine thn_n ?_
        exact ⟨(bytesI d1).length - (k + 1), (by omega), k + 1, rfl, ⟨by omega, take_sameB (by omega) (by omega) q2 h27⟩, by kernel_rfl, hp26⟩
    · refine WP.exit ?_
      refine thn_x ?_
      refine thn_x ?_
      refine blk_hit ?_
      refine thn_n ?_
      refine WP.seq ?_
      refine WP.pure {} [] [4] [.bool true] .nil (by kernel_rfl) (fun b30 => ?_)
      refine thn_n ?_
      refine WP.ret ?_
      refine bodyQ.of _ rfl [.bool true] ⟨rfl, trivial⟩ ?_
      exact ⟨_, rfl, Bp.of Bp.t (by exact ⟨fun _ => by rw [List.take_of_length_le (by omega), List.take_of_length_le (by omega)] at q2; exact bytesI_inj2 q2, fun _ => trivial⟩), hp8.fr⟩

theorem se_c (e f : GEntry) (d x : ByteArray) (w : World) (k1 : Bt w e.Data d) (k2 : Bt w f.Data x) (hb : d.size ≤ 65540) :
    Calls Try.prog 28 #[GEntry.val e, GEntry.val f] w (fun r_ w' => ∃ f_, r_ = .returned (.bool f_) ∧ Bp f_ (SameE e f d x) ∧ Fram Non w w') := by
  refine calls_of Try.func28 rfl 31 rfl (by simp) ?_
  have hp0 := Hp.init w
  have he0 : List.map (env0 [GEntry.val e, GEntry.val f]) [0, 1] = [GEntry.val e, GEntry.val f] := by kernel_rfl
  obtain ⟨b0, he0⟩ := toMk he0
  rw [he0]
  clear he0
  refine WP.seq ?_
  refine WP.region _ rfl (by kernel_rfl) ?_
  refine OPS.cons (opStep.box hp0 [.int .i64 e.Tag.Count, .int .i64 e.Tag.Client, .bool e.Fin, .bool e.Has, .slice e.Data.a e.Data.n e.Data.c] (by kernel_rfl) (fun g3 w1 hp2 => ?_))
  refine OPS.cons (opStep.box hp2 [.int .i64 f.Tag.Count, .int .i64 f.Tag.Client, .bool f.Fin, .bool f.Has, .slice f.Data.a f.Data.n f.Data.c] (by kernel_rfl) (fun g6 w4 hp5 => ?_))
  refine OPS.batch 1 {} [] [2, 3] [.pointer (some ⟨g3, 0, none⟩), .pointer (some ⟨g6, 0, none⟩)] .nil (by kernel_rfl) (fun b7 => ?_)
  refine OPS.nil ?_
  refine thn_n ?_
  refine WP.cut (fun e35 w36 => ∃ (x33 : Bool), (True) ∧ Bp x33 (((e.Tag.Count = f.Tag.Count) ∧ (e.Tag.Client = f.Tag.Client)) ∧ ((e.Fin = true) ↔ (f.Fin = true)) ∧ ((e.Has = true) ↔ (f.Has = true)) ∧ (d = x)) ∧ List.map e35 [4] = [.bool x33] ∧ Hp w Non [Res.row g6 [.int .i64 f.Tag.Count, .int .i64 f.Tag.Client, .bool f.Fin, .bool f.Has, .slice f.Data.a f.Data.n f.Data.c] 34, Res.row g3 [.int .i64 e.Tag.Count, .int .i64 e.Tag.Client, .bool e.Fin, .bool e.Has, .slice e.Data.a e.Data.n e.Data.c] 34] w36) ?_ ?_
  · refine WP.region _ rfl (by kernel_rfl) ?_
    refine OPS.batch 6 {} [.agg #[.int .i64 e.Tag.Count, .int .i64 e.Tag.Client], .agg #[.int .i64 f.Tag.Count, .int .i64 f.Tag.Client]] [2, 3, 10] [.pointer (some ⟨g3, 0, none⟩), .pointer (some ⟨g6, 0, none⟩), .bool ((decide (e.Tag.Count = f.Tag.Count)) && ((decide (e.Tag.Client = f.Tag.Client)) && true))] (.cons (show Ld Try.prog w4 31 ⟨g3, 0, none⟩ (.agg #[.int .i64 e.Tag.Count, .int .i64 e.Tag.Client]) from Ld.rowN (cs := [.int .i64 e.Tag.Count, .int .i64 e.Tag.Client]) hp5.get1 (by kernel_rfl)) (.cons (show Ld Try.prog w4 31 ⟨g6, 0, none⟩ (.agg #[.int .i64 f.Tag.Count, .int .i64 f.Tag.Client]) from Ld.rowN (cs := [.int .i64 f.Tag.Count, .int .i64 f.Tag.Client]) hp5.get0 (by kernel_rfl)) .nil)) (by kernel_rfl) (fun b9 => ?_)
    by_cases h10 : (e.Tag.Count = f.Tag.Count) ∧ (e.Tag.Client = f.Tag.Client)
    · refine OPS.batch 0 {} [] [2, 3, 10] [.pointer (some ⟨g3, 0, none⟩), .pointer (some ⟨g6, 0, none⟩), .bool ((decide (e.Tag.Count = f.Tag.Count)) && ((decide (e.Tag.Client = f.Tag.Client)) && true))] .nil (by kernel_rfl) (fun b11 => ?_)
      refine OPS.re [.pointer (some ⟨g3, 0, none⟩), .pointer (some ⟨g6, 0, none⟩), .bool true] (by rw [show ((decide (e.Tag.Count = f.Tag.Count)) && ((decide (e.Tag.Client = f.Tag.Client)) && true)) = true from (Bp.band Bp.dec (Bp.band1 Bp.dec)).tt h10]) ?_
      refine OPS.batch 7 { wraps := [16] } [.bool e.Fin, .bool f.Fin] [2, 3, 17] [.pointer (some ⟨g3, 0, none⟩), .pointer (some ⟨g6, 0, none⟩), .bool (e.Fin == f.Fin)] (.cons (Ld.row1 (P := Try.prog) (t := 4) (o := 2) (v := .bool e.Fin) hp5.get1 (by kernel_rfl)) (.cons (Ld.row1 (P := Try.prog) (t := 4) (o := 2) (v := .bool f.Fin) hp5.get0 (by kernel_rfl)) .nil)) (by kernel_rfl) (fun b12 => ?_)
      by_cases h13 : ((e.Fin = true) ↔ (f.Fin = true))
      · refine OPS.batch 0 {} [] [2, 3, 17] [.pointer (some ⟨g3, 0, none⟩), .pointer (some ⟨g6, 0, none⟩), .bool (e.Fin == f.Fin)] .nil (by kernel_rfl) (fun b14 => ?_)
        refine OPS.re [.pointer (some ⟨g3, 0, none⟩), .pointer (some ⟨g6, 0, none⟩), .bool true] (by rw [show (e.Fin == f.Fin) = true from (Bp.beq Bp.var Bp.var).tt h13]) ?_
        refine OPS.batch 7 { wraps := [23] } [.bool e.Has, .bool f.Has] [2, 3, 24] [.pointer (some ⟨g3, 0, none⟩), .pointer (some ⟨g6, 0, none⟩), .bool (e.Has == f.Has)] (.cons (Ld.row1 (P := Try.prog) (t := 4) (o := 3) (v := .bool e.Has) hp5.get1 (by kernel_rfl)) (.cons (Ld.row1 (P := Try.prog) (t := 4) (o := 3) (v := .bool f.Has) hp5.get0 (by kernel_rfl)) .nil)) (by kernel_rfl) (fun b15 => ?_)
        by_cases h16 : ((e.Has = true) ↔ (f.Has = true))
        · refine OPS.batch 0 {} [] [2, 3, 24] [.pointer (some ⟨g3, 0, none⟩), .pointer (some ⟨g6, 0, none⟩), .bool (e.Has == f.Has)] .nil (by kernel_rfl) (fun b17 => ?_)
          refine OPS.re [.pointer (some ⟨g3, 0, none⟩), .pointer (some ⟨g6, 0, none⟩), .bool true] (by rw [show (e.Has == f.Has) = true from (Bp.beq Bp.var Bp.var).tt h16]) ?_
          refine OPS.batch 4 {} [.slice e.Data.a e.Data.n e.Data.c, .slice f.Data.a f.Data.n f.Data.c] [24, 26, 28] [.bool true, .slice e.Data.a e.Data.n e.Data.c, .slice f.Data.a f.Data.n f.Data.c] (.cons (Ld.row1 (P := Try.prog) (t := 32) (o := 4) (v := .slice e.Data.a e.Data.n e.Data.c) hp5.get1 (by kernel_rfl)) (.cons (Ld.row1 (P := Try.prog) (t := 32) (o := 4) (v := .slice f.Data.a f.Data.n f.Data.c) hp5.get0 (by kernel_rfl)) .nil)) (by kernel_rfl) (fun b18 => ?_)
          refine OPS.want (by kernel_rfl) ?_
          refine OPS.cons (opStep.call (some 29) [.slice e.Data.a e.Data.n e.Data.c, .slice f.Data.a f.Data.n f.Data.c] (by kernel_rfl) (sb_c e.Data f.Data d x _ (k1.fram hp5.fr) (k2.fram hp5.fr) hb) ?_)
          rintro _ w21 ⟨b24, rfl, hb25, hf22⟩
          refine ⟨_, rfl, ?_⟩
          have hp23 := hp5.step hf22
          refine OPS.batch 2 { wraps := [30] } [] [4] [.bool b24] .nil (by kernel_rfl) (fun b26 => ?_)
          refine OPS.nil ?_
          refine thn_n ?_
          exact ⟨b24, trivial, Bp.of hb25 (by first | (simp only [h10, h13, h16, iff_false, false_iff, iff_true, true_iff, Classical.not_not, and_true, true_and, and_false, false_and, or_true, true_or, or_false, false_or, not_true_eq_false, not_false_eq_true, and_self, or_self, iff_self]; done) | (simp [h10, h13, h16]; done) | grind | (simp_all; done)), by kernel_rfl, hp23⟩
        · refine OPS.batch 0 {} [] [2, 3, 24] [.pointer (some ⟨g3, 0, none⟩), .pointer (some ⟨g6, 0, none⟩), .bool (e.Has == f.Has)] .nil (by kernel_rfl) (fun b27 => ?_)
          refine OPS.re [.pointer (some ⟨g3, 0, none⟩), .pointer (some ⟨g6, 0, none⟩), .bool false] (by rw [show (e.Has == f.Has) = false from (Bp.beq Bp.var Bp.var).ff h16]) ?_
          refine OPS.batch 7 { wraps := [30] } [] [4] [.bool false] .nil (by kernel_rfl) (fun b28 => ?_)
          refine OPS.nil ?_
          refine thn_n ?_
          exact ⟨false, trivial, Bp.of Bp.f (by first | (simp only [h10, h13, h16, iff_false, false_iff, iff_true, true_iff, Classical.not_not, and_true, true_and, and_false, false_and, or_true, true_or, or_false, false_or, not_true_eq_false, not_false_eq_true, and_self, or_self, iff_self]; done) | (simp [h10, h13, h16]; done) | grind | (simp_all; done)), by kernel_rfl, hp5⟩
      · refine OPS.batch 0 {} [] [2, 3, 17] [.pointer (some ⟨g3, 0, none⟩), .pointer (some ⟨g6, 0, none⟩), .bool (e.Fin == f.Fin)] .nil (by kernel_rfl) (fun b29 => ?_)
        refine OPS.re [.pointer (some ⟨g3, 0, none⟩), .pointer (some ⟨g6, 0, none⟩), .bool false] (by rw [show (e.Fin == f.Fin) = false from (Bp.beq Bp.var Bp.var).ff h13]) ?_
        refine OPS.batch 14 { wraps := [23, 30] } [] [4] [.bool false] .nil (by kernel_rfl) (fun b30 => ?_)
        refine OPS.nil ?_
        refine thn_n ?_
        exact ⟨false, trivial, Bp.of Bp.f (by first | (simp only [h10, h13, iff_false, false_iff, iff_true, true_iff, Classical.not_not, and_true, true_and, and_false, false_and, or_true, true_or, or_false, false_or, not_true_eq_false, not_false_eq_true, and_self, or_self, iff_self]; done) | (simp [h10, h13]; done) | grind | (simp_all; done)), by kernel_rfl, hp5⟩
    · refine OPS.batch 0 {} [] [2, 3, 10] [.pointer (some ⟨g3, 0, none⟩), .pointer (some ⟨g6, 0, none⟩), .bool ((decide (e.Tag.Count = f.Tag.Count)) && ((decide (e.Tag.Client = f.Tag.Client)) && true))] .nil (by kernel_rfl) (fun b31 => ?_)
      refine OPS.re [.pointer (some ⟨g3, 0, none⟩), .pointer (some ⟨g6, 0, none⟩), .bool false] (by rw [show ((decide (e.Tag.Count = f.Tag.Count)) && ((decide (e.Tag.Client = f.Tag.Client)) && true)) = false from (Bp.band Bp.dec (Bp.band1 Bp.dec)).ff h10]) ?_
      refine OPS.batch 21 { wraps := [16, 23, 30] } [] [4] [.bool false] .nil (by kernel_rfl) (fun b32 => ?_)
      refine OPS.nil ?_
      refine thn_n ?_
      exact ⟨false, trivial, Bp.of Bp.f (by first | (simp only [h10, iff_false, false_iff, iff_true, true_iff, Classical.not_not, and_true, true_and, and_false, false_and, or_true, true_or, or_false, false_or, not_true_eq_false, not_false_eq_true, and_self, or_self, iff_self]; done) | (simp [h10]; done) | grind | (simp_all; done)), by kernel_rfl, hp5⟩
  rintro e35 w36 ⟨x33, hd38, hb34, hE39, hp37⟩
  obtain ⟨b40, rfl⟩ := toMk hE39
  clear hE39
  clear hd38
  refine WP.ret ?_
  refine bodyQ.of _ rfl [.bool x33] ⟨rfl, trivial⟩ ?_
  exact ⟨_, rfl, Bp.of hb34 (by unfold SameE; rw [tag_eq (a := e.Tag)]; skip; first | grind | (simp_all; done)), hp37.fr⟩

theorem sc_c (C1 C2 : List Ce) (a1 a2 : Option Addr) (n1 n2 c1 c2 : Nat) (w : World) (m1 : n1 = C1.length) (m2 : n2 = C2.length) (hb : C1.length ≤ 1048600) (k1 : SlR w a1 n1 (C1.flatMap cC)) (k2 : SlR w a2 n2 (C2.flatMap cC)) (hc1 : CB w C1) (hc2 : CB w C2) :
    Calls Try.prog 10 #[.slice a1 n1 c1, .slice a2 n2 c2] w (fun r_ w' => ∃ f_, r_ = .returned (.bool f_) ∧ Bp f_ (C1.map itC = C2.map itC) ∧ Fram Non w w') := by
  refine calls_of Try.func10 rfl 42 rfl (by simp) ?_
  have hp0 := Hp.init w
  have he0 : List.map (env0 [.slice a1 n1 c1, .slice a2 n2 c2]) [0, 1] = [.slice a1 n1 c1, .slice a2 n2 c2] := by kernel_rfl
  obtain ⟨b0, he0⟩ := toMk he0
  rw [he0]
  clear he0
  refine WP.seq ?_
  refine WP.pure {} [] [0, 1] [.slice a1 n1 c1, .slice a2 n2 c2] .nil (by kernel_rfl) (fun b1 => ?_)
  refine thn_n ?_
  refine WP.seq ?_
  refine WP.seq ?_
  refine WP.pure {} [] [0, 1, 10] [.slice a1 n1 c1, .slice a2 n2 c2, .bool (decide (¬ (((n1 : Nat) : Int) = ((n2 : Nat) : Int))))] .nil (by kernel_rfl) (fun b2 => ?_)
  refine thn_n ?_
  refine WP.test (p := ¬ (((n1 : Nat) : Int) = ((n2 : Nat) : Int))) rfl Bp.dec (fun h3 => ?_) (fun h3 => ?_)
  · refine WP.seq ?_
    refine WP.pure {} [] [4] [.bool false] .nil (by kernel_rfl) (fun b4 => ?_)
    refine thn_n ?_
    refine WP.ret ?_
    refine thn_r ?_
    refine bodyQ.of _ rfl [.bool false] ⟨rfl, trivial⟩ ?_
    exact ⟨_, rfl, Bp.of Bp.f (by exact ⟨fun h => h.elim, fun h => h3 (by have := congrArg List.length h; rw [List.length_map, List.length_map] at this; omega)⟩), hp0.fr⟩
  · replace h3 := Classical.not_not.1 h3
    refine WP.skip ?_
    refine thn_n ?_
    refine WP.seq ?_
    refine WP.seq ?_
    refine WP.pure {} [] [0, 1, 12, 13] [.slice a1 n1 c1, .slice a2 n2 c2, .int .i64 ((n1 : Nat) : Int), .int .i64 0] .nil (by kernel_rfl) (fun b5 => ?_)
    refine thn_n ?_
    refine WP.block ?_
    refine WP.loop (fun mz_ e6 w7 => ∃ (k : Nat), mz_ = C1.length - k ∧ (k ≤ C1.length ∧ (C1.take k).map itC = (C2.take k).map itC) ∧ List.map e6 [0, 1, 12, 13] = [.slice a1 n1 c1, .slice a2 n2 c2, .int .i64 ((n1 : Nat) : Int), .int .i64 (k : Int)] ∧ Hp w Non [] w7) (C1.length - (0)) ⟨0, rfl, ⟨Nat.zero_le _, rfl⟩, by kernel_rfl, hp0⟩ ?_
    rintro _ e6 w7 ⟨k, rfl, hI9, hE10, hp8⟩
    obtain ⟨b11, rfl⟩ := toMk hE10
    clear hE10
    obtain ⟨q1, q2⟩ := hI9
    refine WP.seq ?_
    refine WP.pure {} [] [0, 1, 12, 13, 14] [.slice a1 n1 c1, .slice a2 n2 c2, .int .i64 ((n1 : Nat) : Int), .int .i64 (k : Int), .bool (decide ((k : Int) < ((n1 : Nat) : Int)))] .nil (by kernel_rfl) (fun b12 => ?_)
    refine thn_n ?_
    refine WP.seq ?_
    refine WP.test (p := (k : Int) < ((n1 : Nat) : Int)) rfl Bp.dec (fun h13 => ?_) (fun h13 => ?_)
    · refine WP.skip ?_
      refine thn_n ?_
      refine WP.seq ?_
      refine WP.block ?_
      refine WP.seq ?_
      refine WP.pure {} [] [0, 1, 5, 12, 13] [.slice a1 n1 c1, .slice a2 n2 c2, .int .i64 (k : Int), .int .i64 ((n1 : Nat) : Int), .int .i64 (k : Int)] .nil (by kernel_rfl) (fun b14 => ?_)
      refine thn_n ?_
      refine WP.cut (fun e46 w47 => ∃ (x44 : Bool), (True) ∧ Bp x44 (((¬ ((C1[k]!.c.key) = (C2[k]!.c.key)))) ∨ (((C1[k]!.c.key) = (C2[k]!.c.key)) ∧ (¬ (SameE C1[k]!.c.e C2[k]!.c.e C1[k]!.d C2[k]!.d)))) ∧ List.map e46 [0, 1, 12, 13, 40] = [.slice a1 n1 c1, .slice a2 n2 c2, .int .i64 ((n1 : Nat) : Int), .int .i64 (k : Int), .bool x44] ∧ Hp w Non [] w47) ?_ ?_
      · have hp18 := hp8.drew
        refine WP.quiet (fun w16 => Hp w Non [] w16) (by kernel_rfl) hp18 ?_
        have hnehp18 : ∃ wz_, (fun w16 => Hp w Non [] w16) wz_ := ⟨_, hp18⟩
        have hy22 : (C1)[k]? = some C1[k]! := get_bang (by first | (omega) | (simp only [List.length_append, List.length_cons, List.length_nil]; omega) | (simp only [List.length_take, List.length_append, List.length_cons, List.length_nil]; omega))
        have hy24 : (C2)[k]? = some C2[k]! := get_bang (by first | (omega) | (simp only [List.length_append, List.length_cons, List.length_nil]; omega) | (simp only [List.length_take, List.length_append, List.length_cons, List.length_nil]; omega))
        refine QOPS.batch 12 {} [.string (C1[k]!.c.key), .string (C2[k]!.c.key)] [0, 1, 5, 12, 13, 27] [.slice a1 n1 c1, .slice a2 n2 c2, .int .i64 (k : Int), .int .i64 ((n1 : Nat) : Int), .int .i64 (k : Int), .bool (decide (¬ ((C1[k]!.c.key) = (C2[k]!.c.key))))] hnehp18 (fun w19 hp20 => QB.mk (.cons (show InB ((k : Int)) (n1) from ⟨by omega, by omega⟩) (.cons ((SlR.fram k1 hp20.fr).some (by omega)) (.cons (Ld.add0 (Ld.el1 (P := Try.prog) (t := 9) (SlR.fram k1 hp20.fr).rd 6 (fun _ => rfl) hy22 (o := 0) (v := .string (C1[k]!.c.key)) (by kernel_rfl))) (.cons (show InB ((k : Int)) (n2) from ⟨by omega, by omega⟩) (.cons ((SlR.fram k2 hp20.fr).some (by omega)) (.cons (Ld.add0 (Ld.el1 (P := Try.prog) (t := 9) (SlR.fram k2 hp20.fr).rd 6 (fun _ => rfl) hy24 (o := 0) (v := .string (C2[k]!.c.key)) (by kernel_rfl))) .nil)))))) (by kernel_rfl)) (fun b25 => ?_)
        by_cases h26 : (C1[k]!.c.key) = (C2[k]!.c.key)
        · refine QOPS.batch 0 {} [] [0, 1, 5, 12, 13, 27] [.slice a1 n1 c1, .slice a2 n2 c2, .int .i64 (k : Int), .int .i64 ((n1 : Nat) : Int), .int .i64 (k : Int), .bool (decide (¬ ((C1[k]!.c.key) = (C2[k]!.c.key))))] hnehp18 (fun _ _ => QB.mk .nil (by kernel_rfl)) (fun b33 => ?_)
          refine QOPS.re [.slice a1 n1 c1, .slice a2 n2 c2, .int .i64 (k : Int), .int .i64 ((n1 : Nat) : Int), .int .i64 (k : Int), .bool false] (by rw [show (decide (¬ ((C1[k]!.c.key) = (C2[k]!.c.key)))) = false from Bp.dec.ff (fun k => k h26)]) ?_
          refine QOPS.batch 10 {} [.agg #[.int .i64 (C1[k]!.c.e.Tag.Count), .int .i64 (C1[k]!.c.e.Tag.Client), .bool (C1[k]!.c.e.Fin), .bool (C1[k]!.c.e.Has), .slice (C1[k]!.c.e.Data.a) (C1[k]!.c.e.Data.n) (C1[k]!.c.e.Data.c)], .agg #[.int .i64 (C2[k]!.c.e.Tag.Count), .int .i64 (C2[k]!.c.e.Tag.Client), .bool (C2[k]!.c.e.Fin), .bool (C2[k]!.c.e.Has), .slice (C2[k]!.c.e.Data.a) (C2[k]!.c.e.Data.n) (C2[k]!.c.e.Data.c)]] [0, 1, 12, 13, 27, 32, 37] [.slice a1 n1 c1, .slice a2 n2 c2, .int .i64 ((n1 : Nat) : Int), .int .i64 (k : Int), .bool false, .agg #[.int .i64 (C1[k]!.c.e.Tag.Count), .int .i64 (C1[k]!.c.e.Tag.Client), .bool (C1[k]!.c.e.Fin), .bool (C1[k]!.c.e.Has), .slice (C1[k]!.c.e.Data.a) (C1[k]!.c.e.Data.n) (C1[k]!.c.e.Data.c)], .agg #[.int .i64 (C2[k]!.c.e.Tag.Count), .int .i64 (C2[k]!.c.e.Tag.Client), .bool (C2[k]!.c.e.Fin), .bool (C2[k]!.c.e.Has), .slice (C2[k]!.c.e.Data.a) (C2[k]!.c.e.Data.n) (C2[k]!.c.e.Data.c)]] hnehp18 (fun w34 hp35 => QB.mk (.cons (show InB ((k : Int)) (n1) from ⟨by omega, by omega⟩) (.cons ((SlR.fram k1 hp35.fr).some (by omega)) (.cons (Ld.elN (P := Try.prog) (t := 34) (SlR.fram k1 hp35.fr).rd 6 (fun _ => rfl) hy22 (o := 1) (cs := [.int .i64 (C1[k]!.c.e.Tag.Count), .int .i64 (C1[k]!.c.e.Tag.Client), .bool (C1[k]!.c.e.Fin), .bool (C1[k]!.c.e.Has), .slice (C1[k]!.c.e.Data.a) (C1[k]!.c.e.Data.n) (C1[k]!.c.e.Data.c)]) (by kernel_rfl)) (.cons (show InB ((k : Int)) (n2) from ⟨by omega, by omega⟩) (.cons ((SlR.fram k2 hp35.fr).some (by omega)) (.cons (Ld.elN (P := Try.prog) (t := 34) (SlR.fram k2 hp35.fr).rd 6 (fun _ => rfl) hy24 (o := 1) (cs := [.int .i64 (C2[k]!.c.e.Tag.Count), .int .i64 (C2[k]!.c.e.Tag.Client), .bool (C2[k]!.c.e.Fin), .bool (C2[k]!.c.e.Has), .slice (C2[k]!.c.e.Data.a) (C2[k]!.c.e.Data.n) (C2[k]!.c.e.Data.c)]) (by kernel_rfl)) .nil)))))) (by kernel_rfl)) (fun b36 => ?_)
          refine QOPS.call (some 38) [.agg #[.int .i64 (C1[k]!.c.e.Tag.Count), .int .i64 (C1[k]!.c.e.Tag.Client), .bool (C1[k]!.c.e.Fin), .bool (C1[k]!.c.e.Has), .slice (C1[k]!.c.e.Data.a) (C1[k]!.c.e.Data.n) (C1[k]!.c.e.Data.c)], .agg #[.int .i64 (C2[k]!.c.e.Tag.Count), .int .i64 (C2[k]!.c.e.Tag.Client), .bool (C2[k]!.c.e.Fin), .bool (C2[k]!.c.e.Has), .slice (C2[k]!.c.e.Data.a) (C2[k]!.c.e.Data.n) (C2[k]!.c.e.Data.c)]] (by kernel_rfl) (fun w37 hp38 => (se_c (⟨(⟨C1[k]!.c.e.Tag.Count, C1[k]!.c.e.Tag.Client⟩ : GTag), C1[k]!.c.e.Fin, C1[k]!.c.e.Has, C1[k]!.c.e.Data⟩ : GEntry) (⟨(⟨C2[k]!.c.e.Tag.Count, C2[k]!.c.e.Tag.Client⟩ : GTag), C2[k]!.c.e.Fin, C2[k]!.c.e.Has, C2[k]!.c.e.Data⟩ : GEntry) _ _ _ ((hc1.fram hp38.fr).at (by omega)).1 ((hc2.fram hp38.fr).at (by omega)).1 (hc1.at (by omega)).2).mono fun _ _ h => by obtain ⟨b, h1, h2, h3⟩ := h; exact ⟨by rw [h1, h2.eq_bo], hp38.step h3⟩) ?_
          refine QOPS.batch 2 { wraps := [40] } [] [0, 1, 12, 13, 40] [.slice a1 n1 c1, .slice a2 n2 c2, .int .i64 ((n1 : Nat) : Int), .int .i64 (k : Int), .bool (!(bo (SameE C1[k]!.c.e C2[k]!.c.e C1[k]!.d C2[k]!.d)))] hnehp18 (fun w39 hp40 => QB.mk .nil (by kernel_rfl)) (fun b41 => ?_)
          refine QOPS.nil (fun w42 hp43 => ?_)
          refine thn_n ?_
          exact ⟨!(bo (SameE C1[k]!.c.e C2[k]!.c.e C1[k]!.d C2[k]!.d)), trivial, Bp.of (Bp.not Bp.bo) (by first | (simp only [h26, iff_false, false_iff, iff_true, true_iff, Classical.not_not, and_true, true_and, and_false, false_and, or_true, true_or, or_false, false_or, not_true_eq_false, not_false_eq_true, and_self, or_self, iff_self]; done) | (simp [h26]; done) | grind | (simp_all; done)), by kernel_rfl, hp43⟩
        · refine QOPS.batch 0 {} [] [0, 1, 5, 12, 13, 27] [.slice a1 n1 c1, .slice a2 n2 c2, .int .i64 (k : Int), .int .i64 ((n1 : Nat) : Int), .int .i64 (k : Int), .bool (decide (¬ ((C1[k]!.c.key) = (C2[k]!.c.key))))] hnehp18 (fun _ _ => QB.mk .nil (by kernel_rfl)) (fun b27 => ?_)
          refine QOPS.re [.slice a1 n1 c1, .slice a2 n2 c2, .int .i64 (k : Int), .int .i64 ((n1 : Nat) : Int), .int .i64 (k : Int), .bool true] (by rw [show (decide (¬ ((C1[k]!.c.key) = (C2[k]!.c.key)))) = true from Bp.dec.tt h26]) ?_
          refine QOPS.batch 13 { wraps := [40] } [] [0, 1, 12, 13, 40] [.slice a1 n1 c1, .slice a2 n2 c2, .int .i64 ((n1 : Nat) : Int), .int .i64 (k : Int), .bool true] hnehp18 (fun w28 hp29 => QB.mk .nil (by kernel_rfl)) (fun b30 => ?_)
          refine QOPS.nil (fun w31 hp32 => ?_)
          refine thn_n ?_
          exact ⟨true, trivial, Bp.of Bp.t (by first | (simp only [h26, iff_false, false_iff, iff_true, true_iff, Classical.not_not, and_true, true_and, and_false, false_and, or_true, true_or, or_false, false_or, not_true_eq_false, not_false_eq_true, and_self, or_self, iff_self]; done) | (simp [h26]; done) | grind | (simp_all; done)), by kernel_rfl, hp32⟩
      rintro e46 w47 ⟨x44, hd49, hb45, hE50, hp48⟩
      obtain ⟨b51, rfl⟩ := toMk hE50
      clear hE50
      clear hd49
      refine WP.test (p := ((¬ ((C1[k]!.c.key) = (C2[k]!.c.key)))) ∨ (((C1[k]!.c.key) = (C2[k]!.c.key)) ∧ (¬ (SameE C1[k]!.c.e C2[k]!.c.e C1[k]!.d C2[k]!.d)))) rfl hb45 (fun h52 => ?_) (fun h52 => ?_)
      · refine WP.seq ?_
        refine WP.pure {} [] [4] [.bool false] .nil (by kernel_rfl) (fun b53 => ?_)
        refine thn_n ?_
        refine WP.ret ?_
        refine blk_r ?_
        refine thn_r ?_
        refine thn_r ?_
        refine blk_r ?_
        refine thn_r ?_
        refine bodyQ.of _ rfl [.bool false] ⟨rfl, trivial⟩ ?_
        exact ⟨_, rfl, Bp.of Bp.f (by exact ⟨fun h => h.elim, fun h => by have h_ := h52; have z_ := itC_eq.1 (mapC_at h (k := k) (by omega)); first | exact h_ z_ | grind | (simp_all; done)⟩), hp48.fr⟩
      · refine WP.skip ?_
        refine blk_n ?_
        refine thn_n ?_
        refine WP.pure {} [] [0, 1, 12, 13] [.slice a1 n1 c1, .slice a2 n2 c2, .int .i64 ((n1 : Nat) : Int), .int .i64 ((k : Int) + 1)] (.cons (show Rng .i64 ((k : Int) + 1) from Rng.i64 (by omega)) .nil) (by kernel_rfl) (fun b54 => ?_)
        refine thn_n ?_
        exact ⟨C1.length - (k + 1), (by omega), k + 1, rfl, ⟨by omega, takeC_same (by omega) (by omega) q2 (itC_eq.2 (by have h_ := h52; first | exact h_ | grind | (simp_all; done)))⟩, by kernel_rfl, hp48⟩
    · refine WP.exit ?_
      refine thn_x ?_
      refine thn_x ?_
      refine blk_hit ?_
      refine thn_n ?_
      refine WP.seq ?_
      refine WP.pure {} [] [4] [.bool true] .nil (by kernel_rfl) (fun b55 => ?_)
      refine thn_n ?_
      refine WP.ret ?_
      refine bodyQ.of _ rfl [.bool true] ⟨rfl, trivial⟩ ?_
      exact ⟨_, rfl, Bp.of Bp.t (by exact ⟨fun _ => by rw [List.take_of_length_le (by omega), List.take_of_length_le (by omega)] at q2; exact q2, fun _ => trivial⟩), hp8.fr⟩

end Go.Proofs.Ytdkgdidnknojlaa.K
