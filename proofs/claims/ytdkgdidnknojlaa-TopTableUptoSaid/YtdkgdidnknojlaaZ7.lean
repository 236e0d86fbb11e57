/- Texts of this claim, merged: what the program's functions compute, and the rules that the walks use. -/
import Derived.Test.YtdkgdidnknojlaaProg
import Derived.Test.YtdkgdidnknojlaaZ1
import Derived.Test.YtdkgdidnknojlaaZ6
namespace Go.Proofs.Ytdkgdidnknojlaa.K
open Go Go.Proofs Go.RowKit
set_option linter.unusedVariables false
set_option linter.unusedSimpArgs false
set_option maxRecDepth 20000
set_option maxHeartbeats 4000000

/-- It may be an update. -/
def MayU (u : GUpdate) : Prop := 1 ≤ u.Key.size ∧ u.Key.size ≤ 64 ∧ tagProper u.Entry.Tag ∧ u.Entry.Data.n ≤ 65540 ∧ ((u.Kind = 1 ∧ u.Entry.Fin = false ∧ u.Entry.Has = false) ∨ (u.Kind = 2 ∧ u.Entry.Fin = false ∧ u.Entry.Has = false ∧ u.Entry.Data.n = 0) ∨ (u.Kind = 3 ∧ (u.Entry.Has = true ∨ u.Entry.Fin = true ∧ u.Entry.Data.n = 0)))
theorem key_nil (s : ByteArray) : s = ⟨#[]⟩ ↔ s.size = 0 := ⟨fun h => by rw [h]; rfl, ba_nil⟩
theorem not_zero {t : GTag} : (tagValid t ∧ ¬ tagZero t) ↔ tagProper t := by unfold tagValid tagZero tagProper; omega
theorem may_c (u : GUpdate) (w : World) :
    Calls Try.prog 20 #[GUpdate.val u] w (fun r_ w' => ∃ f_, r_ = .returned (.bool f_) ∧ Bp f_ (MayU u) ∧ Fram Non w w') := by
  refine calls_of Try.func20 rfl 74 rfl (by simp) ?_
  have hp0 := Hp.init w
  have he0 : List.map (env0 [GUpdate.val u]) [0] = [GUpdate.val u] := by kernel_rfl
  obtain ⟨b0, he0⟩ := toMk he0
  rw [he0]
  clear he0
  refine WP.seq ?_
  refine WP.region _ rfl (by kernel_rfl) ?_
  refine OPS.cons (opStep.box hp0 [.int .i64 u.Kind, .string u.Key, .int .i64 u.Entry.Tag.Count, .int .i64 u.Entry.Tag.Client, .bool u.Entry.Fin, .bool u.Entry.Has, .slice u.Entry.Data.a u.Entry.Data.n u.Entry.Data.c] (by kernel_rfl) (fun g3 w1 hp2 => ?_))
  refine OPS.batch 1 {} [] [1] [.pointer (some ⟨g3, 0, none⟩)] .nil (by kernel_rfl) (fun b4 => ?_)
  refine OPS.nil ?_
  refine thn_n ?_
  refine WP.seq ?_
  refine WP.region _ rfl (by kernel_rfl) ?_
  refine OPS.batch 2 {} [.agg #[.int .i64 u.Entry.Tag.Count, .int .i64 u.Entry.Tag.Client, .bool u.Entry.Fin, .bool u.Entry.Has, .slice u.Entry.Data.a u.Entry.Data.n u.Entry.Data.c]] [1, 5] [.pointer (some ⟨g3, 0, none⟩), .agg #[.int .i64 u.Entry.Tag.Count, .int .i64 u.Entry.Tag.Client, .bool u.Entry.Fin, .bool u.Entry.Has, .slice u.Entry.Data.a u.Entry.Data.n u.Entry.Data.c]] (.cons (show Ld Try.prog w1 34 ⟨g3, 2, none⟩ (.agg #[.int .i64 u.Entry.Tag.Count, .int .i64 u.Entry.Tag.Client, .bool u.Entry.Fin, .bool u.Entry.Has, .slice u.Entry.Data.a u.Entry.Data.n u.Entry.Data.c]) from Ld.rowN (cs := [.int .i64 u.Entry.Tag.Count, .int .i64 u.Entry.Tag.Client, .bool u.Entry.Fin, .bool u.Entry.Has, .slice u.Entry.Data.a u.Entry.Data.n u.Entry.Data.c]) hp2.get0 (by kernel_rfl)) .nil) (by kernel_rfl) (fun b5 => ?_)
  refine OPS.cons (opStep.alloc hp2 [.int .i64 0, .int .i64 0, .bool false, .bool false, .slice none 0 0] (by kernel_rfl) (fun g8 w6 hp7 => ?_))
  refine OPS.cons (opStep.store0 hp7 rfl [.int .i64 u.Entry.Tag.Count, .int .i64 u.Entry.Tag.Client, .bool u.Entry.Fin, .bool u.Entry.Has, .slice u.Entry.Data.a u.Entry.Data.n u.Entry.Data.c] [.int .i64 u.Entry.Tag.Count, .int .i64 u.Entry.Tag.Client, .bool u.Entry.Fin, .bool u.Entry.Has, .slice u.Entry.Data.a u.Entry.Data.n u.Entry.Data.c] (by kernel_rfl) (fun w9 hp10 => ?_))
  refine OPS.nil ?_
  refine thn_n ?_
  refine WP.seq ?_
  refine WP.cut (fun e49 w50 => ∃ (x47 : Bool), (True) ∧ Bp x47 (((u.Key = ⟨#[]⟩)) ∨ ((¬ (u.Key = ⟨#[]⟩)) ∧ (64 < (u.Key.size : Int))) ∨ ((¬ (u.Key = ⟨#[]⟩)) ∧ (¬ (64 < (u.Key.size : Int))) ∧ (¬ (tagValid u.Entry.Tag))) ∨ ((¬ (u.Key = ⟨#[]⟩)) ∧ (¬ (64 < (u.Key.size : Int))) ∧ (tagValid u.Entry.Tag) ∧ (tagZero u.Entry.Tag)) ∨ ((¬ (u.Key = ⟨#[]⟩)) ∧ (¬ (64 < (u.Key.size : Int))) ∧ (tagValid u.Entry.Tag) ∧ (¬ (tagZero u.Entry.Tag)) ∧ (65540 < ((u.Entry.Data.n : Nat) : Int)))) ∧ List.map e49 [1, 3, 31] = [.pointer (some ⟨g3, 0, none⟩), .pointer (some ⟨g8, 0, none⟩), .bool x47] ∧ Hp w Non [Res.row g8 [.int .i64 u.Entry.Tag.Count, .int .i64 u.Entry.Tag.Client, .bool u.Entry.Fin, .bool u.Entry.Has, .slice u.Entry.Data.a u.Entry.Data.n u.Entry.Data.c] 34, Res.row g3 [.int .i64 u.Kind, .string u.Key, .int .i64 u.Entry.Tag.Count, .int .i64 u.Entry.Tag.Client, .bool u.Entry.Fin, .bool u.Entry.Has, .slice u.Entry.Data.a u.Entry.Data.n u.Entry.Data.c] 36] w50) ?_ ?_
  · refine WP.region _ rfl (by kernel_rfl) ?_
    refine OPS.batch 4 {} [.string u.Key] [1, 3, 9] [.pointer (some ⟨g3, 0, none⟩), .pointer (some ⟨g8, 0, none⟩), .bool (decide (u.Key = ⟨#[]⟩))] (.cons (Ld.row1 (P := Try.prog) (t := 9) (o := 1) (v := .string u.Key) hp10.get1 (by kernel_rfl)) .nil) (by kernel_rfl) (fun b12 => ?_)
    by_cases h13 : u.Key = ⟨#[]⟩
    · refine OPS.batch 0 {} [] [1, 3, 9] [.pointer (some ⟨g3, 0, none⟩), .pointer (some ⟨g8, 0, none⟩), .bool (decide (u.Key = ⟨#[]⟩))] .nil (by kernel_rfl) (fun b14 => ?_)
      refine OPS.re [.pointer (some ⟨g3, 0, none⟩), .pointer (some ⟨g8, 0, none⟩), .bool true] (by rw [show (decide (u.Key = ⟨#[]⟩)) = true from Bp.dec.tt h13]) ?_
      refine OPS.batch 22 { wraps := [14, 20, 25, 31] } [] [1, 3, 31] [.pointer (some ⟨g3, 0, none⟩), .pointer (some ⟨g8, 0, none⟩), .bool true] .nil (by kernel_rfl) (fun b15 => ?_)
      refine OPS.nil ?_
      refine thn_n ?_
      exact ⟨true, trivial, Bp.of Bp.t (by first | (simp only [h13, iff_false, false_iff, iff_true, true_iff, Classical.not_not, and_true, true_and, and_false, false_and, or_true, true_or, or_false, false_or, not_true_eq_false, not_false_eq_true, and_self, or_self, iff_self]; done) | (simp [h13]; done) | grind | (simp_all; done)), by kernel_rfl, hp10⟩
    · refine OPS.batch 0 {} [] [1, 3, 9] [.pointer (some ⟨g3, 0, none⟩), .pointer (some ⟨g8, 0, none⟩), .bool (decide (u.Key = ⟨#[]⟩))] .nil (by kernel_rfl) (fun b16 => ?_)
      refine OPS.re [.pointer (some ⟨g3, 0, none⟩), .pointer (some ⟨g8, 0, none⟩), .bool false] (by rw [show (decide (u.Key = ⟨#[]⟩)) = false from Bp.dec.ff h13]) ?_
      refine OPS.batch 6 { wraps := [14] } [.string u.Key] [1, 3, 15] [.pointer (some ⟨g3, 0, none⟩), .pointer (some ⟨g8, 0, none⟩), .bool (decide (64 < (u.Key.size : Int)))] (.cons (Ld.row1 (P := Try.prog) (t := 9) (o := 1) (v := .string u.Key) hp10.get1 (by kernel_rfl)) .nil) (by kernel_rfl) (fun b17 => ?_)
      by_cases h18 : 64 < (u.Key.size : Int)
      · refine OPS.batch 0 {} [] [1, 3, 15] [.pointer (some ⟨g3, 0, none⟩), .pointer (some ⟨g8, 0, none⟩), .bool (decide (64 < (u.Key.size : Int)))] .nil (by kernel_rfl) (fun b19 => ?_)
        refine OPS.re [.pointer (some ⟨g3, 0, none⟩), .pointer (some ⟨g8, 0, none⟩), .bool true] (by rw [show (decide (64 < (u.Key.size : Int))) = true from Bp.dec.tt h18]) ?_
        refine OPS.batch 16 { wraps := [20, 25, 31] } [] [1, 3, 31] [.pointer (some ⟨g3, 0, none⟩), .pointer (some ⟨g8, 0, none⟩), .bool true] .nil (by kernel_rfl) (fun b20 => ?_)
        refine OPS.nil ?_
        refine thn_n ?_
        exact ⟨true, trivial, Bp.of Bp.t (by first | (simp only [h13, h18, iff_false, false_iff, iff_true, true_iff, Classical.not_not, and_true, true_and, and_false, false_and, or_true, true_or, or_false, false_or, not_true_eq_false, not_false_eq_true, and_self, or_self, iff_self]; done) | (simp [h13, h18]; done) | grind | (simp_all; done)), by kernel_rfl, hp10⟩
      · refine OPS.batch 0 {} [] [1, 3, 15] [.pointer (some ⟨g3, 0, none⟩), .pointer (some ⟨g8, 0, none⟩), .bool (decide (64 < (u.Key.size : Int)))] .nil (by kernel_rfl) (fun b21 => ?_)
        refine OPS.re [.pointer (some ⟨g3, 0, none⟩), .pointer (some ⟨g8, 0, none⟩), .bool false] (by rw [show (decide (64 < (u.Key.size : Int))) = false from Bp.dec.ff h18]) ?_
        refine OPS.batch 2 {} [.agg #[.int .i64 u.Entry.Tag.Count, .int .i64 u.Entry.Tag.Client]] [1, 3, 15, 17] [.pointer (some ⟨g3, 0, none⟩), .pointer (some ⟨g8, 0, none⟩), .bool false, .agg #[.int .i64 u.Entry.Tag.Count, .int .i64 u.Entry.Tag.Client]] (.cons (show Ld Try.prog w9 31 ⟨g8, 0, none⟩ (.agg #[.int .i64 u.Entry.Tag.Count, .int .i64 u.Entry.Tag.Client]) from Ld.rowN (cs := [.int .i64 u.Entry.Tag.Count, .int .i64 u.Entry.Tag.Client]) hp10.get0 (by kernel_rfl)) .nil) (by kernel_rfl) (fun b22 => ?_)
        refine OPS.want (by kernel_rfl) ?_
        refine OPS.cons (opStep.call (some 18) [.agg #[.int .i64 u.Entry.Tag.Count, .int .i64 u.Entry.Tag.Client]] (by kernel_rfl) (tag_Valid u.Entry.Tag _) ?_)
        rintro _ w25 ⟨b28, rfl, hb29, hf26⟩
        refine ⟨_, rfl, ?_⟩
        have hp27 := hp10.step hf26
        refine OPS.batch 3 { wraps := [20] } [] [1, 3, 21] [.pointer (some ⟨g3, 0, none⟩), .pointer (some ⟨g8, 0, none⟩), .bool (!b28)] .nil (by kernel_rfl) (fun b30 => ?_)
        by_cases h31 : tagValid u.Entry.Tag
        · refine OPS.batch 0 {} [] [1, 3, 21] [.pointer (some ⟨g3, 0, none⟩), .pointer (some ⟨g8, 0, none⟩), .bool (!b28)] .nil (by kernel_rfl) (fun b34 => ?_)
          refine OPS.re [.pointer (some ⟨g3, 0, none⟩), .pointer (some ⟨g8, 0, none⟩), .bool false] (by rw [show (!b28) = false from (Bp.not hb29).ff (fun k => k h31)]) ?_
          refine OPS.batch 2 {} [.agg #[.int .i64 u.Entry.Tag.Count, .int .i64 u.Entry.Tag.Client]] [1, 3, 21, 23] [.pointer (some ⟨g3, 0, none⟩), .pointer (some ⟨g8, 0, none⟩), .bool false, .agg #[.int .i64 u.Entry.Tag.Count, .int .i64 u.Entry.Tag.Client]] (.cons (show Ld Try.prog w25 31 ⟨g8, 0, none⟩ (.agg #[.int .i64 u.Entry.Tag.Count, .int .i64 u.Entry.Tag.Client]) from Ld.rowN (cs := [.int .i64 u.Entry.Tag.Count, .int .i64 u.Entry.Tag.Client]) hp27.get0 (by kernel_rfl)) .nil) (by kernel_rfl) (fun b35 => ?_)
          refine OPS.want (by kernel_rfl) ?_
          refine OPS.cons (opStep.call (some 24) [.agg #[.int .i64 u.Entry.Tag.Count, .int .i64 u.Entry.Tag.Client]] (by kernel_rfl) (tag_Zero u.Entry.Tag _) ?_)
          rintro _ w38 ⟨b41, rfl, hb42, hf39⟩
          refine ⟨_, rfl, ?_⟩
          have hp40 := hp27.step hf39
          refine OPS.batch 2 { wraps := [25] } [] [1, 3, 26] [.pointer (some ⟨g3, 0, none⟩), .pointer (some ⟨g8, 0, none⟩), .bool b41] .nil (by kernel_rfl) (fun b43 => ?_)
          by_cases h44 : tagZero u.Entry.Tag
          · rw [show b41 = true from hb42.tt h44]
            refine OPS.batch 5 { wraps := [31] } [] [1, 3, 31] [.pointer (some ⟨g3, 0, none⟩), .pointer (some ⟨g8, 0, none⟩), .bool true] .nil (by kernel_rfl) (fun b45 => ?_)
            refine OPS.nil ?_
            refine thn_n ?_
            exact ⟨true, trivial, Bp.of Bp.t (by first | (simp only [h13, h18, h31, h44, iff_false, false_iff, iff_true, true_iff, Classical.not_not, and_true, true_and, and_false, false_and, or_true, true_or, or_false, false_or, not_true_eq_false, not_false_eq_true, and_self, or_self, iff_self]; done) | (simp [h13, h18, h31, h44]; done) | grind | (simp_all; done)), by kernel_rfl, hp40⟩
          · rw [show b41 = false from hb42.ff h44]
            refine OPS.batch 5 { wraps := [31] } [.slice u.Entry.Data.a u.Entry.Data.n u.Entry.Data.c] [1, 3, 31] [.pointer (some ⟨g3, 0, none⟩), .pointer (some ⟨g8, 0, none⟩), .bool (decide (65540 < ((u.Entry.Data.n : Nat) : Int)))] (.cons (Ld.row1 (P := Try.prog) (t := 32) (o := 4) (v := .slice u.Entry.Data.a u.Entry.Data.n u.Entry.Data.c) hp40.get0 (by kernel_rfl)) .nil) (by kernel_rfl) (fun b46 => ?_)
            refine OPS.nil ?_
            refine thn_n ?_
            exact ⟨decide (65540 < ((u.Entry.Data.n : Nat) : Int)), trivial, Bp.of Bp.dec (by first | (simp only [h13, h18, h31, h44, iff_false, false_iff, iff_true, true_iff, Classical.not_not, and_true, true_and, and_false, false_and, or_true, true_or, or_false, false_or, not_true_eq_false, not_false_eq_true, and_self, or_self, iff_self]; done) | (simp [h13, h18, h31, h44]; done) | grind | (simp_all; done)), by kernel_rfl, hp40⟩
        · refine OPS.batch 0 {} [] [1, 3, 21] [.pointer (some ⟨g3, 0, none⟩), .pointer (some ⟨g8, 0, none⟩), .bool (!b28)] .nil (by kernel_rfl) (fun b32 => ?_)
          refine OPS.re [.pointer (some ⟨g3, 0, none⟩), .pointer (some ⟨g8, 0, none⟩), .bool true] (by rw [show (!b28) = true from (Bp.not hb29).tt h31]) ?_
          refine OPS.batch 10 { wraps := [25, 31] } [] [1, 3, 31] [.pointer (some ⟨g3, 0, none⟩), .pointer (some ⟨g8, 0, none⟩), .bool true] .nil (by kernel_rfl) (fun b33 => ?_)
          refine OPS.nil ?_
          refine thn_n ?_
          exact ⟨true, trivial, Bp.of Bp.t (by first | (simp only [h13, h18, h31, iff_false, false_iff, iff_true, true_iff, Classical.not_not, and_true, true_and, and_false, false_and, or_true, true_or, or_false, false_or, not_true_eq_false, not_false_eq_true, and_self, or_self, iff_self]; done) | (simp [h13, h18, h31]; done) | grind | (simp_all; done)), by kernel_rfl, hp27⟩
  rintro e49 w50 ⟨x47, hd52, hb48, hE53, hp51⟩
  obtain ⟨b54, rfl⟩ := toMk hE53
  clear hE53
  clear hd52
  refine WP.test (p := ((u.Key = ⟨#[]⟩)) ∨ ((¬ (u.Key = ⟨#[]⟩)) ∧ (64 < (u.Key.size : Int))) ∨ ((¬ (u.Key = ⟨#[]⟩)) ∧ (¬ (64 < (u.Key.size : Int))) ∧ (¬ (tagValid u.Entry.Tag))) ∨ ((¬ (u.Key = ⟨#[]⟩)) ∧ (¬ (64 < (u.Key.size : Int))) ∧ (tagValid u.Entry.Tag) ∧ (tagZero u.Entry.Tag)) ∨ ((¬ (u.Key = ⟨#[]⟩)) ∧ (¬ (64 < (u.Key.size : Int))) ∧ (tagValid u.Entry.Tag) ∧ (¬ (tagZero u.Entry.Tag)) ∧ (65540 < ((u.Entry.Data.n : Nat) : Int)))) rfl hb48 (fun h55 => ?_) (fun h55 => ?_)
  · refine WP.seq ?_
    refine WP.pure {} [] [2] [.bool false] .nil (by kernel_rfl) (fun b56 => ?_)
    refine thn_n ?_
    refine WP.ret ?_
    refine thn_r ?_
    refine bodyQ.of _ rfl [.bool false] ⟨rfl, trivial⟩ ?_
    exact ⟨_, rfl, Bp.of Bp.f (by have hk0 := key_nil u.Key; have hnz := not_zero (t := u.Entry.Tag); unfold MayU; have q0_ := h55; first | omega | grind | (simp_all; done) | (simp_all; omega)), hp51.fr⟩
  · refine WP.skip ?_
    refine thn_n ?_
    refine WP.seq ?_
    refine WP.seq ?_
    refine WP.pure {} [.int .i64 u.Kind] [3, 33] [.pointer (some ⟨g8, 0, none⟩), .int .i64 u.Kind] (.cons (Ld.row1 (P := Try.prog) (t := 3) (o := 0) (v := .int .i64 u.Kind) hp51.get1 (by kernel_rfl)) .nil) (by kernel_rfl) (fun b57 => ?_)
    refine thn_n ?_
    refine WP.block ?_
    refine WP.seq ?_
    refine WP.pure {} [] [3, 33, 34] [.pointer (some ⟨g8, 0, none⟩), .int .i64 u.Kind, .bool (decide (u.Kind = 1))] .nil (by kernel_rfl) (fun b58 => ?_)
    refine thn_n ?_
    refine WP.test (p := u.Kind = 1) rfl Bp.dec (fun h59 => ?_) (fun h59 => ?_)
    · refine WP.cut (fun e69 w70 => ∃ (x67 : Bool), (True) ∧ Bp x67 ((¬ (u.Entry.Fin = true)) ∧ (¬ (u.Entry.Has = true))) ∧ List.map e69 [2] = [.bool x67] ∧ Hp w Non [Res.row g8 [.int .i64 u.Entry.Tag.Count, .int .i64 u.Entry.Tag.Client, .bool u.Entry.Fin, .bool u.Entry.Has, .slice u.Entry.Data.a u.Entry.Data.n u.Entry.Data.c] 34, Res.row g3 [.int .i64 u.Kind, .string u.Key, .int .i64 u.Entry.Tag.Count, .int .i64 u.Entry.Tag.Client, .bool u.Entry.Fin, .bool u.Entry.Has, .slice u.Entry.Data.a u.Entry.Data.n u.Entry.Data.c] 36] w70) ?_ ?_
      · refine WP.region _ rfl (by kernel_rfl) ?_
        refine OPS.batch 4 {} [.bool u.Entry.Fin] [3, 39] [.pointer (some ⟨g8, 0, none⟩), .bool (!u.Entry.Fin)] (.cons (Ld.row1 (P := Try.prog) (t := 4) (o := 2) (v := .bool u.Entry.Fin) hp51.get0 (by kernel_rfl)) .nil) (by kernel_rfl) (fun b61 => ?_)
        by_cases h62 : u.Entry.Fin = true
        · refine OPS.batch 0 {} [] [3, 39] [.pointer (some ⟨g8, 0, none⟩), .bool (!u.Entry.Fin)] .nil (by kernel_rfl) (fun b65 => ?_)
          refine OPS.re [.pointer (some ⟨g8, 0, none⟩), .bool false] (by rw [show (!u.Entry.Fin) = false from (Bp.not Bp.var).ff (fun k => k h62)]) ?_
          refine OPS.batch 5 { wraps := [43] } [] [2] [.bool false] .nil (by kernel_rfl) (fun b66 => ?_)
          refine OPS.nil ?_
          refine thn_n ?_
          exact ⟨false, trivial, Bp.of Bp.f (by first | (simp only [h62, iff_false, false_iff, iff_true, true_iff, Classical.not_not, and_true, true_and, and_false, false_and, or_true, true_or, or_false, false_or, not_true_eq_false, not_false_eq_true, and_self, or_self, iff_self]; done) | (simp [h62]; done) | grind | (simp_all; done)), by kernel_rfl, hp51⟩
        · refine OPS.batch 0 {} [] [3, 39] [.pointer (some ⟨g8, 0, none⟩), .bool (!u.Entry.Fin)] .nil (by kernel_rfl) (fun b63 => ?_)
          refine OPS.re [.pointer (some ⟨g8, 0, none⟩), .bool true] (by rw [show (!u.Entry.Fin) = true from (Bp.not Bp.var).tt h62]) ?_
          refine OPS.batch 5 { wraps := [43] } [.bool u.Entry.Has] [2] [.bool (!u.Entry.Has)] (.cons (Ld.row1 (P := Try.prog) (t := 4) (o := 3) (v := .bool u.Entry.Has) hp51.get0 (by kernel_rfl)) .nil) (by kernel_rfl) (fun b64 => ?_)
          refine OPS.nil ?_
          refine thn_n ?_
          exact ⟨!u.Entry.Has, trivial, Bp.of (Bp.not Bp.var) (by first | (simp only [h62, iff_false, false_iff, iff_true, true_iff, Classical.not_not, and_true, true_and, and_false, false_and, or_true, true_or, or_false, false_or, not_true_eq_false, not_false_eq_true, and_self, or_self, iff_self]; done) | (simp [h62]; done) | grind | (simp_all; done)), by kernel_rfl, hp51⟩
      rintro e69 w70 ⟨x67, hd72, hb68, hE73, hp71⟩
      obtain ⟨b74, rfl⟩ := toMk hE73
      clear hE73
      clear hd72
      refine WP.ret ?_
      refine blk_r ?_
      refine thn_r ?_
      refine bodyQ.of _ rfl [.bool x67] ⟨rfl, trivial⟩ ?_
      exact ⟨_, rfl, Bp.of hb68 (by have hk0 := key_nil u.Key; have hnz := not_zero (t := u.Entry.Tag); unfold MayU; have q0_ := h55; have q1_ := h59; first | omega | grind | (simp_all; done) | (simp_all; omega)), hp71.fr⟩
    · refine WP.seq ?_
      refine WP.pure {} [] [3, 33, 44] [.pointer (some ⟨g8, 0, none⟩), .int .i64 u.Kind, .bool (decide (u.Kind = 2))] .nil (by kernel_rfl) (fun b75 => ?_)
      refine thn_n ?_
      refine WP.test (p := u.Kind = 2) rfl Bp.dec (fun h76 => ?_) (fun h76 => ?_)
      · refine WP.cut (fun e91 w92 => ∃ (x89 : Bool), (True) ∧ Bp x89 ((¬ (u.Entry.Fin = true)) ∧ (¬ (u.Entry.Has = true)) ∧ (((u.Entry.Data.n : Nat) : Int) = 0)) ∧ List.map e91 [2] = [.bool x89] ∧ Hp w Non [Res.row g8 [.int .i64 u.Entry.Tag.Count, .int .i64 u.Entry.Tag.Client, .bool u.Entry.Fin, .bool u.Entry.Has, .slice u.Entry.Data.a u.Entry.Data.n u.Entry.Data.c] 34, Res.row g3 [.int .i64 u.Kind, .string u.Key, .int .i64 u.Entry.Tag.Count, .int .i64 u.Entry.Tag.Client, .bool u.Entry.Fin, .bool u.Entry.Has, .slice u.Entry.Data.a u.Entry.Data.n u.Entry.Data.c] 36] w92) ?_ ?_
        · refine WP.region _ rfl (by kernel_rfl) ?_
          refine OPS.batch 4 {} [.bool u.Entry.Fin] [3, 49] [.pointer (some ⟨g8, 0, none⟩), .bool (!u.Entry.Fin)] (.cons (Ld.row1 (P := Try.prog) (t := 4) (o := 2) (v := .bool u.Entry.Fin) hp51.get0 (by kernel_rfl)) .nil) (by kernel_rfl) (fun b78 => ?_)
          by_cases h79 : u.Entry.Fin = true
          · refine OPS.batch 0 {} [] [3, 49] [.pointer (some ⟨g8, 0, none⟩), .bool (!u.Entry.Fin)] .nil (by kernel_rfl) (fun b87 => ?_)
            refine OPS.re [.pointer (some ⟨g8, 0, none⟩), .bool false] (by rw [show (!u.Entry.Fin) = false from (Bp.not Bp.var).ff (fun k => k h79)]) ?_
            refine OPS.batch 11 { wraps := [53, 59] } [] [2] [.bool false] .nil (by kernel_rfl) (fun b88 => ?_)
            refine OPS.nil ?_
            refine thn_n ?_
            exact ⟨false, trivial, Bp.of Bp.f (by first | (simp only [h79, iff_false, false_iff, iff_true, true_iff, Classical.not_not, and_true, true_and, and_false, false_and, or_true, true_or, or_false, false_or, not_true_eq_false, not_false_eq_true, and_self, or_self, iff_self]; done) | (simp [h79]; done) | grind | (simp_all; done)), by kernel_rfl, hp51⟩
          · refine OPS.batch 0 {} [] [3, 49] [.pointer (some ⟨g8, 0, none⟩), .bool (!u.Entry.Fin)] .nil (by kernel_rfl) (fun b80 => ?_)
            refine OPS.re [.pointer (some ⟨g8, 0, none⟩), .bool true] (by rw [show (!u.Entry.Fin) = true from (Bp.not Bp.var).tt h79]) ?_
            refine OPS.batch 5 { wraps := [53] } [.bool u.Entry.Has] [3, 54] [.pointer (some ⟨g8, 0, none⟩), .bool (!u.Entry.Has)] (.cons (Ld.row1 (P := Try.prog) (t := 4) (o := 3) (v := .bool u.Entry.Has) hp51.get0 (by kernel_rfl)) .nil) (by kernel_rfl) (fun b81 => ?_)
            by_cases h82 : u.Entry.Has = true
            · refine OPS.batch 0 {} [] [3, 54] [.pointer (some ⟨g8, 0, none⟩), .bool (!u.Entry.Has)] .nil (by kernel_rfl) (fun b85 => ?_)
              refine OPS.re [.pointer (some ⟨g8, 0, none⟩), .bool false] (by rw [show (!u.Entry.Has) = false from (Bp.not Bp.var).ff (fun k => k h82)]) ?_
              refine OPS.batch 6 { wraps := [59] } [] [2] [.bool false] .nil (by kernel_rfl) (fun b86 => ?_)
              refine OPS.nil ?_
              refine thn_n ?_
              exact ⟨false, trivial, Bp.of Bp.f (by first | (simp only [h79, h82, iff_false, false_iff, iff_true, true_iff, Classical.not_not, and_true, true_and, and_false, false_and, or_true, true_or, or_false, false_or, not_true_eq_false, not_false_eq_true, and_self, or_self, iff_self]; done) | (simp [h79, h82]; done) | grind | (simp_all; done)), by kernel_rfl, hp51⟩
            · refine OPS.batch 0 {} [] [3, 54] [.pointer (some ⟨g8, 0, none⟩), .bool (!u.Entry.Has)] .nil (by kernel_rfl) (fun b83 => ?_)
              refine OPS.re [.pointer (some ⟨g8, 0, none⟩), .bool true] (by rw [show (!u.Entry.Has) = true from (Bp.not Bp.var).tt h82]) ?_
              refine OPS.batch 6 { wraps := [59] } [.slice u.Entry.Data.a u.Entry.Data.n u.Entry.Data.c] [2] [.bool (decide (((u.Entry.Data.n : Nat) : Int) = 0))] (.cons (Ld.row1 (P := Try.prog) (t := 32) (o := 4) (v := .slice u.Entry.Data.a u.Entry.Data.n u.Entry.Data.c) hp51.get0 (by kernel_rfl)) .nil) (by kernel_rfl) (fun b84 => ?_)
              refine OPS.nil ?_
              refine thn_n ?_
              exact ⟨decide (((u.Entry.Data.n : Nat) : Int) = 0), trivial, Bp.of Bp.dec (by first | (simp only [h79, h82, iff_false, false_iff, iff_true, true_iff, Classical.not_not, and_true, true_and, and_false, false_and, or_true, true_or, or_false, false_or, not_true_eq_false, not_false_eq_true, and_self, or_self, iff_self]; done) | (simp [h79, h82]; done) | grind | (simp_all; done)), by kernel_rfl, hp51⟩
        rintro e91 w92 ⟨x89, hd94, hb90, hE95, hp93⟩
        obtain ⟨b96, rfl⟩ := toMk hE95
        clear hE95
        clear hd94
        refine WP.ret ?_
        refine blk_r ?_
        refine thn_r ?_
        refine bodyQ.of _ rfl [.bool x89] ⟨rfl, trivial⟩ ?_
        exact ⟨_, rfl, Bp.of hb90 (by have hk0 := key_nil u.Key; have hnz := not_zero (t := u.Entry.Tag); unfold MayU; have q0_ := h55; have q1_ := h59; have q2_ := h76; first | omega | grind | (simp_all; done) | (simp_all; omega)), hp93.fr⟩
      · refine WP.seq ?_
        refine WP.pure {} [] [3, 60] [.pointer (some ⟨g8, 0, none⟩), .bool (decide (u.Kind = 3))] .nil (by kernel_rfl) (fun b97 => ?_)
        refine thn_n ?_
        refine WP.test (p := u.Kind = 3) rfl Bp.dec (fun h98 => ?_) (fun h98 => ?_)
        · refine WP.cut (fun e113 w114 => ∃ (x111 : Bool), (True) ∧ Bp x111 (((u.Entry.Has = true)) ∨ ((¬ (u.Entry.Has = true)) ∧ (u.Entry.Fin = true) ∧ (((u.Entry.Data.n : Nat) : Int) = 0))) ∧ List.map e113 [2] = [.bool x111] ∧ Hp w Non [Res.row g8 [.int .i64 u.Entry.Tag.Count, .int .i64 u.Entry.Tag.Client, .bool u.Entry.Fin, .bool u.Entry.Has, .slice u.Entry.Data.a u.Entry.Data.n u.Entry.Data.c] 34, Res.row g3 [.int .i64 u.Kind, .string u.Key, .int .i64 u.Entry.Tag.Count, .int .i64 u.Entry.Tag.Client, .bool u.Entry.Fin, .bool u.Entry.Has, .slice u.Entry.Data.a u.Entry.Data.n u.Entry.Data.c] 36] w114) ?_ ?_
          · refine WP.region _ rfl (by kernel_rfl) ?_
            refine OPS.batch 3 {} [.bool u.Entry.Has] [3, 64] [.pointer (some ⟨g8, 0, none⟩), .bool u.Entry.Has] (.cons (Ld.row1 (P := Try.prog) (t := 4) (o := 3) (v := .bool u.Entry.Has) hp51.get0 (by kernel_rfl)) .nil) (by kernel_rfl) (fun b100 => ?_)
            by_cases h101 : u.Entry.Has = true
            · refine OPS.batch 0 {} [] [3, 64] [.pointer (some ⟨g8, 0, none⟩), .bool u.Entry.Has] .nil (by kernel_rfl) (fun b102 => ?_)
              refine OPS.re [.pointer (some ⟨g8, 0, none⟩), .bool true] (by rw [show u.Entry.Has = true from Bp.var.tt h101]) ?_
              refine OPS.batch 10 { wraps := [73] } [] [2] [.bool true] .nil (by kernel_rfl) (fun b103 => ?_)
              refine OPS.nil ?_
              refine thn_n ?_
              exact ⟨true, trivial, Bp.of Bp.t (by first | (simp only [h101, iff_false, false_iff, iff_true, true_iff, Classical.not_not, and_true, true_and, and_false, false_and, or_true, true_or, or_false, false_or, not_true_eq_false, not_false_eq_true, and_self, or_self, iff_self]; done) | (simp [h101]; done) | grind | (simp_all; done)), by kernel_rfl, hp51⟩
            · refine OPS.batch 0 {} [] [3, 64] [.pointer (some ⟨g8, 0, none⟩), .bool u.Entry.Has] .nil (by kernel_rfl) (fun b104 => ?_)
              refine OPS.re [.pointer (some ⟨g8, 0, none⟩), .bool false] (by rw [show u.Entry.Has = false from Bp.var.ff h101]) ?_
              refine OPS.batch 3 {} [.bool u.Entry.Fin] [3, 64, 67] [.pointer (some ⟨g8, 0, none⟩), .bool false, .bool u.Entry.Fin] (.cons (Ld.row1 (P := Try.prog) (t := 4) (o := 2) (v := .bool u.Entry.Fin) hp51.get0 (by kernel_rfl)) .nil) (by kernel_rfl) (fun b105 => ?_)
              by_cases h106 : u.Entry.Fin = true
              · refine OPS.batch 0 {} [] [3, 64, 67] [.pointer (some ⟨g8, 0, none⟩), .bool false, .bool u.Entry.Fin] .nil (by kernel_rfl) (fun b107 => ?_)
                refine OPS.re [.pointer (some ⟨g8, 0, none⟩), .bool false, .bool true] (by rw [show u.Entry.Fin = true from Bp.var.tt h106]) ?_
                refine OPS.batch 7 { wraps := [72, 73] } [.slice u.Entry.Data.a u.Entry.Data.n u.Entry.Data.c] [2] [.bool (decide (((u.Entry.Data.n : Nat) : Int) = 0))] (.cons (Ld.row1 (P := Try.prog) (t := 32) (o := 4) (v := .slice u.Entry.Data.a u.Entry.Data.n u.Entry.Data.c) hp51.get0 (by kernel_rfl)) .nil) (by kernel_rfl) (fun b108 => ?_)
                refine OPS.nil ?_
                refine thn_n ?_
                exact ⟨decide (((u.Entry.Data.n : Nat) : Int) = 0), trivial, Bp.of Bp.dec (by first | (simp only [h101, h106, iff_false, false_iff, iff_true, true_iff, Classical.not_not, and_true, true_and, and_false, false_and, or_true, true_or, or_false, false_or, not_true_eq_false, not_false_eq_true, and_self, or_self, iff_self]; done) | (simp [h101, h106]; done) | grind | (simp_all; done)), by kernel_rfl, hp51⟩
              · refine OPS.batch 0 {} [] [3, 64, 67] [.pointer (some ⟨g8, 0, none⟩), .bool false, .bool u.Entry.Fin] .nil (by kernel_rfl) (fun b109 => ?_)
                refine OPS.re [.pointer (some ⟨g8, 0, none⟩), .bool false, .bool false] (by rw [show u.Entry.Fin = false from Bp.var.ff h106]) ?_
                refine OPS.batch 7 { wraps := [72, 73] } [] [2] [.bool false] .nil (by kernel_rfl) (fun b110 => ?_)
                refine OPS.nil ?_
                refine thn_n ?_
                exact ⟨false, trivial, Bp.of Bp.f (by first | (simp only [h101, h106, iff_false, false_iff, iff_true, true_iff, Classical.not_not, and_true, true_and, and_false, false_and, or_true, true_or, or_false, false_or, not_true_eq_false, not_false_eq_true, and_self, or_self, iff_self]; done) | (simp [h101, h106]; done) | grind | (simp_all; done)), by kernel_rfl, hp51⟩
          rintro e113 w114 ⟨x111, hd116, hb112, hE117, hp115⟩
          obtain ⟨b118, rfl⟩ := toMk hE117
          clear hE117
          clear hd116
          refine WP.ret ?_
          refine blk_r ?_
          refine thn_r ?_
          refine bodyQ.of _ rfl [.bool x111] ⟨rfl, trivial⟩ ?_
          exact ⟨_, rfl, Bp.of hb112 (by have hk0 := key_nil u.Key; have hnz := not_zero (t := u.Entry.Tag); unfold MayU; have q0_ := h55; have q1_ := h59; have q2_ := h76; have q3_ := h98; first | omega | grind | (simp_all; done) | (simp_all; omega)), hp115.fr⟩
        · refine WP.skip ?_
          refine blk_n ?_
          refine thn_n ?_
          refine WP.seq ?_
          refine WP.pure {} [] [2] [.bool false] .nil (by kernel_rfl) (fun b119 => ?_)
          refine thn_n ?_
          refine WP.ret ?_
          refine bodyQ.of _ rfl [.bool false] ⟨rfl, trivial⟩ ?_
          exact ⟨_, rfl, Bp.of Bp.f (by have hk0 := key_nil u.Key; have hnz := not_zero (t := u.Entry.Tag); unfold MayU; have q0_ := h55; have q1_ := h59; have q2_ := h76; have q3_ := h98; first | omega | grind | (simp_all; done) | (simp_all; omega)), hp51.fr⟩

theorem tagFits_c (t : GTag) (w : World) :
    Calls Try.prog 25 #[GTag.val t, .bool false] w (fun r_ w' => ∃ f_, r_ = .returned (.bool f_) ∧ Bp f_ (tagProper t) ∧ Fram Non w w') := by
  refine calls_of Try.func25 rfl 27 rfl (by simp) ?_
  have hp0 := Hp.init w
  have he0 : List.map (env0 [GTag.val t, .bool false]) [0, 1] = [GTag.val t, .bool false] := by kernel_rfl
  obtain ⟨b0, he0⟩ := toMk he0
  rw [he0]
  clear he0
  refine WP.seq ?_
  refine WP.region _ rfl (by kernel_rfl) ?_
  refine OPS.cons (opStep.box hp0 [.int .i64 t.Count, .int .i64 t.Client] (by kernel_rfl) (fun g3 w1 hp2 => ?_))
  refine OPS.batch 1 {} [] [1, 2] [.bool false, .pointer (some ⟨g3, 0, none⟩)] .nil (by kernel_rfl) (fun b4 => ?_)
  refine OPS.nil ?_
  refine thn_n ?_
  refine WP.seq ?_
  refine WP.seq ?_
  refine WP.pure {} [GTag.val t] [1, 2, 7] [.bool false, .pointer (some ⟨g3, 0, none⟩), .bool ((decide (t.Count = 0)) && ((decide (t.Client = 0)) && true))] (.cons (show Ld Try.prog w1 31 ⟨g3, 0, none⟩ (GTag.val t) from Ld.rowN (cs := [.int .i64 t.Count, .int .i64 t.Client]) hp2.get0 (by kernel_rfl)) .nil) (by kernel_rfl) (fun b5 => ?_)
  refine thn_n ?_
  refine WP.test (p := (t.Count = 0) ∧ (t.Client = 0)) rfl (Bp.band Bp.dec (Bp.band1 Bp.dec)) (fun h6 => ?_) (fun h6 => ?_)
  · refine WP.seq ?_
    refine WP.pure {} [] [4] [.bool false] .nil (by kernel_rfl) (fun b7 => ?_)
    refine thn_n ?_
    refine WP.ret ?_
    refine thn_r ?_
    refine bodyQ.of _ rfl [.bool false] ⟨rfl, trivial⟩ ?_
    exact ⟨_, rfl, Bp.of Bp.f (by unfold tagProper; have q0_ := h6; first | omega | grind | (simp_all; done) | (simp_all; omega)), hp2.fr⟩
  · refine WP.skip ?_
    refine thn_n ?_
    refine WP.cut (fun e27 w28 => ∃ (x25 : Bool), (True) ∧ Bp x25 ((1 ≤ t.Count) ∧ (t.Count ≤ 4611686018427387903) ∧ (1 ≤ t.Client) ∧ (t.Client ≤ 65535)) ∧ List.map e27 [4] = [.bool x25] ∧ Hp w Non [Res.row g3 [.int .i64 t.Count, .int .i64 t.Client] 31] w28) ?_ ?_
    · refine WP.region _ rfl (by kernel_rfl) ?_
      refine OPS.batch 4 {} [.int .i64 t.Count] [2, 12] [.pointer (some ⟨g3, 0, none⟩), .bool (decide (1 ≤ t.Count))] (.cons (Ld.row1 (P := Try.prog) (t := 2) (o := 0) (v := .int .i64 t.Count) hp2.get0 (by kernel_rfl)) .nil) (by kernel_rfl) (fun b9 => ?_)
      by_cases h10 : 1 ≤ t.Count
      · refine OPS.batch 0 {} [] [2, 12] [.pointer (some ⟨g3, 0, none⟩), .bool (decide (1 ≤ t.Count))] .nil (by kernel_rfl) (fun b11 => ?_)
        refine OPS.re [.pointer (some ⟨g3, 0, none⟩), .bool true] (by rw [show (decide (1 ≤ t.Count)) = true from Bp.dec.tt h10]) ?_
        refine OPS.batch 5 { wraps := [16] } [.int .i64 t.Count] [2, 17] [.pointer (some ⟨g3, 0, none⟩), .bool (decide (t.Count ≤ 4611686018427387903))] (.cons (Ld.row1 (P := Try.prog) (t := 2) (o := 0) (v := .int .i64 t.Count) hp2.get0 (by kernel_rfl)) .nil) (by kernel_rfl) (fun b12 => ?_)
        by_cases h13 : t.Count ≤ 4611686018427387903
        · refine OPS.batch 0 {} [] [2, 17] [.pointer (some ⟨g3, 0, none⟩), .bool (decide (t.Count ≤ 4611686018427387903))] .nil (by kernel_rfl) (fun b14 => ?_)
          refine OPS.re [.pointer (some ⟨g3, 0, none⟩), .bool true] (by rw [show (decide (t.Count ≤ 4611686018427387903)) = true from Bp.dec.tt h13]) ?_
          refine OPS.batch 5 { wraps := [21] } [.int .i64 t.Client] [2, 22] [.pointer (some ⟨g3, 0, none⟩), .bool (decide (1 ≤ t.Client))] (.cons (Ld.row1 (P := Try.prog) (t := 3) (o := 1) (v := .int .i64 t.Client) hp2.get0 (by kernel_rfl)) .nil) (by kernel_rfl) (fun b15 => ?_)
          by_cases h16 : 1 ≤ t.Client
          · refine OPS.batch 0 {} [] [2, 22] [.pointer (some ⟨g3, 0, none⟩), .bool (decide (1 ≤ t.Client))] .nil (by kernel_rfl) (fun b17 => ?_)
            refine OPS.re [.pointer (some ⟨g3, 0, none⟩), .bool true] (by rw [show (decide (1 ≤ t.Client)) = true from Bp.dec.tt h16]) ?_
            refine OPS.batch 5 { wraps := [26] } [.int .i64 t.Client] [4] [.bool (decide (t.Client ≤ 65535))] (.cons (Ld.row1 (P := Try.prog) (t := 3) (o := 1) (v := .int .i64 t.Client) hp2.get0 (by kernel_rfl)) .nil) (by kernel_rfl) (fun b18 => ?_)
            refine OPS.nil ?_
            refine thn_n ?_
            exact ⟨decide (t.Client ≤ 65535), trivial, Bp.of Bp.dec (by first | (simp only [h10, h13, h16, iff_false, false_iff, iff_true, true_iff, Classical.not_not, and_true, true_and, and_false, false_and, or_true, true_or, or_false, false_or, not_true_eq_false, not_false_eq_true, and_self, or_self, iff_self]; done) | (simp [h10, h13, h16]; done) | grind | (simp_all; done)), by kernel_rfl, hp2⟩
          · refine OPS.batch 0 {} [] [2, 22] [.pointer (some ⟨g3, 0, none⟩), .bool (decide (1 ≤ t.Client))] .nil (by kernel_rfl) (fun b19 => ?_)
            refine OPS.re [.pointer (some ⟨g3, 0, none⟩), .bool false] (by rw [show (decide (1 ≤ t.Client)) = false from Bp.dec.ff h16]) ?_
            refine OPS.batch 5 { wraps := [26] } [] [4] [.bool false] .nil (by kernel_rfl) (fun b20 => ?_)
            refine OPS.nil ?_
            refine thn_n ?_
            exact ⟨false, trivial, Bp.of Bp.f (by first | (simp only [h10, h13, h16, iff_false, false_iff, iff_true, true_iff, Classical.not_not, and_true, true_and, and_false, false_and, or_true, true_or, or_false, false_or, not_true_eq_false, not_false_eq_true, and_self, or_self, iff_self]; done) | (simp [h10, h13, h16]; done) | grind | (simp_all; done)), by kernel_rfl, hp2⟩
        · refine OPS.batch 0 {} [] [2, 17] [.pointer (some ⟨g3, 0, none⟩), .bool (decide (t.Count ≤ 4611686018427387903))] .nil (by kernel_rfl) (fun b21 => ?_)
          refine OPS.re [.pointer (some ⟨g3, 0, none⟩), .bool false] (by rw [show (decide (t.Count ≤ 4611686018427387903)) = false from Bp.dec.ff h13]) ?_
          refine OPS.batch 10 { wraps := [21, 26] } [] [4] [.bool false] .nil (by kernel_rfl) (fun b22 => ?_)
          refine OPS.nil ?_
          refine thn_n ?_
          exact ⟨false, trivial, Bp.of Bp.f (by first | (simp only [h10, h13, iff_false, false_iff, iff_true, true_iff, Classical.not_not, and_true, true_and, and_false, false_and, or_true, true_or, or_false, false_or, not_true_eq_false, not_false_eq_true, and_self, or_self, iff_self]; done) | (simp [h10, h13]; done) | grind | (simp_all; done)), by kernel_rfl, hp2⟩
      · refine OPS.batch 0 {} [] [2, 12] [.pointer (some ⟨g3, 0, none⟩), .bool (decide (1 ≤ t.Count))] .nil (by kernel_rfl) (fun b23 => ?_)
        refine OPS.re [.pointer (some ⟨g3, 0, none⟩), .bool false] (by rw [show (decide (1 ≤ t.Count)) = false from Bp.dec.ff h10]) ?_
        refine OPS.batch 15 { wraps := [16, 21, 26] } [] [4] [.bool false] .nil (by kernel_rfl) (fun b24 => ?_)
        refine OPS.nil ?_
        refine thn_n ?_
        exact ⟨false, trivial, Bp.of Bp.f (by first | (simp only [h10, iff_false, false_iff, iff_true, true_iff, Classical.not_not, and_true, true_and, and_false, false_and, or_true, true_or, or_false, false_or, not_true_eq_false, not_false_eq_true, and_self, or_self, iff_self]; done) | (simp [h10]; done) | grind | (simp_all; done)), by kernel_rfl, hp2⟩
    rintro e27 w28 ⟨x25, hd30, hb26, hE31, hp29⟩
    obtain ⟨b32, rfl⟩ := toMk hE31
    clear hE31
    clear hd30
    refine WP.ret ?_
    refine bodyQ.of _ rfl [.bool x25] ⟨rfl, trivial⟩ ?_
    exact ⟨_, rfl, Bp.of hb26 (by unfold tagProper; have q0_ := h6; first | omega | grind | (simp_all; done) | (simp_all; omega)), hp29.fr⟩

theorem fits_c (u : GUpdate) (w : World) :
    Calls Try.prog 8 #[GUpdate.val u] w (fun r_ w' => ∃ f_, r_ = .returned (.bool f_) ∧ Bp f_ (MayU u) ∧ Fram Non w w') := by
  refine calls_of Try.func8 rfl 77 rfl (by simp) ?_
  have hp0 := Hp.init w
  have he0 : List.map (env0 [GUpdate.val u]) [0] = [GUpdate.val u] := by kernel_rfl
  obtain ⟨b0, he0⟩ := toMk he0
  rw [he0]
  clear he0
  refine WP.seq ?_
  refine WP.region _ rfl (by kernel_rfl) ?_
  refine OPS.cons (opStep.box hp0 [.int .i64 u.Kind, .string u.Key, .int .i64 u.Entry.Tag.Count, .int .i64 u.Entry.Tag.Client, .bool u.Entry.Fin, .bool u.Entry.Has, .slice u.Entry.Data.a u.Entry.Data.n u.Entry.Data.c] (by kernel_rfl) (fun g3 w1 hp2 => ?_))
  refine OPS.batch 1 {} [] [1] [.pointer (some ⟨g3, 0, none⟩)] .nil (by kernel_rfl) (fun b4 => ?_)
  refine OPS.nil ?_
  refine thn_n ?_
  refine WP.seq ?_
  refine WP.cut (fun e32 w33 => ∃ (x30 : Bool), (True) ∧ Bp x30 ((((u.Key.size : Int) < 1)) ∨ ((¬ ((u.Key.size : Int) < 1)) ∧ (64 < (u.Key.size : Int))) ∨ ((¬ ((u.Key.size : Int) < 1)) ∧ (¬ (64 < (u.Key.size : Int))) ∧ (¬ (tagProper u.Entry.Tag))) ∨ ((¬ ((u.Key.size : Int) < 1)) ∧ (¬ (64 < (u.Key.size : Int))) ∧ (tagProper u.Entry.Tag) ∧ (65540 < ((u.Entry.Data.n : Nat) : Int)))) ∧ List.map e32 [1, 26] = [.pointer (some ⟨g3, 0, none⟩), .bool x30] ∧ Hp w Non [Res.row g3 [.int .i64 u.Kind, .string u.Key, .int .i64 u.Entry.Tag.Count, .int .i64 u.Entry.Tag.Client, .bool u.Entry.Fin, .bool u.Entry.Has, .slice u.Entry.Data.a u.Entry.Data.n u.Entry.Data.c] 36] w33) ?_ ?_
  · refine WP.region _ rfl (by kernel_rfl) ?_
    refine OPS.batch 5 {} [.string u.Key] [1, 7] [.pointer (some ⟨g3, 0, none⟩), .bool (decide ((u.Key.size : Int) < 1))] (.cons (Ld.row1 (P := Try.prog) (t := 9) (o := 1) (v := .string u.Key) hp2.get0 (by kernel_rfl)) .nil) (by kernel_rfl) (fun b6 => ?_)
    by_cases h7 : (u.Key.size : Int) < 1
    · refine OPS.batch 0 {} [] [1, 7] [.pointer (some ⟨g3, 0, none⟩), .bool (decide ((u.Key.size : Int) < 1))] .nil (by kernel_rfl) (fun b8 => ?_)
      refine OPS.re [.pointer (some ⟨g3, 0, none⟩), .bool true] (by rw [show (decide ((u.Key.size : Int) < 1)) = true from Bp.dec.tt h7]) ?_
      refine OPS.batch 19 { wraps := [12, 19, 26] } [] [1, 26] [.pointer (some ⟨g3, 0, none⟩), .bool true] .nil (by kernel_rfl) (fun b9 => ?_)
      refine OPS.nil ?_
      refine thn_n ?_
      exact ⟨true, trivial, Bp.of Bp.t (by first | (simp only [h7, iff_false, false_iff, iff_true, true_iff, Classical.not_not, and_true, true_and, and_false, false_and, or_true, true_or, or_false, false_or, not_true_eq_false, not_false_eq_true, and_self, or_self, iff_self]; done) | (simp [h7]; done) | grind | (simp_all; done)), by kernel_rfl, hp2⟩
    · refine OPS.batch 0 {} [] [1, 7] [.pointer (some ⟨g3, 0, none⟩), .bool (decide ((u.Key.size : Int) < 1))] .nil (by kernel_rfl) (fun b10 => ?_)
      refine OPS.re [.pointer (some ⟨g3, 0, none⟩), .bool false] (by rw [show (decide ((u.Key.size : Int) < 1)) = false from Bp.dec.ff h7]) ?_
      refine OPS.batch 6 { wraps := [12] } [.string u.Key] [1, 13] [.pointer (some ⟨g3, 0, none⟩), .bool (decide (64 < (u.Key.size : Int)))] (.cons (Ld.row1 (P := Try.prog) (t := 9) (o := 1) (v := .string u.Key) hp2.get0 (by kernel_rfl)) .nil) (by kernel_rfl) (fun b11 => ?_)
      by_cases h12 : 64 < (u.Key.size : Int)
      · refine OPS.batch 0 {} [] [1, 13] [.pointer (some ⟨g3, 0, none⟩), .bool (decide (64 < (u.Key.size : Int)))] .nil (by kernel_rfl) (fun b13 => ?_)
        refine OPS.re [.pointer (some ⟨g3, 0, none⟩), .bool true] (by rw [show (decide (64 < (u.Key.size : Int))) = true from Bp.dec.tt h12]) ?_
        refine OPS.batch 13 { wraps := [19, 26] } [] [1, 26] [.pointer (some ⟨g3, 0, none⟩), .bool true] .nil (by kernel_rfl) (fun b14 => ?_)
        refine OPS.nil ?_
        refine thn_n ?_
        exact ⟨true, trivial, Bp.of Bp.t (by first | (simp only [h7, h12, iff_false, false_iff, iff_true, true_iff, Classical.not_not, and_true, true_and, and_false, false_and, or_true, true_or, or_false, false_or, not_true_eq_false, not_false_eq_true, and_self, or_self, iff_self]; done) | (simp [h7, h12]; done) | grind | (simp_all; done)), by kernel_rfl, hp2⟩
      · refine OPS.batch 0 {} [] [1, 13] [.pointer (some ⟨g3, 0, none⟩), .bool (decide (64 < (u.Key.size : Int)))] .nil (by kernel_rfl) (fun b15 => ?_)
        refine OPS.re [.pointer (some ⟨g3, 0, none⟩), .bool false] (by rw [show (decide (64 < (u.Key.size : Int))) = false from Bp.dec.ff h12]) ?_
        refine OPS.batch 3 {} [.agg #[.int .i64 u.Entry.Tag.Count, .int .i64 u.Entry.Tag.Client]] [1, 13, 16] [.pointer (some ⟨g3, 0, none⟩), .bool false, .agg #[.int .i64 u.Entry.Tag.Count, .int .i64 u.Entry.Tag.Client]] (.cons (show Ld Try.prog w1 31 ⟨g3, 2, none⟩ (.agg #[.int .i64 u.Entry.Tag.Count, .int .i64 u.Entry.Tag.Client]) from Ld.rowN (cs := [.int .i64 u.Entry.Tag.Count, .int .i64 u.Entry.Tag.Client]) hp2.get0 (by kernel_rfl)) .nil) (by kernel_rfl) (fun b16 => ?_)
        refine OPS.want (by kernel_rfl) ?_
        refine OPS.cons (opStep.call (some 17) [.agg #[.int .i64 u.Entry.Tag.Count, .int .i64 u.Entry.Tag.Client], .bool false] (by kernel_rfl) (tagFits_c u.Entry.Tag _) ?_)
        rintro _ w19 ⟨b22, rfl, hb23, hf20⟩
        refine ⟨_, rfl, ?_⟩
        have hp21 := hp2.step hf20
        refine OPS.batch 3 { wraps := [19] } [] [1, 20] [.pointer (some ⟨g3, 0, none⟩), .bool (!b22)] .nil (by kernel_rfl) (fun b24 => ?_)
        by_cases h25 : tagProper u.Entry.Tag
        · refine OPS.batch 0 {} [] [1, 20] [.pointer (some ⟨g3, 0, none⟩), .bool (!b22)] .nil (by kernel_rfl) (fun b28 => ?_)
          refine OPS.re [.pointer (some ⟨g3, 0, none⟩), .bool false] (by rw [show (!b22) = false from (Bp.not hb23).ff (fun k => k h25)]) ?_
          refine OPS.batch 6 { wraps := [26] } [.slice u.Entry.Data.a u.Entry.Data.n u.Entry.Data.c] [1, 26] [.pointer (some ⟨g3, 0, none⟩), .bool (decide (65540 < ((u.Entry.Data.n : Nat) : Int)))] (.cons (Ld.row1 (P := Try.prog) (t := 32) (o := 6) (v := .slice u.Entry.Data.a u.Entry.Data.n u.Entry.Data.c) hp21.get0 (by kernel_rfl)) .nil) (by kernel_rfl) (fun b29 => ?_)
          refine OPS.nil ?_
          refine thn_n ?_
          exact ⟨decide (65540 < ((u.Entry.Data.n : Nat) : Int)), trivial, Bp.of Bp.dec (by first | (simp only [h7, h12, h25, iff_false, false_iff, iff_true, true_iff, Classical.not_not, and_true, true_and, and_false, false_and, or_true, true_or, or_false, false_or, not_true_eq_false, not_false_eq_true, and_self, or_self, iff_self]; done) | (simp [h7, h12, h25]; done) | grind | (simp_all; done)), by kernel_rfl, hp21⟩
        · refine OPS.batch 0 {} [] [1, 20] [.pointer (some ⟨g3, 0, none⟩), .bool (!b22)] .nil (by kernel_rfl) (fun b26 => ?_)
          refine OPS.re [.pointer (some ⟨g3, 0, none⟩), .bool true] (by rw [show (!b22) = true from (Bp.not hb23).tt h25]) ?_
          refine OPS.batch 6 { wraps := [26] } [] [1, 26] [.pointer (some ⟨g3, 0, none⟩), .bool true] .nil (by kernel_rfl) (fun b27 => ?_)
          refine OPS.nil ?_
          refine thn_n ?_
          exact ⟨true, trivial, Bp.of Bp.t (by first | (simp only [h7, h12, h25, iff_false, false_iff, iff_true, true_iff, Classical.not_not, and_true, true_and, and_false, false_and, or_true, true_or, or_false, false_or, not_true_eq_false, not_false_eq_true, and_self, or_self, iff_self]; done) | (simp [h7, h12, h25]; done) | grind | (simp_all; done)), by kernel_rfl, hp21⟩
  rintro e32 w33 ⟨x30, hd35, hb31, hE36, hp34⟩
  obtain ⟨b37, rfl⟩ := toMk hE36
  clear hE36
  clear hd35
  refine WP.test (p := (((u.Key.size : Int) < 1)) ∨ ((¬ ((u.Key.size : Int) < 1)) ∧ (64 < (u.Key.size : Int))) ∨ ((¬ ((u.Key.size : Int) < 1)) ∧ (¬ (64 < (u.Key.size : Int))) ∧ (¬ (tagProper u.Entry.Tag))) ∨ ((¬ ((u.Key.size : Int) < 1)) ∧ (¬ (64 < (u.Key.size : Int))) ∧ (tagProper u.Entry.Tag) ∧ (65540 < ((u.Entry.Data.n : Nat) : Int)))) rfl hb31 (fun h38 => ?_) (fun h38 => ?_)
  · refine WP.seq ?_
    refine WP.pure {} [] [2] [.bool false] .nil (by kernel_rfl) (fun b39 => ?_)
    refine thn_n ?_
    refine WP.ret ?_
    refine thn_r ?_
    refine bodyQ.of _ rfl [.bool false] ⟨rfl, trivial⟩ ?_
    exact ⟨_, rfl, Bp.of Bp.f (by have hk0 := key_nil u.Key; have hnz := not_zero (t := u.Entry.Tag); unfold MayU; have q0_ := h38; first | omega | grind | (simp_all; done) | (simp_all; omega)), hp34.fr⟩
  · refine WP.skip ?_
    refine thn_n ?_
    refine WP.seq ?_
    refine WP.seq ?_
    refine WP.pure {} [.int .i64 u.Kind] [1, 28] [.pointer (some ⟨g3, 0, none⟩), .int .i64 u.Kind] (.cons (Ld.row1 (P := Try.prog) (t := 3) (o := 0) (v := .int .i64 u.Kind) hp34.get0 (by kernel_rfl)) .nil) (by kernel_rfl) (fun b40 => ?_)
    refine thn_n ?_
    refine WP.block ?_
    refine WP.seq ?_
    refine WP.pure {} [] [1, 28, 29] [.pointer (some ⟨g3, 0, none⟩), .int .i64 u.Kind, .bool (decide (u.Kind = 1))] .nil (by kernel_rfl) (fun b41 => ?_)
    refine thn_n ?_
    refine WP.test (p := u.Kind = 1) rfl Bp.dec (fun h42 => ?_) (fun h42 => ?_)
    · refine WP.cut (fun e52 w53 => ∃ (x50 : Bool), (True) ∧ Bp x50 ((¬ (u.Entry.Has = true)) ∧ (¬ (u.Entry.Fin = true))) ∧ List.map e52 [2] = [.bool x50] ∧ Hp w Non [Res.row g3 [.int .i64 u.Kind, .string u.Key, .int .i64 u.Entry.Tag.Count, .int .i64 u.Entry.Tag.Client, .bool u.Entry.Fin, .bool u.Entry.Has, .slice u.Entry.Data.a u.Entry.Data.n u.Entry.Data.c] 36] w53) ?_ ?_
      · refine WP.region _ rfl (by kernel_rfl) ?_
        refine OPS.batch 5 {} [.bool u.Entry.Has] [1, 35] [.pointer (some ⟨g3, 0, none⟩), .bool (!u.Entry.Has)] (.cons (Ld.row1 (P := Try.prog) (t := 4) (o := 5) (v := .bool u.Entry.Has) hp34.get0 (by kernel_rfl)) .nil) (by kernel_rfl) (fun b44 => ?_)
        by_cases h45 : u.Entry.Has = true
        · refine OPS.batch 0 {} [] [1, 35] [.pointer (some ⟨g3, 0, none⟩), .bool (!u.Entry.Has)] .nil (by kernel_rfl) (fun b48 => ?_)
          refine OPS.re [.pointer (some ⟨g3, 0, none⟩), .bool false] (by rw [show (!u.Entry.Has) = false from (Bp.not Bp.var).ff (fun k => k h45)]) ?_
          refine OPS.batch 6 { wraps := [40] } [] [2] [.bool false] .nil (by kernel_rfl) (fun b49 => ?_)
          refine OPS.nil ?_
          refine thn_n ?_
          exact ⟨false, trivial, Bp.of Bp.f (by first | (simp only [h45, iff_false, false_iff, iff_true, true_iff, Classical.not_not, and_true, true_and, and_false, false_and, or_true, true_or, or_false, false_or, not_true_eq_false, not_false_eq_true, and_self, or_self, iff_self]; done) | (simp [h45]; done) | grind | (simp_all; done)), by kernel_rfl, hp34⟩
        · refine OPS.batch 0 {} [] [1, 35] [.pointer (some ⟨g3, 0, none⟩), .bool (!u.Entry.Has)] .nil (by kernel_rfl) (fun b46 => ?_)
          refine OPS.re [.pointer (some ⟨g3, 0, none⟩), .bool true] (by rw [show (!u.Entry.Has) = true from (Bp.not Bp.var).tt h45]) ?_
          refine OPS.batch 6 { wraps := [40] } [.bool u.Entry.Fin] [2] [.bool (!u.Entry.Fin)] (.cons (Ld.row1 (P := Try.prog) (t := 4) (o := 4) (v := .bool u.Entry.Fin) hp34.get0 (by kernel_rfl)) .nil) (by kernel_rfl) (fun b47 => ?_)
          refine OPS.nil ?_
          refine thn_n ?_
          exact ⟨!u.Entry.Fin, trivial, Bp.of (Bp.not Bp.var) (by first | (simp only [h45, iff_false, false_iff, iff_true, true_iff, Classical.not_not, and_true, true_and, and_false, false_and, or_true, true_or, or_false, false_or, not_true_eq_false, not_false_eq_true, and_self, or_self, iff_self]; done) | (simp [h45]; done) | grind | (simp_all; done)), by kernel_rfl, hp34⟩
      rintro e52 w53 ⟨x50, hd55, hb51, hE56, hp54⟩
      obtain ⟨b57, rfl⟩ := toMk hE56
      clear hE56
      clear hd55
      refine WP.ret ?_
      refine blk_r ?_
      refine thn_r ?_
      refine bodyQ.of _ rfl [.bool x50] ⟨rfl, trivial⟩ ?_
      exact ⟨_, rfl, Bp.of hb51 (by have hk0 := key_nil u.Key; have hnz := not_zero (t := u.Entry.Tag); unfold MayU; have q0_ := h38; have q1_ := h42; first | omega | grind | (simp_all; done) | (simp_all; omega)), hp54.fr⟩
    · refine WP.seq ?_
      refine WP.pure {} [] [1, 28, 41] [.pointer (some ⟨g3, 0, none⟩), .int .i64 u.Kind, .bool (decide (u.Kind = 2))] .nil (by kernel_rfl) (fun b58 => ?_)
      refine thn_n ?_
      refine WP.test (p := u.Kind = 2) rfl Bp.dec (fun h59 => ?_) (fun h59 => ?_)
      · refine WP.cut (fun e74 w75 => ∃ (x72 : Bool), (True) ∧ Bp x72 ((¬ (u.Entry.Fin = true)) ∧ (¬ (u.Entry.Has = true)) ∧ (((u.Entry.Data.n : Nat) : Int) = 0)) ∧ List.map e74 [2] = [.bool x72] ∧ Hp w Non [Res.row g3 [.int .i64 u.Kind, .string u.Key, .int .i64 u.Entry.Tag.Count, .int .i64 u.Entry.Tag.Client, .bool u.Entry.Fin, .bool u.Entry.Has, .slice u.Entry.Data.a u.Entry.Data.n u.Entry.Data.c] 36] w75) ?_ ?_
        · refine WP.region _ rfl (by kernel_rfl) ?_
          refine OPS.batch 5 {} [.bool u.Entry.Fin] [1, 47] [.pointer (some ⟨g3, 0, none⟩), .bool (!u.Entry.Fin)] (.cons (Ld.row1 (P := Try.prog) (t := 4) (o := 4) (v := .bool u.Entry.Fin) hp34.get0 (by kernel_rfl)) .nil) (by kernel_rfl) (fun b61 => ?_)
          by_cases h62 : u.Entry.Fin = true
          · refine OPS.batch 0 {} [] [1, 47] [.pointer (some ⟨g3, 0, none⟩), .bool (!u.Entry.Fin)] .nil (by kernel_rfl) (fun b70 => ?_)
            refine OPS.re [.pointer (some ⟨g3, 0, none⟩), .bool false] (by rw [show (!u.Entry.Fin) = false from (Bp.not Bp.var).ff (fun k => k h62)]) ?_
            refine OPS.batch 13 { wraps := [52, 59] } [] [2] [.bool false] .nil (by kernel_rfl) (fun b71 => ?_)
            refine OPS.nil ?_
            refine thn_n ?_
            exact ⟨false, trivial, Bp.of Bp.f (by first | (simp only [h62, iff_false, false_iff, iff_true, true_iff, Classical.not_not, and_true, true_and, and_false, false_and, or_true, true_or, or_false, false_or, not_true_eq_false, not_false_eq_true, and_self, or_self, iff_self]; done) | (simp [h62]; done) | grind | (simp_all; done)), by kernel_rfl, hp34⟩
          · refine OPS.batch 0 {} [] [1, 47] [.pointer (some ⟨g3, 0, none⟩), .bool (!u.Entry.Fin)] .nil (by kernel_rfl) (fun b63 => ?_)
            refine OPS.re [.pointer (some ⟨g3, 0, none⟩), .bool true] (by rw [show (!u.Entry.Fin) = true from (Bp.not Bp.var).tt h62]) ?_
            refine OPS.batch 6 { wraps := [52] } [.bool u.Entry.Has] [1, 53] [.pointer (some ⟨g3, 0, none⟩), .bool (!u.Entry.Has)] (.cons (Ld.row1 (P := Try.prog) (t := 4) (o := 5) (v := .bool u.Entry.Has) hp34.get0 (by kernel_rfl)) .nil) (by kernel_rfl) (fun b64 => ?_)
            by_cases h65 : u.Entry.Has = true
            · refine OPS.batch 0 {} [] [1, 53] [.pointer (some ⟨g3, 0, none⟩), .bool (!u.Entry.Has)] .nil (by kernel_rfl) (fun b68 => ?_)
              refine OPS.re [.pointer (some ⟨g3, 0, none⟩), .bool false] (by rw [show (!u.Entry.Has) = false from (Bp.not Bp.var).ff (fun k => k h65)]) ?_
              refine OPS.batch 7 { wraps := [59] } [] [2] [.bool false] .nil (by kernel_rfl) (fun b69 => ?_)
              refine OPS.nil ?_
              refine thn_n ?_
              exact ⟨false, trivial, Bp.of Bp.f (by first | (simp only [h62, h65, iff_false, false_iff, iff_true, true_iff, Classical.not_not, and_true, true_and, and_false, false_and, or_true, true_or, or_false, false_or, not_true_eq_false, not_false_eq_true, and_self, or_self, iff_self]; done) | (simp [h62, h65]; done) | grind | (simp_all; done)), by kernel_rfl, hp34⟩
            · refine OPS.batch 0 {} [] [1, 53] [.pointer (some ⟨g3, 0, none⟩), .bool (!u.Entry.Has)] .nil (by kernel_rfl) (fun b66 => ?_)
              refine OPS.re [.pointer (some ⟨g3, 0, none⟩), .bool true] (by rw [show (!u.Entry.Has) = true from (Bp.not Bp.var).tt h65]) ?_
              refine OPS.batch 7 { wraps := [59] } [.slice u.Entry.Data.a u.Entry.Data.n u.Entry.Data.c] [2] [.bool (decide (((u.Entry.Data.n : Nat) : Int) = 0))] (.cons (Ld.row1 (P := Try.prog) (t := 32) (o := 6) (v := .slice u.Entry.Data.a u.Entry.Data.n u.Entry.Data.c) hp34.get0 (by kernel_rfl)) .nil) (by kernel_rfl) (fun b67 => ?_)
              refine OPS.nil ?_
              refine thn_n ?_
              exact ⟨decide (((u.Entry.Data.n : Nat) : Int) = 0), trivial, Bp.of Bp.dec (by first | (simp only [h62, h65, iff_false, false_iff, iff_true, true_iff, Classical.not_not, and_true, true_and, and_false, false_and, or_true, true_or, or_false, false_or, not_true_eq_false, not_false_eq_true, and_self, or_self, iff_self]; done) | (simp [h62, h65]; done) | grind | (simp_all; done)), by kernel_rfl, hp34⟩
        rintro e74 w75 ⟨x72, hd77, hb73, hE78, hp76⟩
        obtain ⟨b79, rfl⟩ := toMk hE78
        clear hE78
        clear hd77
        refine WP.ret ?_
        refine blk_r ?_
        refine thn_r ?_
        refine bodyQ.of _ rfl [.bool x72] ⟨rfl, trivial⟩ ?_
        exact ⟨_, rfl, Bp.of hb73 (by have hk0 := key_nil u.Key; have hnz := not_zero (t := u.Entry.Tag); unfold MayU; have q0_ := h38; have q1_ := h42; have q2_ := h59; first | omega | grind | (simp_all; done) | (simp_all; omega)), hp76.fr⟩
      · refine WP.seq ?_
        refine WP.pure {} [] [1, 60] [.pointer (some ⟨g3, 0, none⟩), .bool (decide (u.Kind = 3))] .nil (by kernel_rfl) (fun b80 => ?_)
        refine thn_n ?_
        refine WP.test (p := u.Kind = 3) rfl Bp.dec (fun h81 => ?_) (fun h81 => ?_)
        · refine WP.cut (fun e96 w97 => ∃ (x94 : Bool), (True) ∧ Bp x94 (((u.Entry.Has = true)) ∨ ((¬ (u.Entry.Has = true)) ∧ (u.Entry.Fin = true) ∧ (((u.Entry.Data.n : Nat) : Int) = 0))) ∧ List.map e96 [2] = [.bool x94] ∧ Hp w Non [Res.row g3 [.int .i64 u.Kind, .string u.Key, .int .i64 u.Entry.Tag.Count, .int .i64 u.Entry.Tag.Client, .bool u.Entry.Fin, .bool u.Entry.Has, .slice u.Entry.Data.a u.Entry.Data.n u.Entry.Data.c] 36] w97) ?_ ?_
          · refine WP.region _ rfl (by kernel_rfl) ?_
            refine OPS.batch 4 {} [.bool u.Entry.Has] [1, 65] [.pointer (some ⟨g3, 0, none⟩), .bool u.Entry.Has] (.cons (Ld.row1 (P := Try.prog) (t := 4) (o := 5) (v := .bool u.Entry.Has) hp34.get0 (by kernel_rfl)) .nil) (by kernel_rfl) (fun b83 => ?_)
            by_cases h84 : u.Entry.Has = true
            · refine OPS.batch 0 {} [] [1, 65] [.pointer (some ⟨g3, 0, none⟩), .bool u.Entry.Has] .nil (by kernel_rfl) (fun b85 => ?_)
              refine OPS.re [.pointer (some ⟨g3, 0, none⟩), .bool true] (by rw [show u.Entry.Has = true from Bp.var.tt h84]) ?_
              refine OPS.batch 12 { wraps := [76] } [] [2] [.bool true] .nil (by kernel_rfl) (fun b86 => ?_)
              refine OPS.nil ?_
              refine thn_n ?_
              exact ⟨true, trivial, Bp.of Bp.t (by first | (simp only [h84, iff_false, false_iff, iff_true, true_iff, Classical.not_not, and_true, true_and, and_false, false_and, or_true, true_or, or_false, false_or, not_true_eq_false, not_false_eq_true, and_self, or_self, iff_self]; done) | (simp [h84]; done) | grind | (simp_all; done)), by kernel_rfl, hp34⟩
            · refine OPS.batch 0 {} [] [1, 65] [.pointer (some ⟨g3, 0, none⟩), .bool u.Entry.Has] .nil (by kernel_rfl) (fun b87 => ?_)
              refine OPS.re [.pointer (some ⟨g3, 0, none⟩), .bool false] (by rw [show u.Entry.Has = false from Bp.var.ff h84]) ?_
              refine OPS.batch 4 {} [.bool u.Entry.Fin] [1, 65, 69] [.pointer (some ⟨g3, 0, none⟩), .bool false, .bool u.Entry.Fin] (.cons (Ld.row1 (P := Try.prog) (t := 4) (o := 4) (v := .bool u.Entry.Fin) hp34.get0 (by kernel_rfl)) .nil) (by kernel_rfl) (fun b88 => ?_)
              by_cases h89 : u.Entry.Fin = true
              · refine OPS.batch 0 {} [] [1, 65, 69] [.pointer (some ⟨g3, 0, none⟩), .bool false, .bool u.Entry.Fin] .nil (by kernel_rfl) (fun b90 => ?_)
                refine OPS.re [.pointer (some ⟨g3, 0, none⟩), .bool false, .bool true] (by rw [show u.Entry.Fin = true from Bp.var.tt h89]) ?_
                refine OPS.batch 8 { wraps := [75, 76] } [.slice u.Entry.Data.a u.Entry.Data.n u.Entry.Data.c] [2] [.bool (decide (((u.Entry.Data.n : Nat) : Int) = 0))] (.cons (Ld.row1 (P := Try.prog) (t := 32) (o := 6) (v := .slice u.Entry.Data.a u.Entry.Data.n u.Entry.Data.c) hp34.get0 (by kernel_rfl)) .nil) (by kernel_rfl) (fun b91 => ?_)
                refine OPS.nil ?_
                refine thn_n ?_
                exact ⟨decide (((u.Entry.Data.n : Nat) : Int) = 0), trivial, Bp.of Bp.dec (by first | (simp only [h84, h89, iff_false, false_iff, iff_true, true_iff, Classical.not_not, and_true, true_and, and_false, false_and, or_true, true_or, or_false, false_or, not_true_eq_false, not_false_eq_true, and_self, or_self, iff_self]; done) | (simp [h84, h89]; done) | grind | (simp_all; done)), by kernel_rfl, hp34⟩
              · refine OPS.batch 0 {} [] [1, 65, 69] [.pointer (some ⟨g3, 0, none⟩), .bool false, .bool u.Entry.Fin] .nil (by kernel_rfl) (fun b92 => ?_)
                refine OPS.re [.pointer (some ⟨g3, 0, none⟩), .bool false, .bool false] (by rw [show u.Entry.Fin = false from Bp.var.ff h89]) ?_
                refine OPS.batch 8 { wraps := [75, 76] } [] [2] [.bool false] .nil (by kernel_rfl) (fun b93 => ?_)
                refine OPS.nil ?_
                refine thn_n ?_
                exact ⟨false, trivial, Bp.of Bp.f (by first | (simp only [h84, h89, iff_false, false_iff, iff_true, true_iff, Classical.not_not, and_true, true_and, and_false, false_and, or_true, true_or, or_false, false_or, not_true_eq_false, not_false_eq_true, and_self, or_self, iff_self]; done) | (simp [h84, h89]; done) | grind | (simp_all; done)), by kernel_rfl, hp34⟩
          rintro e96 w97 ⟨x94, hd99, hb95, hE100, hp98⟩
          obtain ⟨b101, rfl⟩ := toMk hE100
          clear hE100
          clear hd99
          refine WP.ret ?_
          refine blk_r ?_
          refine thn_r ?_
          refine bodyQ.of _ rfl [.bool x94] ⟨rfl, trivial⟩ ?_
          exact ⟨_, rfl, Bp.of hb95 (by have hk0 := key_nil u.Key; have hnz := not_zero (t := u.Entry.Tag); unfold MayU; have q0_ := h38; have q1_ := h42; have q2_ := h59; have q3_ := h81; first | omega | grind | (simp_all; done) | (simp_all; omega)), hp98.fr⟩
        · refine WP.skip ?_
          refine blk_n ?_
          refine thn_n ?_
          refine WP.seq ?_
          refine WP.pure {} [] [2] [.bool false] .nil (by kernel_rfl) (fun b102 => ?_)
          refine thn_n ?_
          refine WP.ret ?_
          refine bodyQ.of _ rfl [.bool false] ⟨rfl, trivial⟩ ?_
          exact ⟨_, rfl, Bp.of Bp.f (by have hk0 := key_nil u.Key; have hnz := not_zero (t := u.Entry.Tag); unfold MayU; have q0_ := h38; have q1_ := h42; have q2_ := h59; have q3_ := h81; first | omega | grind | (simp_all; done) | (simp_all; omega)), hp34.fr⟩

end Go.Proofs.Ytdkgdidnknojlaa.K
