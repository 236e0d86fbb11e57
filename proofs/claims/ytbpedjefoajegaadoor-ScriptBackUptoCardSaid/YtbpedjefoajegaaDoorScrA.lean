/- The walks of ScrA: what each function computes. -/
import Derived.Test.YtbpedjefoajegaaDoorProg
import Derived.Test.YtbpedjefoajegaaDoorCoreO
import Derived.Test.YtbpedjefoajegaaDoorScrM
namespace Go.Proofs.YtbpedjefoajegaaDoor.K
open Go Go.Proofs Go.RowKit
set_option linter.unusedVariables false
set_option linter.unusedSimpArgs false
set_option maxRecDepth 20000
set_option maxHeartbeats 4000000

theorem okS_1 {A B : Int} {Ky v : ByteArray} {l : List Int} : okS ⟨1, A, B, Ky, v, l⟩ ↔ B = 0 ∧ l.length = 0 := ⟨fun h => ⟨h.2.2.1 rfl, h.2.2.2.2.2.2 rfl⟩, fun h => ⟨(show (1 : Int) ≤ 1 ∧ (1 : Int) ≤ 16 from by decide), fun q => absurd (show kA 1 = false from q) (by decide), fun _ => h.1, fun q => absurd (show kK 1 = false from q) (by decide), fun q => absurd (show kV 1 = false from q) (by decide), fun q => absurd (show (1 : Int) = 9 from q) (by decide), fun _ => h.2⟩⟩
theorem okS_2 {A B : Int} {Ky v : ByteArray} {l : List Int} : okS ⟨2, A, B, Ky, v, l⟩ ↔ B = 0 ∧ v.size = 0 ∧ l.length = 0 := ⟨fun h => ⟨h.2.2.1 rfl, h.2.2.2.2.1 rfl, h.2.2.2.2.2.2 rfl⟩, fun h => ⟨(show (1 : Int) ≤ 2 ∧ (2 : Int) ≤ 16 from by decide), fun q => absurd (show kA 2 = false from q) (by decide), fun _ => h.1, fun q => absurd (show kK 2 = false from q) (by decide), fun _ => h.2.1, fun q => absurd (show (2 : Int) = 9 from q) (by decide), fun _ => h.2.2⟩⟩
theorem okS_9 {A B : Int} {Ky v : ByteArray} {l : List Int} : okS ⟨9, A, B, Ky, v, l⟩ ↔ Ky = ⟨#[]⟩ ∧ v.size = 0 ∧ (l.length = 1 ∧ 0 ≤ l[0]! ∧ l[0]! ≤ 4294967295) := ⟨fun h => ⟨h.2.2.2.1 rfl, h.2.2.2.2.1 rfl, h.2.2.2.2.2.1 rfl⟩, fun h => ⟨(show (1 : Int) ≤ 9 ∧ (9 : Int) ≤ 16 from by decide), fun q => absurd (show kA 9 = false from q) (by decide), fun q => absurd (show kB 9 = false from q) (by decide), fun _ => h.1, fun _ => h.2.1, fun _ => h.2.2, fun q => absurd (show kL 9 = false from q) (by decide)⟩⟩
theorem okS_10 {A B : Int} {Ky v : ByteArray} {l : List Int} : okS ⟨10, A, B, Ky, v, l⟩ ↔ Ky = ⟨#[]⟩ ∧ v.size = 0 ∧ l.length = 0 := ⟨fun h => ⟨h.2.2.2.1 rfl, h.2.2.2.2.1 rfl, h.2.2.2.2.2.2 rfl⟩, fun h => ⟨(show (1 : Int) ≤ 10 ∧ (10 : Int) ≤ 16 from by decide), fun q => absurd (show kA 10 = false from q) (by decide), fun q => absurd (show kB 10 = false from q) (by decide), fun _ => h.1, fun _ => h.2.1, fun q => absurd (show (10 : Int) = 9 from q) (by decide), fun _ => h.2.2⟩⟩
theorem okS_12 {A B : Int} {Ky v : ByteArray} {l : List Int} : okS ⟨12, A, B, Ky, v, l⟩ ↔ B = 0 ∧ Ky = ⟨#[]⟩ ∧ v.size = 0 := ⟨fun h => ⟨h.2.2.1 rfl, h.2.2.2.1 rfl, h.2.2.2.2.1 rfl⟩, fun h => ⟨(show (1 : Int) ≤ 12 ∧ (12 : Int) ≤ 16 from by decide), fun q => absurd (show kA 12 = false from q) (by decide), fun _ => h.1, fun _ => h.2.1, fun _ => h.2.2, fun q => absurd (show (12 : Int) = 9 from q) (by decide), fun q => absurd (show kL 12 = false from q) (by decide)⟩⟩
theorem okS_14 {A B : Int} {Ky v : ByteArray} {l : List Int} : okS ⟨14, A, B, Ky, v, l⟩ ↔ Ky = ⟨#[]⟩ ∧ v.size = 0 := ⟨fun h => ⟨h.2.2.2.1 rfl, h.2.2.2.2.1 rfl⟩, fun h => ⟨(show (1 : Int) ≤ 14 ∧ (14 : Int) ≤ 16 from by decide), fun q => absurd (show kA 14 = false from q) (by decide), fun q => absurd (show kB 14 = false from q) (by decide), fun _ => h.1, fun _ => h.2, fun q => absurd (show (14 : Int) = 9 from q) (by decide), fun q => absurd (show kL 14 = false from q) (by decide)⟩⟩
theorem okS_16 {A B : Int} {Ky v : ByteArray} {l : List Int} : okS ⟨16, A, B, Ky, v, l⟩ ↔ A = 0 ∧ Ky = ⟨#[]⟩ ∧ v.size = 0 := ⟨fun h => ⟨h.2.1 rfl, h.2.2.2.1 rfl, h.2.2.2.2.1 rfl⟩, fun h => ⟨(show (1 : Int) ≤ 16 ∧ (16 : Int) ≤ 16 from by decide), fun _ => h.1, fun q => absurd (show kB 16 = false from q) (by decide), fun _ => h.2.1, fun _ => h.2.2, fun q => absurd (show (16 : Int) = 9 from q) (by decide), fun q => absurd (show kL 16 = false from q) (by decide)⟩⟩
def PA (k : Int) : Prop := k = 3 ∨ k = 4 ∨ k = 5 ∨ k = 6 ∨ k = 7 ∨ k = 8 ∨ k = 11 ∨ k = 13 ∨ k = 15
theorem PA.rng {k : Int} (h : PA k) : 1 ≤ k ∧ k ≤ 16 := by unfold PA at h; omega
theorem PA.fl {k : Int} (h : PA k) : kA k = true ∧ kB k = false ∧ kK k = false ∧ kV k = false ∧ kL k = false ∧ k ≠ 9 := by
  unfold PA at h; rcases h with rfl | rfl | rfl | rfl | rfl | rfl | rfl | rfl | rfl <;> decide
theorem fm_3 {w : World} (h : LibS w) : Ld Tryd.prog w 56 ((⟨0, 0, none⟩ : Addr).add ((3 : Int).toNat * 7)) (.agg #[.string (kWord 3), .bool true, .bool false, .bool false, .bool false, .bool false, .bool false]) := by
  rw [show ((⟨0, 0, none⟩ : Addr).add ((3 : Int).toNat * 7)) = ⟨0, 21, none⟩ from by kernel_rfl]; exact Ld.rowN (cs := [.string ⟨#[99, 97, 110, 99, 101, 108]⟩, .bool true, .bool false, .bool false, .bool false, .bool false, .bool false]) h.tab (by kernel_rfl)
theorem fm_4 {w : World} (h : LibS w) : Ld Tryd.prog w 56 ((⟨0, 0, none⟩ : Addr).add ((4 : Int).toNat * 7)) (.agg #[.string (kWord 4), .bool true, .bool false, .bool false, .bool false, .bool false, .bool false]) := by
  rw [show ((⟨0, 0, none⟩ : Addr).add ((4 : Int).toNat * 7)) = ⟨0, 28, none⟩ from by kernel_rfl]; exact Ld.rowN (cs := [.string ⟨#[116, 105, 99, 107]⟩, .bool true, .bool false, .bool false, .bool false, .bool false, .bool false]) h.tab (by kernel_rfl)
theorem fm_5 {w : World} (h : LibS w) : Ld Tryd.prog w 56 ((⟨0, 0, none⟩ : Addr).add ((5 : Int).toNat * 7)) (.agg #[.string (kWord 5), .bool true, .bool false, .bool false, .bool false, .bool false, .bool false]) := by
  rw [show ((⟨0, 0, none⟩ : Addr).add ((5 : Int).toNat * 7)) = ⟨0, 35, none⟩ from by kernel_rfl]; exact Ld.rowN (cs := [.string ⟨#[115, 116, 111, 112]⟩, .bool true, .bool false, .bool false, .bool false, .bool false, .bool false]) h.tab (by kernel_rfl)
theorem fm_6 {w : World} (h : LibS w) : Ld Tryd.prog w 56 ((⟨0, 0, none⟩ : Addr).add ((6 : Int).toNat * 7)) (.agg #[.string (kWord 6), .bool true, .bool false, .bool false, .bool false, .bool false, .bool false]) := by
  rw [show ((⟨0, 0, none⟩ : Addr).add ((6 : Int).toNat * 7)) = ⟨0, 42, none⟩ from by kernel_rfl]; exact Ld.rowN (cs := [.string ⟨#[100, 101, 108, 105, 118, 101, 114]⟩, .bool true, .bool false, .bool false, .bool false, .bool false, .bool false]) h.tab (by kernel_rfl)
theorem fm_7 {w : World} (h : LibS w) : Ld Tryd.prog w 56 ((⟨0, 0, none⟩ : Addr).add ((7 : Int).toNat * 7)) (.agg #[.string (kWord 7), .bool true, .bool false, .bool false, .bool false, .bool false, .bool false]) := by
  rw [show ((⟨0, 0, none⟩ : Addr).add ((7 : Int).toNat * 7)) = ⟨0, 49, none⟩ from by kernel_rfl]; exact Ld.rowN (cs := [.string ⟨#[100, 114, 111, 112]⟩, .bool true, .bool false, .bool false, .bool false, .bool false, .bool false]) h.tab (by kernel_rfl)
theorem fm_8 {w : World} (h : LibS w) : Ld Tryd.prog w 56 ((⟨0, 0, none⟩ : Addr).add ((8 : Int).toNat * 7)) (.agg #[.string (kWord 8), .bool true, .bool false, .bool false, .bool false, .bool false, .bool false]) := by
  rw [show ((⟨0, 0, none⟩ : Addr).add ((8 : Int).toNat * 7)) = ⟨0, 56, none⟩ from by kernel_rfl]; exact Ld.rowN (cs := [.string ⟨#[100, 111, 117, 98, 108, 101]⟩, .bool true, .bool false, .bool false, .bool false, .bool false, .bool false]) h.tab (by kernel_rfl)
theorem fm_11 {w : World} (h : LibS w) : Ld Tryd.prog w 56 ((⟨0, 0, none⟩ : Addr).add ((11 : Int).toNat * 7)) (.agg #[.string (kWord 11), .bool true, .bool false, .bool false, .bool false, .bool false, .bool false]) := by
  rw [show ((⟨0, 0, none⟩ : Addr).add ((11 : Int).toNat * 7)) = ⟨0, 77, none⟩ from by kernel_rfl]; exact Ld.rowN (cs := [.string ⟨#[108, 111, 115, 101]⟩, .bool true, .bool false, .bool false, .bool false, .bool false, .bool false]) h.tab (by kernel_rfl)
theorem fm_13 {w : World} (h : LibS w) : Ld Tryd.prog w 56 ((⟨0, 0, none⟩ : Addr).add ((13 : Int).toNat * 7)) (.agg #[.string (kWord 13), .bool true, .bool false, .bool false, .bool false, .bool false, .bool false]) := by
  rw [show ((⟨0, 0, none⟩ : Addr).add ((13 : Int).toNat * 7)) = ⟨0, 91, none⟩ from by kernel_rfl]; exact Ld.rowN (cs := [.string ⟨#[115, 116, 97, 114, 116]⟩, .bool true, .bool false, .bool false, .bool false, .bool false, .bool false]) h.tab (by kernel_rfl)
theorem fm_15 {w : World} (h : LibS w) : Ld Tryd.prog w 56 ((⟨0, 0, none⟩ : Addr).add ((15 : Int).toNat * 7)) (.agg #[.string (kWord 15), .bool true, .bool false, .bool false, .bool false, .bool false, .bool false]) := by
  rw [show ((⟨0, 0, none⟩ : Addr).add ((15 : Int).toNat * 7)) = ⟨0, 105, none⟩ from by kernel_rfl]; exact Ld.rowN (cs := [.string ⟨#[99, 111, 109, 112, 97, 99, 116]⟩, .bool true, .bool false, .bool false, .bool false, .bool false, .bool false]) h.tab (by kernel_rfl)
theorem fm_a {k : Int} (hp : PA k) {w : World} (h : LibS w) : Ld Tryd.prog w 56 ((⟨0, 0, none⟩ : Addr).add ((k : Int).toNat * 7)) (.agg #[.string (kWord k), .bool true, .bool false, .bool false, .bool false, .bool false, .bool false]) := by
  unfold PA at hp; rcases hp with rfl | rfl | rfl | rfl | rfl | rfl | rfl | rfl | rfl
  · exact fm_3 h
  · exact fm_4 h
  · exact fm_5 h
  · exact fm_6 h
  · exact fm_7 h
  · exact fm_8 h
  · exact fm_11 h
  · exact fm_13 h
  · exact fm_15 h
theorem okS_k {k A B : Int} {Ky v : ByteArray} {l : List Int} (hp : PA k) : okS ⟨k, A, B, Ky, v, l⟩ ↔ B = 0 ∧ Ky = ⟨#[]⟩ ∧ v.size = 0 ∧ l.length = 0 := by
  obtain ⟨f1, f2, f3, f4, f5, f6⟩ := hp.fl
  exact ⟨fun h => ⟨h.2.2.1 f2, h.2.2.2.1 f3, h.2.2.2.2.1 f4, h.2.2.2.2.2.2 f5⟩, fun h => ⟨hp.rng, fun q => absurd (f1.symm.trans q) (by decide), fun _ => h.1, fun _ => h.2.1, fun _ => h.2.2.1, fun q => absurd q f6, fun _ => h.2.2.2⟩⟩
theorem chk_k1 (A B : Int) (Ky : ByteArray) (V L : SlH) (v : ByteArray) (l : List Int) (w : World) (hl : LibS w) (hv : V.n = v.size) (hn : L.n = l.length) (hL : SlR w L.a L.n (l.flatMap i64c)) :
    Calls Tryd.prog 8 #[GStep.val (⟨1, A, B, Ky, V, L⟩ : GStep)] w (fun r_ w' => r_ = .returned (.int .i64 (chkI ⟨1, A, B, Ky, v, l⟩)) ∧ Fram Non w w') := by
  refine calls_of Tryd.func8 rfl 81 rfl (by simp) ?_
  have hp0 := Hp.init w
  have he0 : List.map (env0 [GStep.val (⟨1, A, B, Ky, V, L⟩ : GStep)]) [0] = [GStep.val (⟨1, A, B, Ky, V, L⟩ : GStep)] := by kernel_rfl
  obtain ⟨b0, he0⟩ := toMk he0
  rw [he0]
  clear he0
  refine WP.seq ?_
  refine WP.region _ rfl (by kernel_rfl) ?_
  refine OPS.cons (opStep.box hp0 [.int .i64 1, .int .i64 A, .int .i64 B, .string Ky, .slice V.a V.n V.c, .slice L.a L.n L.c] (by kernel_rfl) (fun g3 w1 hp2 => ?_))
  refine OPS.batch 1 {} [] [1] [.pointer (some ⟨g3, 0, none⟩)] .nil (by kernel_rfl) (fun b4 => ?_)
  refine OPS.nil ?_
  refine thn_n ?_
  refine WP.seq ?_
  refine WP.seq ?_
  refine WP.pure { wraps := [11] } [.int .i64 1, .int .i64 1] [1, 11] [.pointer (some ⟨g3, 0, none⟩), .bool false] (.cons (Ld.row1 (P := Tryd.prog) (t := 3) (o := 0) (v := .int .i64 1) hp2.get0 (by kernel_rfl)) (.cons (Ld.row1 (P := Tryd.prog) (t := 3) (o := 0) (v := .int .i64 1) hp2.get0 (by kernel_rfl)) .nil)) (by kernel_rfl) (fun b5 => ?_)
  refine thn_n ?_
  refine WP.condF rfl ?_
  refine WP.skip ?_
  refine thn_n ?_
  refine WP.seq ?_
  refine WP.region _ rfl (by kernel_rfl) ?_
  refine OPS.batch 4 {} [.int .i64 1, .agg #[.string ⟨#[112, 117, 116]⟩, .bool true, .bool false, .bool true, .bool true, .bool false, .bool false]] [1, 15] [.pointer (some ⟨g3, 0, none⟩), .agg #[.string ⟨#[112, 117, 116]⟩, .bool true, .bool false, .bool true, .bool true, .bool false, .bool false]] (.cons (Ld.row1 (P := Tryd.prog) (t := 3) (o := 0) (v := .int .i64 1) hp2.get0 (by kernel_rfl)) (.cons (show InB (1) (17) from ⟨by omega, by omega⟩) (.cons (show Ld Tryd.prog w1 56 ⟨0, 7, none⟩ (.agg #[.string ⟨#[112, 117, 116]⟩, .bool true, .bool false, .bool true, .bool true, .bool false, .bool false]) from Ld.rowN (cs := [.string ⟨#[112, 117, 116]⟩, .bool true, .bool false, .bool true, .bool true, .bool false, .bool false]) (row_at hl.tab hp2.fr) (by kernel_rfl)) .nil))) (by kernel_rfl) (fun b6 => ?_)
  refine OPS.cons (opStep.alloc hp2 [.string ByteArray.empty, .bool false, .bool false, .bool false, .bool false, .bool false, .bool false] (by kernel_rfl) (fun g9 w7 hp8 => ?_))
  refine OPS.cons (opStep.store0 hp8 rfl [.string ⟨#[112, 117, 116]⟩, .bool true, .bool false, .bool true, .bool true, .bool false, .bool false] [.string ⟨#[112, 117, 116]⟩, .bool true, .bool false, .bool true, .bool true, .bool false, .bool false] (by kernel_rfl) (fun w10 hp11 => ?_))
  refine OPS.nil ?_
  refine thn_n ?_
  refine WP.seq ?_
  refine WP.block ?_
  refine WP.cut (fun e20 w21 => ∃ (x18 : Bool), (True) ∧ Bp x18 ((¬ (B = 0)) ∧ (¬ (B = 0))) ∧ List.map e20 [1, 3, 16] = [.pointer (some ⟨g3, 0, none⟩), .pointer (some ⟨g9, 0, none⟩), .bool x18] ∧ Hp w Non [Res.row g9 [.string ⟨#[112, 117, 116]⟩, .bool true, .bool false, .bool true, .bool true, .bool false, .bool false] 56, Res.row g3 [.int .i64 1, .int .i64 A, .int .i64 B, .string Ky, .slice V.a V.n V.c, .slice L.a L.n L.c] 31] w21) ?_ ?_
  · refine WP.seq ?_
    refine WP.pure { wraps := [24] } [.bool true] [1, 3, 16] [.pointer (some ⟨g3, 0, none⟩), .pointer (some ⟨g9, 0, none⟩), .bool false] (.cons (Ld.row1 (P := Tryd.prog) (t := 4) (o := 1) (v := .bool true) hp11.get0 (by kernel_rfl)) .nil) (by kernel_rfl) (fun b13 => ?_)
    refine thn_n ?_
    refine WP.condF rfl ?_
    refine WP.seq ?_
    refine WP.pure { wraps := [32] } [.bool false, .int .i64 B] [1, 3, 16] [.pointer (some ⟨g3, 0, none⟩), .pointer (some ⟨g9, 0, none⟩), .bool (decide (¬ (B = 0)))] (.cons (Ld.row1 (P := Tryd.prog) (t := 4) (o := 2) (v := .bool false) hp11.get0 (by kernel_rfl)) (.cons (Ld.row1 (P := Tryd.prog) (t := 3) (o := 2) (v := .int .i64 B) hp11.get1 (by kernel_rfl)) .nil)) (by kernel_rfl) (fun b14 => ?_)
    refine thn_n ?_
    refine WP.test (p := ¬ (B = 0)) rfl Bp.dec (fun h15 => ?_) (fun h15 => ?_)
    · refine WP.skip ?_
      refine thn_n ?_
      exact ⟨decide (¬ (B = 0)), trivial, Bp.of Bp.dec (by first | (simp only [h15, iff_false, false_iff, iff_true, true_iff, Classical.not_not, and_true, true_and, and_false, false_and, or_true, true_or, or_false, false_or, not_true_eq_false, not_false_eq_true, and_self, or_self, iff_self]; done) | (simp [h15]; done) | grind | (simp_all; done)), by kernel_rfl, hp11⟩
    · replace h15 := Classical.not_not.1 h15
      refine WP.seq ?_
      refine WP.pure { wraps := [40] } [.bool true] [1, 3, 16] [.pointer (some ⟨g3, 0, none⟩), .pointer (some ⟨g9, 0, none⟩), .bool false] (.cons (Ld.row1 (P := Tryd.prog) (t := 4) (o := 3) (v := .bool true) hp11.get0 (by kernel_rfl)) .nil) (by kernel_rfl) (fun b16 => ?_)
      refine thn_n ?_
      refine WP.condF rfl ?_
      refine WP.pure { wraps := [49] } [.bool true] [1, 3, 16] [.pointer (some ⟨g3, 0, none⟩), .pointer (some ⟨g9, 0, none⟩), .bool false] (.cons (Ld.row1 (P := Tryd.prog) (t := 4) (o := 4) (v := .bool true) hp11.get0 (by kernel_rfl)) .nil) (by kernel_rfl) (fun b17 => ?_)
      refine thn_n ?_
      exact ⟨false, trivial, Bp.of Bp.f (by first | (simp only [h15, iff_false, false_iff, iff_true, true_iff, Classical.not_not, and_true, true_and, and_false, false_and, or_true, true_or, or_false, false_or, not_true_eq_false, not_false_eq_true, and_self, or_self, iff_self]; done) | (simp [h15]; done) | grind | (simp_all; done)), by kernel_rfl, hp11⟩
  rintro e20 w21 ⟨x18, hd23, hb19, hE24, hp22⟩
  obtain ⟨b25, rfl⟩ := toMk hE24
  clear hE24
  clear hd23
  refine WP.test (p := (¬ (B = 0)) ∧ (¬ (B = 0))) rfl hb19 (fun h26 => ?_) (fun h26 => ?_)
  · refine WP.seq ?_
    refine WP.pure {} [] [2] [.int .i64 1] .nil (by kernel_rfl) (fun b27 => ?_)
    refine thn_n ?_
    refine WP.ret ?_
    refine blk_r ?_
    refine thn_r ?_
    refine bodyQ.of _ rfl [.int .i64 1] ⟨rfl, trivial⟩ ?_
    exact ⟨by simp only [pack]; rw [chk_1 (show (1 : Int) ≤ 1 ∧ (1 : Int) ≤ 16 by decide) (fun q => by rw [okS_1] at q; have h_ := h26; clear hL; first | omega | grind | (simp_all; done) | (simp_all; omega))], hp22.fr⟩
  · refine WP.seq ?_
    refine WP.pure {} [.bool false] [1, 3, 50] [.pointer (some ⟨g3, 0, none⟩), .pointer (some ⟨g9, 0, none⟩), .bool false] (.cons (Ld.row1 (P := Tryd.prog) (t := 4) (o := 5) (v := .bool false) hp22.get0 (by kernel_rfl)) .nil) (by kernel_rfl) (fun b28 => ?_)
    refine thn_n ?_
    refine WP.condF rfl ?_
    refine WP.seq ?_
    refine WP.pure { wraps := [80] } [.bool false, .slice L.a L.n L.c] [71] [.bool (decide (0 < ((L.n : Nat) : Int)))] (.cons (Ld.row1 (P := Tryd.prog) (t := 4) (o := 6) (v := .bool false) hp22.get0 (by kernel_rfl)) (.cons (Ld.row1 (P := Tryd.prog) (t := 29) (o := 5) (v := .slice L.a L.n L.c) hp22.get1 (by kernel_rfl)) .nil)) (by kernel_rfl) (fun b29 => ?_)
    refine thn_n ?_
    refine WP.test (p := 0 < ((L.n : Nat) : Int)) rfl Bp.dec (fun h30 => ?_) (fun h30 => ?_)
    · refine WP.seq ?_
      refine WP.pure {} [] [2] [.int .i64 1] .nil (by kernel_rfl) (fun b31 => ?_)
      refine thn_n ?_
      refine WP.ret ?_
      refine blk_r ?_
      refine thn_r ?_
      refine bodyQ.of _ rfl [.int .i64 1] ⟨rfl, trivial⟩ ?_
      exact ⟨by simp only [pack]; rw [chk_1 (show (1 : Int) ≤ 1 ∧ (1 : Int) ≤ 16 by decide) (fun q => by rw [okS_1] at q; have h_ := h30; clear hL; first | omega | grind | (simp_all; done) | (simp_all; omega))], hp22.fr⟩
    · refine WP.skip ?_
      refine blk_n ?_
      refine thn_n ?_
      refine WP.seq ?_
      refine WP.pure {} [] [2] [.int .i64 0] .nil (by kernel_rfl) (fun b32 => ?_)
      refine thn_n ?_
      refine WP.ret ?_
      refine bodyQ.of _ rfl [.int .i64 0] ⟨rfl, trivial⟩ ?_
      exact ⟨by simp only [pack]; rw [chk_0 (by rw [okS_1]; clear hL; first | omega | grind | (simp_all; done) | (simp_all; omega))], hp22.fr⟩

theorem chk_k2 (A B : Int) (Ky : ByteArray) (V L : SlH) (v : ByteArray) (l : List Int) (w : World) (hl : LibS w) (hv : V.n = v.size) (hn : L.n = l.length) (hL : SlR w L.a L.n (l.flatMap i64c)) :
    Calls Tryd.prog 8 #[GStep.val (⟨2, A, B, Ky, V, L⟩ : GStep)] w (fun r_ w' => r_ = .returned (.int .i64 (chkI ⟨2, A, B, Ky, v, l⟩)) ∧ Fram Non w w') := by
  refine calls_of Tryd.func8 rfl 81 rfl (by simp) ?_
  have hp0 := Hp.init w
  have he0 : List.map (env0 [GStep.val (⟨2, A, B, Ky, V, L⟩ : GStep)]) [0] = [GStep.val (⟨2, A, B, Ky, V, L⟩ : GStep)] := by kernel_rfl
  obtain ⟨b0, he0⟩ := toMk he0
  rw [he0]
  clear he0
  refine WP.seq ?_
  refine WP.region _ rfl (by kernel_rfl) ?_
  refine OPS.cons (opStep.box hp0 [.int .i64 2, .int .i64 A, .int .i64 B, .string Ky, .slice V.a V.n V.c, .slice L.a L.n L.c] (by kernel_rfl) (fun g3 w1 hp2 => ?_))
  refine OPS.batch 1 {} [] [1] [.pointer (some ⟨g3, 0, none⟩)] .nil (by kernel_rfl) (fun b4 => ?_)
  refine OPS.nil ?_
  refine thn_n ?_
  refine WP.seq ?_
  refine WP.seq ?_
  refine WP.pure { wraps := [11] } [.int .i64 2, .int .i64 2] [1, 11] [.pointer (some ⟨g3, 0, none⟩), .bool false] (.cons (Ld.row1 (P := Tryd.prog) (t := 3) (o := 0) (v := .int .i64 2) hp2.get0 (by kernel_rfl)) (.cons (Ld.row1 (P := Tryd.prog) (t := 3) (o := 0) (v := .int .i64 2) hp2.get0 (by kernel_rfl)) .nil)) (by kernel_rfl) (fun b5 => ?_)
  refine thn_n ?_
  refine WP.condF rfl ?_
  refine WP.skip ?_
  refine thn_n ?_
  refine WP.seq ?_
  refine WP.region _ rfl (by kernel_rfl) ?_
  refine OPS.batch 4 {} [.int .i64 2, .agg #[.string ⟨#[103, 101, 116]⟩, .bool true, .bool false, .bool true, .bool false, .bool false, .bool false]] [1, 15] [.pointer (some ⟨g3, 0, none⟩), .agg #[.string ⟨#[103, 101, 116]⟩, .bool true, .bool false, .bool true, .bool false, .bool false, .bool false]] (.cons (Ld.row1 (P := Tryd.prog) (t := 3) (o := 0) (v := .int .i64 2) hp2.get0 (by kernel_rfl)) (.cons (show InB (2) (17) from ⟨by omega, by omega⟩) (.cons (show Ld Tryd.prog w1 56 ⟨0, 14, none⟩ (.agg #[.string ⟨#[103, 101, 116]⟩, .bool true, .bool false, .bool true, .bool false, .bool false, .bool false]) from Ld.rowN (cs := [.string ⟨#[103, 101, 116]⟩, .bool true, .bool false, .bool true, .bool false, .bool false, .bool false]) (row_at hl.tab hp2.fr) (by kernel_rfl)) .nil))) (by kernel_rfl) (fun b6 => ?_)
  refine OPS.cons (opStep.alloc hp2 [.string ByteArray.empty, .bool false, .bool false, .bool false, .bool false, .bool false, .bool false] (by kernel_rfl) (fun g9 w7 hp8 => ?_))
  refine OPS.cons (opStep.store0 hp8 rfl [.string ⟨#[103, 101, 116]⟩, .bool true, .bool false, .bool true, .bool false, .bool false, .bool false] [.string ⟨#[103, 101, 116]⟩, .bool true, .bool false, .bool true, .bool false, .bool false, .bool false] (by kernel_rfl) (fun w10 hp11 => ?_))
  refine OPS.nil ?_
  refine thn_n ?_
  refine WP.seq ?_
  refine WP.block ?_
  refine WP.cut (fun e20 w21 => ∃ (x18 : Bool), (True) ∧ Bp x18 (((¬ (B = 0)) ∧ (¬ (B = 0))) ∨ ((B = 0) ∧ (0 < ((V.n : Nat) : Int)))) ∧ List.map e20 [1, 3, 16] = [.pointer (some ⟨g3, 0, none⟩), .pointer (some ⟨g9, 0, none⟩), .bool x18] ∧ Hp w Non [Res.row g9 [.string ⟨#[103, 101, 116]⟩, .bool true, .bool false, .bool true, .bool false, .bool false, .bool false] 56, Res.row g3 [.int .i64 2, .int .i64 A, .int .i64 B, .string Ky, .slice V.a V.n V.c, .slice L.a L.n L.c] 31] w21) ?_ ?_
  · refine WP.seq ?_
    refine WP.pure { wraps := [24] } [.bool true] [1, 3, 16] [.pointer (some ⟨g3, 0, none⟩), .pointer (some ⟨g9, 0, none⟩), .bool false] (.cons (Ld.row1 (P := Tryd.prog) (t := 4) (o := 1) (v := .bool true) hp11.get0 (by kernel_rfl)) .nil) (by kernel_rfl) (fun b13 => ?_)
    refine thn_n ?_
    refine WP.condF rfl ?_
    refine WP.seq ?_
    refine WP.pure { wraps := [32] } [.bool false, .int .i64 B] [1, 3, 16] [.pointer (some ⟨g3, 0, none⟩), .pointer (some ⟨g9, 0, none⟩), .bool (decide (¬ (B = 0)))] (.cons (Ld.row1 (P := Tryd.prog) (t := 4) (o := 2) (v := .bool false) hp11.get0 (by kernel_rfl)) (.cons (Ld.row1 (P := Tryd.prog) (t := 3) (o := 2) (v := .int .i64 B) hp11.get1 (by kernel_rfl)) .nil)) (by kernel_rfl) (fun b14 => ?_)
    refine thn_n ?_
    refine WP.test (p := ¬ (B = 0)) rfl Bp.dec (fun h15 => ?_) (fun h15 => ?_)
    · refine WP.skip ?_
      refine thn_n ?_
      exact ⟨decide (¬ (B = 0)), trivial, Bp.of Bp.dec (by first | (simp only [h15, iff_false, false_iff, iff_true, true_iff, Classical.not_not, and_true, true_and, and_false, false_and, or_true, true_or, or_false, false_or, not_true_eq_false, not_false_eq_true, and_self, or_self, iff_self]; done) | (simp [h15]; done) | grind | (simp_all; done)), by kernel_rfl, hp11⟩
    · replace h15 := Classical.not_not.1 h15
      refine WP.seq ?_
      refine WP.pure { wraps := [40] } [.bool true] [1, 3, 16] [.pointer (some ⟨g3, 0, none⟩), .pointer (some ⟨g9, 0, none⟩), .bool false] (.cons (Ld.row1 (P := Tryd.prog) (t := 4) (o := 3) (v := .bool true) hp11.get0 (by kernel_rfl)) .nil) (by kernel_rfl) (fun b16 => ?_)
      refine thn_n ?_
      refine WP.condF rfl ?_
      refine WP.pure { wraps := [49] } [.bool false, .slice V.a V.n V.c] [1, 3, 16] [.pointer (some ⟨g3, 0, none⟩), .pointer (some ⟨g9, 0, none⟩), .bool (decide (0 < ((V.n : Nat) : Int)))] (.cons (Ld.row1 (P := Tryd.prog) (t := 4) (o := 4) (v := .bool false) hp11.get0 (by kernel_rfl)) (.cons (Ld.row1 (P := Tryd.prog) (t := 28) (o := 4) (v := .slice V.a V.n V.c) hp11.get1 (by kernel_rfl)) .nil)) (by kernel_rfl) (fun b17 => ?_)
      refine thn_n ?_
      exact ⟨decide (0 < ((V.n : Nat) : Int)), trivial, Bp.of Bp.dec (by first | (simp only [h15, iff_false, false_iff, iff_true, true_iff, Classical.not_not, and_true, true_and, and_false, false_and, or_true, true_or, or_false, false_or, not_true_eq_false, not_false_eq_true, and_self, or_self, iff_self]; done) | (simp [h15]; done) | grind | (simp_all; done)), by kernel_rfl, hp11⟩
  rintro e20 w21 ⟨x18, hd23, hb19, hE24, hp22⟩
  obtain ⟨b25, rfl⟩ := toMk hE24
  clear hE24
  clear hd23
  refine WP.test (p := ((¬ (B = 0)) ∧ (¬ (B = 0))) ∨ ((B = 0) ∧ (0 < ((V.n : Nat) : Int)))) rfl hb19 (fun h26 => ?_) (fun h26 => ?_)
  · refine WP.seq ?_
    refine WP.pure {} [] [2] [.int .i64 1] .nil (by kernel_rfl) (fun b27 => ?_)
    refine thn_n ?_
    refine WP.ret ?_
    refine blk_r ?_
    refine thn_r ?_
    refine bodyQ.of _ rfl [.int .i64 1] ⟨rfl, trivial⟩ ?_
    exact ⟨by simp only [pack]; rw [chk_1 (show (1 : Int) ≤ 2 ∧ (2 : Int) ≤ 16 by decide) (fun q => by rw [okS_2] at q; have h_ := h26; clear hL; first | omega | grind | (simp_all; done) | (simp_all; omega))], hp22.fr⟩
  · refine WP.seq ?_
    refine WP.pure {} [.bool false] [1, 3, 50] [.pointer (some ⟨g3, 0, none⟩), .pointer (some ⟨g9, 0, none⟩), .bool false] (.cons (Ld.row1 (P := Tryd.prog) (t := 4) (o := 5) (v := .bool false) hp22.get0 (by kernel_rfl)) .nil) (by kernel_rfl) (fun b28 => ?_)
    refine thn_n ?_
    refine WP.condF rfl ?_
    refine WP.seq ?_
    refine WP.pure { wraps := [80] } [.bool false, .slice L.a L.n L.c] [71] [.bool (decide (0 < ((L.n : Nat) : Int)))] (.cons (Ld.row1 (P := Tryd.prog) (t := 4) (o := 6) (v := .bool false) hp22.get0 (by kernel_rfl)) (.cons (Ld.row1 (P := Tryd.prog) (t := 29) (o := 5) (v := .slice L.a L.n L.c) hp22.get1 (by kernel_rfl)) .nil)) (by kernel_rfl) (fun b29 => ?_)
    refine thn_n ?_
    refine WP.test (p := 0 < ((L.n : Nat) : Int)) rfl Bp.dec (fun h30 => ?_) (fun h30 => ?_)
    · refine WP.seq ?_
      refine WP.pure {} [] [2] [.int .i64 1] .nil (by kernel_rfl) (fun b31 => ?_)
      refine thn_n ?_
      refine WP.ret ?_
      refine blk_r ?_
      refine thn_r ?_
      refine bodyQ.of _ rfl [.int .i64 1] ⟨rfl, trivial⟩ ?_
      exact ⟨by simp only [pack]; rw [chk_1 (show (1 : Int) ≤ 2 ∧ (2 : Int) ≤ 16 by decide) (fun q => by rw [okS_2] at q; have h_ := h30; clear hL; first | omega | grind | (simp_all; done) | (simp_all; omega))], hp22.fr⟩
    · refine WP.skip ?_
      refine blk_n ?_
      refine thn_n ?_
      refine WP.seq ?_
      refine WP.pure {} [] [2] [.int .i64 0] .nil (by kernel_rfl) (fun b32 => ?_)
      refine thn_n ?_
      refine WP.ret ?_
      refine bodyQ.of _ rfl [.int .i64 0] ⟨rfl, trivial⟩ ?_
      exact ⟨by simp only [pack]; rw [chk_0 (by rw [okS_2]; clear hL; first | omega | grind | (simp_all; done) | (simp_all; omega))], hp22.fr⟩

theorem chk_k9 (A B : Int) (Ky : ByteArray) (V L : SlH) (v : ByteArray) (l : List Int) (w : World) (hl : LibS w) (hv : V.n = v.size) (hn : L.n = l.length) (hL : SlR w L.a L.n (l.flatMap i64c)) :
    Calls Tryd.prog 8 #[GStep.val (⟨9, A, B, Ky, V, L⟩ : GStep)] w (fun r_ w' => r_ = .returned (.int .i64 (chkI ⟨9, A, B, Ky, v, l⟩)) ∧ Fram Non w w') := by
  refine calls_of Tryd.func8 rfl 81 rfl (by simp) ?_
  have hp0 := Hp.init w
  have he0 : List.map (env0 [GStep.val (⟨9, A, B, Ky, V, L⟩ : GStep)]) [0] = [GStep.val (⟨9, A, B, Ky, V, L⟩ : GStep)] := by kernel_rfl
  obtain ⟨b0, he0⟩ := toMk he0
  rw [he0]
  clear he0
  refine WP.seq ?_
  refine WP.region _ rfl (by kernel_rfl) ?_
  refine OPS.cons (opStep.box hp0 [.int .i64 9, .int .i64 A, .int .i64 B, .string Ky, .slice V.a V.n V.c, .slice L.a L.n L.c] (by kernel_rfl) (fun g3 w1 hp2 => ?_))
  refine OPS.batch 1 {} [] [1] [.pointer (some ⟨g3, 0, none⟩)] .nil (by kernel_rfl) (fun b4 => ?_)
  refine OPS.nil ?_
  refine thn_n ?_
  refine WP.seq ?_
  refine WP.seq ?_
  refine WP.pure { wraps := [11] } [.int .i64 9, .int .i64 9] [1, 11] [.pointer (some ⟨g3, 0, none⟩), .bool false] (.cons (Ld.row1 (P := Tryd.prog) (t := 3) (o := 0) (v := .int .i64 9) hp2.get0 (by kernel_rfl)) (.cons (Ld.row1 (P := Tryd.prog) (t := 3) (o := 0) (v := .int .i64 9) hp2.get0 (by kernel_rfl)) .nil)) (by kernel_rfl) (fun b5 => ?_)
  refine thn_n ?_
  refine WP.condF rfl ?_
  refine WP.skip ?_
  refine thn_n ?_
  refine WP.seq ?_
  refine WP.region _ rfl (by kernel_rfl) ?_
  refine OPS.batch 4 {} [.int .i64 9, .agg #[.string ⟨#[98, 117, 114, 115, 116]⟩, .bool true, .bool true, .bool false, .bool false, .bool true, .bool false]] [1, 15] [.pointer (some ⟨g3, 0, none⟩), .agg #[.string ⟨#[98, 117, 114, 115, 116]⟩, .bool true, .bool true, .bool false, .bool false, .bool true, .bool false]] (.cons (Ld.row1 (P := Tryd.prog) (t := 3) (o := 0) (v := .int .i64 9) hp2.get0 (by kernel_rfl)) (.cons (show InB (9) (17) from ⟨by omega, by omega⟩) (.cons (show Ld Tryd.prog w1 56 ⟨0, 63, none⟩ (.agg #[.string ⟨#[98, 117, 114, 115, 116]⟩, .bool true, .bool true, .bool false, .bool false, .bool true, .bool false]) from Ld.rowN (cs := [.string ⟨#[98, 117, 114, 115, 116]⟩, .bool true, .bool true, .bool false, .bool false, .bool true, .bool false]) (row_at hl.tab hp2.fr) (by kernel_rfl)) .nil))) (by kernel_rfl) (fun b6 => ?_)
  refine OPS.cons (opStep.alloc hp2 [.string ByteArray.empty, .bool false, .bool false, .bool false, .bool false, .bool false, .bool false] (by kernel_rfl) (fun g9 w7 hp8 => ?_))
  refine OPS.cons (opStep.store0 hp8 rfl [.string ⟨#[98, 117, 114, 115, 116]⟩, .bool true, .bool true, .bool false, .bool false, .bool true, .bool false] [.string ⟨#[98, 117, 114, 115, 116]⟩, .bool true, .bool true, .bool false, .bool false, .bool true, .bool false] (by kernel_rfl) (fun w10 hp11 => ?_))
  refine OPS.nil ?_
  refine thn_n ?_
  refine WP.seq ?_
  refine WP.block ?_
  refine WP.cut (fun e20 w21 => ∃ (x18 : Bool), (True) ∧ Bp x18 (((¬ (Ky = ⟨#[]⟩)) ∧ (¬ (Ky = ⟨#[]⟩))) ∨ ((Ky = ⟨#[]⟩) ∧ (0 < ((V.n : Nat) : Int)))) ∧ List.map e20 [1, 3, 16] = [.pointer (some ⟨g3, 0, none⟩), .pointer (some ⟨g9, 0, none⟩), .bool x18] ∧ Hp w Non [Res.row g9 [.string ⟨#[98, 117, 114, 115, 116]⟩, .bool true, .bool true, .bool false, .bool false, .bool true, .bool false] 56, Res.row g3 [.int .i64 9, .int .i64 A, .int .i64 B, .string Ky, .slice V.a V.n V.c, .slice L.a L.n L.c] 31] w21) ?_ ?_
  · refine WP.seq ?_
    refine WP.pure { wraps := [24] } [.bool true] [1, 3, 16] [.pointer (some ⟨g3, 0, none⟩), .pointer (some ⟨g9, 0, none⟩), .bool false] (.cons (Ld.row1 (P := Tryd.prog) (t := 4) (o := 1) (v := .bool true) hp11.get0 (by kernel_rfl)) .nil) (by kernel_rfl) (fun b13 => ?_)
    refine thn_n ?_
    refine WP.condF rfl ?_
    refine WP.seq ?_
    refine WP.pure { wraps := [32] } [.bool true] [1, 3, 16] [.pointer (some ⟨g3, 0, none⟩), .pointer (some ⟨g9, 0, none⟩), .bool false] (.cons (Ld.row1 (P := Tryd.prog) (t := 4) (o := 2) (v := .bool true) hp11.get0 (by kernel_rfl)) .nil) (by kernel_rfl) (fun b14 => ?_)
    refine thn_n ?_
    refine WP.condF rfl ?_
    refine WP.seq ?_
    refine WP.pure { wraps := [40] } [.bool false, .string Ky] [1, 3, 16] [.pointer (some ⟨g3, 0, none⟩), .pointer (some ⟨g9, 0, none⟩), .bool (decide (¬ (Ky = ⟨#[]⟩)))] (.cons (Ld.row1 (P := Tryd.prog) (t := 4) (o := 3) (v := .bool false) hp11.get0 (by kernel_rfl)) (.cons (Ld.row1 (P := Tryd.prog) (t := 9) (o := 3) (v := .string Ky) hp11.get1 (by kernel_rfl)) .nil)) (by kernel_rfl) (fun b15 => ?_)
    refine thn_n ?_
    refine WP.test (p := ¬ (Ky = ⟨#[]⟩)) rfl Bp.dec (fun h16 => ?_) (fun h16 => ?_)
    · refine WP.skip ?_
      refine thn_n ?_
      exact ⟨decide (¬ (Ky = ⟨#[]⟩)), trivial, Bp.of Bp.dec (by first | (simp only [h16, iff_false, false_iff, iff_true, true_iff, Classical.not_not, and_true, true_and, and_false, false_and, or_true, true_or, or_false, false_or, not_true_eq_false, not_false_eq_true, and_self, or_self, iff_self]; done) | (simp [h16]; done) | grind | (simp_all; done)), by kernel_rfl, hp11⟩
    · replace h16 := Classical.not_not.1 h16
      refine WP.pure { wraps := [49] } [.bool false, .slice V.a V.n V.c] [1, 3, 16] [.pointer (some ⟨g3, 0, none⟩), .pointer (some ⟨g9, 0, none⟩), .bool (decide (0 < ((V.n : Nat) : Int)))] (.cons (Ld.row1 (P := Tryd.prog) (t := 4) (o := 4) (v := .bool false) hp11.get0 (by kernel_rfl)) (.cons (Ld.row1 (P := Tryd.prog) (t := 28) (o := 4) (v := .slice V.a V.n V.c) hp11.get1 (by kernel_rfl)) .nil)) (by kernel_rfl) (fun b17 => ?_)
      refine thn_n ?_
      exact ⟨decide (0 < ((V.n : Nat) : Int)), trivial, Bp.of Bp.dec (by first | (simp only [h16, iff_false, false_iff, iff_true, true_iff, Classical.not_not, and_true, true_and, and_false, false_and, or_true, true_or, or_false, false_or, not_true_eq_false, not_false_eq_true, and_self, or_self, iff_self]; done) | (simp [h16]; done) | grind | (simp_all; done)), by kernel_rfl, hp11⟩
  rintro e20 w21 ⟨x18, hd23, hb19, hE24, hp22⟩
  obtain ⟨b25, rfl⟩ := toMk hE24
  clear hE24
  clear hd23
  refine WP.test (p := ((¬ (Ky = ⟨#[]⟩)) ∧ (¬ (Ky = ⟨#[]⟩))) ∨ ((Ky = ⟨#[]⟩) ∧ (0 < ((V.n : Nat) : Int)))) rfl hb19 (fun h26 => ?_) (fun h26 => ?_)
  · refine WP.seq ?_
    refine WP.pure {} [] [2] [.int .i64 1] .nil (by kernel_rfl) (fun b27 => ?_)
    refine thn_n ?_
    refine WP.ret ?_
    refine blk_r ?_
    refine thn_r ?_
    refine bodyQ.of _ rfl [.int .i64 1] ⟨rfl, trivial⟩ ?_
    exact ⟨by simp only [pack]; rw [chk_1 (show (1 : Int) ≤ 9 ∧ (9 : Int) ≤ 16 by decide) (fun q => by rw [okS_9] at q; have h_ := h26; clear hL; first | omega | grind | (simp_all; done) | (simp_all; omega))], hp22.fr⟩
  · refine WP.seq ?_
    refine WP.pure {} [.bool true] [1, 3, 50] [.pointer (some ⟨g3, 0, none⟩), .pointer (some ⟨g9, 0, none⟩), .bool true] (.cons (Ld.row1 (P := Tryd.prog) (t := 4) (o := 5) (v := .bool true) hp22.get0 (by kernel_rfl)) .nil) (by kernel_rfl) (fun b28 => ?_)
    refine thn_n ?_
    refine WP.condT rfl ?_
    refine WP.cut (fun e45 w46 => ∃ (x43 : Bool), (True) ∧ Bp x43 (((¬ (((L.n : Nat) : Int) = 1))) ∨ ((((L.n : Nat) : Int) = 1) ∧ ((l[0]!) < 0)) ∨ ((((L.n : Nat) : Int) = 1) ∧ (¬ ((l[0]!) < 0)) ∧ (4294967295 < (l[0]!)))) ∧ List.map e45 [70] = [.bool x43] ∧ Hp w Non [Res.row g9 [.string ⟨#[98, 117, 114, 115, 116]⟩, .bool true, .bool true, .bool false, .bool false, .bool true, .bool false] 56, Res.row g3 [.int .i64 9, .int .i64 A, .int .i64 B, .string Ky, .slice V.a V.n V.c, .slice L.a L.n L.c] 31] w46) ?_ ?_
    · refine WP.region _ rfl (by kernel_rfl) ?_
      refine OPS.batch 5 {} [.slice L.a L.n L.c] [1, 57] [.pointer (some ⟨g3, 0, none⟩), .bool (decide (¬ (((L.n : Nat) : Int) = 1)))] (.cons (Ld.row1 (P := Tryd.prog) (t := 29) (o := 5) (v := .slice L.a L.n L.c) hp22.get1 (by kernel_rfl)) .nil) (by kernel_rfl) (fun b30 => ?_)
      by_cases h31 : ((L.n : Nat) : Int) = 1
      · refine OPS.batch 0 {} [] [1, 57] [.pointer (some ⟨g3, 0, none⟩), .bool (decide (¬ (((L.n : Nat) : Int) = 1)))] .nil (by kernel_rfl) (fun b34 => ?_)
        refine OPS.re [.pointer (some ⟨g3, 0, none⟩), .bool false] (by rw [show (decide (¬ (((L.n : Nat) : Int) = 1))) = false from Bp.dec.ff (fun k => k h31)]) ?_
        have hy36 : (l)[0]? = some l[0]! := get_bang (by first | (omega) | (simp only [List.length_append, List.length_cons, List.length_nil]; omega) | (simp only [List.length_take, List.length_append, List.length_cons, List.length_nil]; omega))
        refine OPS.batch 7 { wraps := [63] } [.slice L.a L.n L.c, .int .i64 (l[0]!)] [1, 64] [.pointer (some ⟨g3, 0, none⟩), .bool (decide ((l[0]!) < 0))] (.cons (Ld.row1 (P := Tryd.prog) (t := 29) (o := 5) (v := .slice L.a L.n L.c) hp22.get1 (by kernel_rfl)) (.cons (show InB (0) (L.n) from ⟨by omega, by omega⟩) (.cons ((hL.at hp22).some (by omega)) (.cons (Ld.add0 (Ld.el1 (P := Tryd.prog) (t := 3) (hL.at hp22).rd 1 (fun _ => rfl) hy36 (o := 0) (v := .int .i64 (l[0]!)) (by kernel_rfl))) .nil)))) (by kernel_rfl) (fun b37 => ?_)
        by_cases h38 : (l[0]!) < 0
        · refine OPS.batch 0 {} [] [1, 64] [.pointer (some ⟨g3, 0, none⟩), .bool (decide ((l[0]!) < 0))] .nil (by kernel_rfl) (fun b39 => ?_)
          refine OPS.re [.pointer (some ⟨g3, 0, none⟩), .bool true] (by rw [show (decide ((l[0]!) < 0)) = true from Bp.dec.tt h38]) ?_
          refine OPS.batch 6 { wraps := [70] } [] [70] [.bool true] .nil (by kernel_rfl) (fun b40 => ?_)
          refine OPS.nil ?_
          refine thn_n ?_
          exact ⟨true, trivial, Bp.of Bp.t (by first | (simp only [h31, h38, iff_false, false_iff, iff_true, true_iff, Classical.not_not, and_true, true_and, and_false, false_and, or_true, true_or, or_false, false_or, not_true_eq_false, not_false_eq_true, and_self, or_self, iff_self]; done) | (simp [h31, h38]; done) | grind | (simp_all; done)), by kernel_rfl, hp22⟩
        · refine OPS.batch 0 {} [] [1, 64] [.pointer (some ⟨g3, 0, none⟩), .bool (decide ((l[0]!) < 0))] .nil (by kernel_rfl) (fun b41 => ?_)
          refine OPS.re [.pointer (some ⟨g3, 0, none⟩), .bool false] (by rw [show (decide ((l[0]!) < 0)) = false from Bp.dec.ff h38]) ?_
          refine OPS.batch 6 { wraps := [70] } [.slice L.a L.n L.c, .int .i64 (l[0]!)] [70] [.bool (decide (4294967295 < (l[0]!)))] (.cons (Ld.row1 (P := Tryd.prog) (t := 29) (o := 5) (v := .slice L.a L.n L.c) hp22.get1 (by kernel_rfl)) (.cons (show InB (0) (L.n) from ⟨by omega, by omega⟩) (.cons ((hL.at hp22).some (by omega)) (.cons (Ld.add0 (Ld.el1 (P := Tryd.prog) (t := 3) (hL.at hp22).rd 1 (fun _ => rfl) hy36 (o := 0) (v := .int .i64 (l[0]!)) (by kernel_rfl))) .nil)))) (by kernel_rfl) (fun b42 => ?_)
          refine OPS.nil ?_
          refine thn_n ?_
          exact ⟨decide (4294967295 < (l[0]!)), trivial, Bp.of Bp.dec (by first | (simp only [h31, h38, iff_false, false_iff, iff_true, true_iff, Classical.not_not, and_true, true_and, and_false, false_and, or_true, true_or, or_false, false_or, not_true_eq_false, not_false_eq_true, and_self, or_self, iff_self]; done) | (simp [h31, h38]; done) | grind | (simp_all; done)), by kernel_rfl, hp22⟩
      · refine OPS.batch 0 {} [] [1, 57] [.pointer (some ⟨g3, 0, none⟩), .bool (decide (¬ (((L.n : Nat) : Int) = 1)))] .nil (by kernel_rfl) (fun b32 => ?_)
        refine OPS.re [.pointer (some ⟨g3, 0, none⟩), .bool true] (by rw [show (decide (¬ (((L.n : Nat) : Int) = 1))) = true from Bp.dec.tt h31]) ?_
        refine OPS.batch 13 { wraps := [63, 70] } [] [70] [.bool true] .nil (by kernel_rfl) (fun b33 => ?_)
        refine OPS.nil ?_
        refine thn_n ?_
        exact ⟨true, trivial, Bp.of Bp.t (by first | (simp only [h31, iff_false, false_iff, iff_true, true_iff, Classical.not_not, and_true, true_and, and_false, false_and, or_true, true_or, or_false, false_or, not_true_eq_false, not_false_eq_true, and_self, or_self, iff_self]; done) | (simp [h31]; done) | grind | (simp_all; done)), by kernel_rfl, hp22⟩
    rintro e45 w46 ⟨x43, hd48, hb44, hE49, hp47⟩
    obtain ⟨b50, rfl⟩ := toMk hE49
    clear hE49
    clear hd48
    refine WP.test (p := ((¬ (((L.n : Nat) : Int) = 1))) ∨ ((((L.n : Nat) : Int) = 1) ∧ ((l[0]!) < 0)) ∨ ((((L.n : Nat) : Int) = 1) ∧ (¬ ((l[0]!) < 0)) ∧ (4294967295 < (l[0]!)))) rfl hb44 (fun h51 => ?_) (fun h51 => ?_)
    · refine WP.seq ?_
      refine WP.pure {} [] [2] [.int .i64 1] .nil (by kernel_rfl) (fun b52 => ?_)
      refine thn_n ?_
      refine WP.ret ?_
      refine blk_r ?_
      refine thn_r ?_
      refine bodyQ.of _ rfl [.int .i64 1] ⟨rfl, trivial⟩ ?_
      exact ⟨by simp only [pack]; rw [chk_1 (show (1 : Int) ≤ 9 ∧ (9 : Int) ≤ 16 by decide) (fun q => by rw [okS_9] at q; have h_ := h51; clear hL; first | omega | grind | (simp_all; done) | (simp_all; omega))], hp47.fr⟩
    · refine WP.skip ?_
      refine blk_n ?_
      refine thn_n ?_
      refine WP.seq ?_
      refine WP.pure {} [] [2] [.int .i64 0] .nil (by kernel_rfl) (fun b53 => ?_)
      refine thn_n ?_
      refine WP.ret ?_
      refine bodyQ.of _ rfl [.int .i64 0] ⟨rfl, trivial⟩ ?_
      exact ⟨by simp only [pack]; rw [chk_0 (by rw [okS_9]; clear hL; first | omega | grind | (simp_all; done) | (simp_all; omega))], hp47.fr⟩

theorem chk_k10 (A B : Int) (Ky : ByteArray) (V L : SlH) (v : ByteArray) (l : List Int) (w : World) (hl : LibS w) (hv : V.n = v.size) (hn : L.n = l.length) (hL : SlR w L.a L.n (l.flatMap i64c)) :
    Calls Tryd.prog 8 #[GStep.val (⟨10, A, B, Ky, V, L⟩ : GStep)] w (fun r_ w' => r_ = .returned (.int .i64 (chkI ⟨10, A, B, Ky, v, l⟩)) ∧ Fram Non w w') := by
  refine calls_of Tryd.func8 rfl 81 rfl (by simp) ?_
  have hp0 := Hp.init w
  have he0 : List.map (env0 [GStep.val (⟨10, A, B, Ky, V, L⟩ : GStep)]) [0] = [GStep.val (⟨10, A, B, Ky, V, L⟩ : GStep)] := by kernel_rfl
  obtain ⟨b0, he0⟩ := toMk he0
  rw [he0]
  clear he0
  refine WP.seq ?_
  refine WP.region _ rfl (by kernel_rfl) ?_
  refine OPS.cons (opStep.box hp0 [.int .i64 10, .int .i64 A, .int .i64 B, .string Ky, .slice V.a V.n V.c, .slice L.a L.n L.c] (by kernel_rfl) (fun g3 w1 hp2 => ?_))
  refine OPS.batch 1 {} [] [1] [.pointer (some ⟨g3, 0, none⟩)] .nil (by kernel_rfl) (fun b4 => ?_)
  refine OPS.nil ?_
  refine thn_n ?_
  refine WP.seq ?_
  refine WP.seq ?_
  refine WP.pure { wraps := [11] } [.int .i64 10, .int .i64 10] [1, 11] [.pointer (some ⟨g3, 0, none⟩), .bool false] (.cons (Ld.row1 (P := Tryd.prog) (t := 3) (o := 0) (v := .int .i64 10) hp2.get0 (by kernel_rfl)) (.cons (Ld.row1 (P := Tryd.prog) (t := 3) (o := 0) (v := .int .i64 10) hp2.get0 (by kernel_rfl)) .nil)) (by kernel_rfl) (fun b5 => ?_)
  refine thn_n ?_
  refine WP.condF rfl ?_
  refine WP.skip ?_
  refine thn_n ?_
  refine WP.seq ?_
  refine WP.region _ rfl (by kernel_rfl) ?_
  refine OPS.batch 4 {} [.int .i64 10, .agg #[.string ⟨#[99, 117, 116]⟩, .bool true, .bool true, .bool false, .bool false, .bool false, .bool false]] [1, 15] [.pointer (some ⟨g3, 0, none⟩), .agg #[.string ⟨#[99, 117, 116]⟩, .bool true, .bool true, .bool false, .bool false, .bool false, .bool false]] (.cons (Ld.row1 (P := Tryd.prog) (t := 3) (o := 0) (v := .int .i64 10) hp2.get0 (by kernel_rfl)) (.cons (show InB (10) (17) from ⟨by omega, by omega⟩) (.cons (show Ld Tryd.prog w1 56 ⟨0, 70, none⟩ (.agg #[.string ⟨#[99, 117, 116]⟩, .bool true, .bool true, .bool false, .bool false, .bool false, .bool false]) from Ld.rowN (cs := [.string ⟨#[99, 117, 116]⟩, .bool true, .bool true, .bool false, .bool false, .bool false, .bool false]) (row_at hl.tab hp2.fr) (by kernel_rfl)) .nil))) (by kernel_rfl) (fun b6 => ?_)
  refine OPS.cons (opStep.alloc hp2 [.string ByteArray.empty, .bool false, .bool false, .bool false, .bool false, .bool false, .bool false] (by kernel_rfl) (fun g9 w7 hp8 => ?_))
  refine OPS.cons (opStep.store0 hp8 rfl [.string ⟨#[99, 117, 116]⟩, .bool true, .bool true, .bool false, .bool false, .bool false, .bool false] [.string ⟨#[99, 117, 116]⟩, .bool true, .bool true, .bool false, .bool false, .bool false, .bool false] (by kernel_rfl) (fun w10 hp11 => ?_))
  refine OPS.nil ?_
  refine thn_n ?_
  refine WP.seq ?_
  refine WP.block ?_
  refine WP.cut (fun e20 w21 => ∃ (x18 : Bool), (True) ∧ Bp x18 (((¬ (Ky = ⟨#[]⟩)) ∧ (¬ (Ky = ⟨#[]⟩))) ∨ ((Ky = ⟨#[]⟩) ∧ (0 < ((V.n : Nat) : Int)))) ∧ List.map e20 [1, 3, 16] = [.pointer (some ⟨g3, 0, none⟩), .pointer (some ⟨g9, 0, none⟩), .bool x18] ∧ Hp w Non [Res.row g9 [.string ⟨#[99, 117, 116]⟩, .bool true, .bool true, .bool false, .bool false, .bool false, .bool false] 56, Res.row g3 [.int .i64 10, .int .i64 A, .int .i64 B, .string Ky, .slice V.a V.n V.c, .slice L.a L.n L.c] 31] w21) ?_ ?_
  · refine WP.seq ?_
    refine WP.pure { wraps := [24] } [.bool true] [1, 3, 16] [.pointer (some ⟨g3, 0, none⟩), .pointer (some ⟨g9, 0, none⟩), .bool false] (.cons (Ld.row1 (P := Tryd.prog) (t := 4) (o := 1) (v := .bool true) hp11.get0 (by kernel_rfl)) .nil) (by kernel_rfl) (fun b13 => ?_)
    refine thn_n ?_
    refine WP.condF rfl ?_
    refine WP.seq ?_
    refine WP.pure { wraps := [32] } [.bool true] [1, 3, 16] [.pointer (some ⟨g3, 0, none⟩), .pointer (some ⟨g9, 0, none⟩), .bool false] (.cons (Ld.row1 (P := Tryd.prog) (t := 4) (o := 2) (v := .bool true) hp11.get0 (by kernel_rfl)) .nil) (by kernel_rfl) (fun b14 => ?_)
    refine thn_n ?_
    refine WP.condF rfl ?_
    refine WP.seq ?_
    refine WP.pure { wraps := [40] } [.bool false, .string Ky] [1, 3, 16] [.pointer (some ⟨g3, 0, none⟩), .pointer (some ⟨g9, 0, none⟩), .bool (decide (¬ (Ky = ⟨#[]⟩)))] (.cons (Ld.row1 (P := Tryd.prog) (t := 4) (o := 3) (v := .bool false) hp11.get0 (by kernel_rfl)) (.cons (Ld.row1 (P := Tryd.prog) (t := 9) (o := 3) (v := .string Ky) hp11.get1 (by kernel_rfl)) .nil)) (by kernel_rfl) (fun b15 => ?_)
    refine thn_n ?_
    refine WP.test (p := ¬ (Ky = ⟨#[]⟩)) rfl Bp.dec (fun h16 => ?_) (fun h16 => ?_)
    · refine WP.skip ?_
      refine thn_n ?_
      exact ⟨decide (¬ (Ky = ⟨#[]⟩)), trivial, Bp.of Bp.dec (by first | (simp only [h16, iff_false, false_iff, iff_true, true_iff, Classical.not_not, and_true, true_and, and_false, false_and, or_true, true_or, or_false, false_or, not_true_eq_false, not_false_eq_true, and_self, or_self, iff_self]; done) | (simp [h16]; done) | grind | (simp_all; done)), by kernel_rfl, hp11⟩
    · replace h16 := Classical.not_not.1 h16
      refine WP.pure { wraps := [49] } [.bool false, .slice V.a V.n V.c] [1, 3, 16] [.pointer (some ⟨g3, 0, none⟩), .pointer (some ⟨g9, 0, none⟩), .bool (decide (0 < ((V.n : Nat) : Int)))] (.cons (Ld.row1 (P := Tryd.prog) (t := 4) (o := 4) (v := .bool false) hp11.get0 (by kernel_rfl)) (.cons (Ld.row1 (P := Tryd.prog) (t := 28) (o := 4) (v := .slice V.a V.n V.c) hp11.get1 (by kernel_rfl)) .nil)) (by kernel_rfl) (fun b17 => ?_)
      refine thn_n ?_
      exact ⟨decide (0 < ((V.n : Nat) : Int)), trivial, Bp.of Bp.dec (by first | (simp only [h16, iff_false, false_iff, iff_true, true_iff, Classical.not_not, and_true, true_and, and_false, false_and, or_true, true_or, or_false, false_or, not_true_eq_false, not_false_eq_true, and_self, or_self, iff_self]; done) | (simp [h16]; done) | grind | (simp_all; done)), by kernel_rfl, hp11⟩
  rintro e20 w21 ⟨x18, hd23, hb19, hE24, hp22⟩
  obtain ⟨b25, rfl⟩ := toMk hE24
  clear hE24
  clear hd23
  refine WP.test (p := ((¬ (Ky = ⟨#[]⟩)) ∧ (¬ (Ky = ⟨#[]⟩))) ∨ ((Ky = ⟨#[]⟩) ∧ (0 < ((V.n : Nat) : Int)))) rfl hb19 (fun h26 => ?_) (fun h26 => ?_)
  · refine WP.seq ?_
    refine WP.pure {} [] [2] [.int .i64 1] .nil (by kernel_rfl) (fun b27 => ?_)
    refine thn_n ?_
    refine WP.ret ?_
    refine blk_r ?_
    refine thn_r ?_
    refine bodyQ.of _ rfl [.int .i64 1] ⟨rfl, trivial⟩ ?_
    exact ⟨by simp only [pack]; rw [chk_1 (show (1 : Int) ≤ 10 ∧ (10 : Int) ≤ 16 by decide) (fun q => by rw [okS_10] at q; have h_ := h26; clear hL; first | omega | grind | (simp_all; done) | (simp_all; omega))], hp22.fr⟩
  · refine WP.seq ?_
    refine WP.pure {} [.bool false] [1, 3, 50] [.pointer (some ⟨g3, 0, none⟩), .pointer (some ⟨g9, 0, none⟩), .bool false] (.cons (Ld.row1 (P := Tryd.prog) (t := 4) (o := 5) (v := .bool false) hp22.get0 (by kernel_rfl)) .nil) (by kernel_rfl) (fun b28 => ?_)
    refine thn_n ?_
    refine WP.condF rfl ?_
    refine WP.seq ?_
    refine WP.pure { wraps := [80] } [.bool false, .slice L.a L.n L.c] [71] [.bool (decide (0 < ((L.n : Nat) : Int)))] (.cons (Ld.row1 (P := Tryd.prog) (t := 4) (o := 6) (v := .bool false) hp22.get0 (by kernel_rfl)) (.cons (Ld.row1 (P := Tryd.prog) (t := 29) (o := 5) (v := .slice L.a L.n L.c) hp22.get1 (by kernel_rfl)) .nil)) (by kernel_rfl) (fun b29 => ?_)
    refine thn_n ?_
    refine WP.test (p := 0 < ((L.n : Nat) : Int)) rfl Bp.dec (fun h30 => ?_) (fun h30 => ?_)
    · refine WP.seq ?_
      refine WP.pure {} [] [2] [.int .i64 1] .nil (by kernel_rfl) (fun b31 => ?_)
      refine thn_n ?_
      refine WP.ret ?_
      refine blk_r ?_
      refine thn_r ?_
      refine bodyQ.of _ rfl [.int .i64 1] ⟨rfl, trivial⟩ ?_
      exact ⟨by simp only [pack]; rw [chk_1 (show (1 : Int) ≤ 10 ∧ (10 : Int) ≤ 16 by decide) (fun q => by rw [okS_10] at q; have h_ := h30; clear hL; first | omega | grind | (simp_all; done) | (simp_all; omega))], hp22.fr⟩
    · refine WP.skip ?_
      refine blk_n ?_
      refine thn_n ?_
      refine WP.seq ?_
      refine WP.pure {} [] [2] [.int .i64 0] .nil (by kernel_rfl) (fun b32 => ?_)
      refine thn_n ?_
      refine WP.ret ?_
      refine bodyQ.of _ rfl [.int .i64 0] ⟨rfl, trivial⟩ ?_
      exact ⟨by simp only [pack]; rw [chk_0 (by rw [okS_10]; clear hL; first | omega | grind | (simp_all; done) | (simp_all; omega))], hp22.fr⟩

theorem chk_k12 (A B : Int) (Ky : ByteArray) (V L : SlH) (v : ByteArray) (l : List Int) (w : World) (hl : LibS w) (hv : V.n = v.size) (hn : L.n = l.length) (hL : SlR w L.a L.n (l.flatMap i64c)) :
    Calls Tryd.prog 8 #[GStep.val (⟨12, A, B, Ky, V, L⟩ : GStep)] w (fun r_ w' => r_ = .returned (.int .i64 (chkI ⟨12, A, B, Ky, v, l⟩)) ∧ Fram Non w w') := by
  refine calls_of Tryd.func8 rfl 81 rfl (by simp) ?_
  have hp0 := Hp.init w
  have he0 : List.map (env0 [GStep.val (⟨12, A, B, Ky, V, L⟩ : GStep)]) [0] = [GStep.val (⟨12, A, B, Ky, V, L⟩ : GStep)] := by kernel_rfl
  obtain ⟨b0, he0⟩ := toMk he0
  rw [he0]
  clear he0
  refine WP.seq ?_
  refine WP.region _ rfl (by kernel_rfl) ?_
  refine OPS.cons (opStep.box hp0 [.int .i64 12, .int .i64 A, .int .i64 B, .string Ky, .slice V.a V.n V.c, .slice L.a L.n L.c] (by kernel_rfl) (fun g3 w1 hp2 => ?_))
  refine OPS.batch 1 {} [] [1] [.pointer (some ⟨g3, 0, none⟩)] .nil (by kernel_rfl) (fun b4 => ?_)
  refine OPS.nil ?_
  refine thn_n ?_
  refine WP.seq ?_
  refine WP.seq ?_
  refine WP.pure { wraps := [11] } [.int .i64 12, .int .i64 12] [1, 11] [.pointer (some ⟨g3, 0, none⟩), .bool false] (.cons (Ld.row1 (P := Tryd.prog) (t := 3) (o := 0) (v := .int .i64 12) hp2.get0 (by kernel_rfl)) (.cons (Ld.row1 (P := Tryd.prog) (t := 3) (o := 0) (v := .int .i64 12) hp2.get0 (by kernel_rfl)) .nil)) (by kernel_rfl) (fun b5 => ?_)
  refine thn_n ?_
  refine WP.condF rfl ?_
  refine WP.skip ?_
  refine thn_n ?_
  refine WP.seq ?_
  refine WP.region _ rfl (by kernel_rfl) ?_
  refine OPS.batch 4 {} [.int .i64 12, .agg #[.string ⟨#[99, 114, 97, 115, 104]⟩, .bool true, .bool false, .bool false, .bool false, .bool false, .bool true]] [1, 15] [.pointer (some ⟨g3, 0, none⟩), .agg #[.string ⟨#[99, 114, 97, 115, 104]⟩, .bool true, .bool false, .bool false, .bool false, .bool false, .bool true]] (.cons (Ld.row1 (P := Tryd.prog) (t := 3) (o := 0) (v := .int .i64 12) hp2.get0 (by kernel_rfl)) (.cons (show InB (12) (17) from ⟨by omega, by omega⟩) (.cons (show Ld Tryd.prog w1 56 ⟨0, 84, none⟩ (.agg #[.string ⟨#[99, 114, 97, 115, 104]⟩, .bool true, .bool false, .bool false, .bool false, .bool false, .bool true]) from Ld.rowN (cs := [.string ⟨#[99, 114, 97, 115, 104]⟩, .bool true, .bool false, .bool false, .bool false, .bool false, .bool true]) (row_at hl.tab hp2.fr) (by kernel_rfl)) .nil))) (by kernel_rfl) (fun b6 => ?_)
  refine OPS.cons (opStep.alloc hp2 [.string ByteArray.empty, .bool false, .bool false, .bool false, .bool false, .bool false, .bool false] (by kernel_rfl) (fun g9 w7 hp8 => ?_))
  refine OPS.cons (opStep.store0 hp8 rfl [.string ⟨#[99, 114, 97, 115, 104]⟩, .bool true, .bool false, .bool false, .bool false, .bool false, .bool true] [.string ⟨#[99, 114, 97, 115, 104]⟩, .bool true, .bool false, .bool false, .bool false, .bool false, .bool true] (by kernel_rfl) (fun w10 hp11 => ?_))
  refine OPS.nil ?_
  refine thn_n ?_
  refine WP.seq ?_
  refine WP.block ?_
  refine WP.cut (fun e21 w22 => ∃ (x19 : Bool), (True) ∧ Bp x19 (((¬ (B = 0)) ∧ (¬ (B = 0))) ∨ ((B = 0) ∧ (¬ (Ky = ⟨#[]⟩)) ∧ (¬ (Ky = ⟨#[]⟩))) ∨ ((B = 0) ∧ (Ky = ⟨#[]⟩) ∧ (0 < ((V.n : Nat) : Int)))) ∧ List.map e21 [1, 3, 16] = [.pointer (some ⟨g3, 0, none⟩), .pointer (some ⟨g9, 0, none⟩), .bool x19] ∧ Hp w Non [Res.row g9 [.string ⟨#[99, 114, 97, 115, 104]⟩, .bool true, .bool false, .bool false, .bool false, .bool false, .bool true] 56, Res.row g3 [.int .i64 12, .int .i64 A, .int .i64 B, .string Ky, .slice V.a V.n V.c, .slice L.a L.n L.c] 31] w22) ?_ ?_
  · refine WP.seq ?_
    refine WP.pure { wraps := [24] } [.bool true] [1, 3, 16] [.pointer (some ⟨g3, 0, none⟩), .pointer (some ⟨g9, 0, none⟩), .bool false] (.cons (Ld.row1 (P := Tryd.prog) (t := 4) (o := 1) (v := .bool true) hp11.get0 (by kernel_rfl)) .nil) (by kernel_rfl) (fun b13 => ?_)
    refine thn_n ?_
    refine WP.condF rfl ?_
    refine WP.seq ?_
    refine WP.pure { wraps := [32] } [.bool false, .int .i64 B] [1, 3, 16] [.pointer (some ⟨g3, 0, none⟩), .pointer (some ⟨g9, 0, none⟩), .bool (decide (¬ (B = 0)))] (.cons (Ld.row1 (P := Tryd.prog) (t := 4) (o := 2) (v := .bool false) hp11.get0 (by kernel_rfl)) (.cons (Ld.row1 (P := Tryd.prog) (t := 3) (o := 2) (v := .int .i64 B) hp11.get1 (by kernel_rfl)) .nil)) (by kernel_rfl) (fun b14 => ?_)
    refine thn_n ?_
    refine WP.test (p := ¬ (B = 0)) rfl Bp.dec (fun h15 => ?_) (fun h15 => ?_)
    · refine WP.skip ?_
      refine thn_n ?_
      exact ⟨decide (¬ (B = 0)), trivial, Bp.of Bp.dec (by first | (simp only [h15, iff_false, false_iff, iff_true, true_iff, Classical.not_not, and_true, true_and, and_false, false_and, or_true, true_or, or_false, false_or, not_true_eq_false, not_false_eq_true, and_self, or_self, iff_self]; done) | (simp [h15]; done) | grind | (simp_all; done)), by kernel_rfl, hp11⟩
    · replace h15 := Classical.not_not.1 h15
      refine WP.seq ?_
      refine WP.pure { wraps := [40] } [.bool false, .string Ky] [1, 3, 16] [.pointer (some ⟨g3, 0, none⟩), .pointer (some ⟨g9, 0, none⟩), .bool (decide (¬ (Ky = ⟨#[]⟩)))] (.cons (Ld.row1 (P := Tryd.prog) (t := 4) (o := 3) (v := .bool false) hp11.get0 (by kernel_rfl)) (.cons (Ld.row1 (P := Tryd.prog) (t := 9) (o := 3) (v := .string Ky) hp11.get1 (by kernel_rfl)) .nil)) (by kernel_rfl) (fun b16 => ?_)
      refine thn_n ?_
      refine WP.test (p := ¬ (Ky = ⟨#[]⟩)) rfl Bp.dec (fun h17 => ?_) (fun h17 => ?_)
      · refine WP.skip ?_
        refine thn_n ?_
        exact ⟨decide (¬ (Ky = ⟨#[]⟩)), trivial, Bp.of Bp.dec (by first | (simp only [h15, h17, iff_false, false_iff, iff_true, true_iff, Classical.not_not, and_true, true_and, and_false, false_and, or_true, true_or, or_false, false_or, not_true_eq_false, not_false_eq_true, and_self, or_self, iff_self]; done) | (simp [h15, h17]; done) | grind | (simp_all; done)), by kernel_rfl, hp11⟩
      · replace h17 := Classical.not_not.1 h17
        refine WP.pure { wraps := [49] } [.bool false, .slice V.a V.n V.c] [1, 3, 16] [.pointer (some ⟨g3, 0, none⟩), .pointer (some ⟨g9, 0, none⟩), .bool (decide (0 < ((V.n : Nat) : Int)))] (.cons (Ld.row1 (P := Tryd.prog) (t := 4) (o := 4) (v := .bool false) hp11.get0 (by kernel_rfl)) (.cons (Ld.row1 (P := Tryd.prog) (t := 28) (o := 4) (v := .slice V.a V.n V.c) hp11.get1 (by kernel_rfl)) .nil)) (by kernel_rfl) (fun b18 => ?_)
        refine thn_n ?_
        exact ⟨decide (0 < ((V.n : Nat) : Int)), trivial, Bp.of Bp.dec (by first | (simp only [h15, h17, iff_false, false_iff, iff_true, true_iff, Classical.not_not, and_true, true_and, and_false, false_and, or_true, true_or, or_false, false_or, not_true_eq_false, not_false_eq_true, and_self, or_self, iff_self]; done) | (simp [h15, h17]; done) | grind | (simp_all; done)), by kernel_rfl, hp11⟩
  rintro e21 w22 ⟨x19, hd24, hb20, hE25, hp23⟩
  obtain ⟨b26, rfl⟩ := toMk hE25
  clear hE25
  clear hd24
  refine WP.test (p := ((¬ (B = 0)) ∧ (¬ (B = 0))) ∨ ((B = 0) ∧ (¬ (Ky = ⟨#[]⟩)) ∧ (¬ (Ky = ⟨#[]⟩))) ∨ ((B = 0) ∧ (Ky = ⟨#[]⟩) ∧ (0 < ((V.n : Nat) : Int)))) rfl hb20 (fun h27 => ?_) (fun h27 => ?_)
  · refine WP.seq ?_
    refine WP.pure {} [] [2] [.int .i64 1] .nil (by kernel_rfl) (fun b28 => ?_)
    refine thn_n ?_
    refine WP.ret ?_
    refine blk_r ?_
    refine thn_r ?_
    refine bodyQ.of _ rfl [.int .i64 1] ⟨rfl, trivial⟩ ?_
    exact ⟨by simp only [pack]; rw [chk_1 (show (1 : Int) ≤ 12 ∧ (12 : Int) ≤ 16 by decide) (fun q => by rw [okS_12] at q; have h_ := h27; clear hL; first | omega | grind | (simp_all; done) | (simp_all; omega))], hp23.fr⟩
  · refine WP.seq ?_
    refine WP.pure {} [.bool false] [1, 3, 50] [.pointer (some ⟨g3, 0, none⟩), .pointer (some ⟨g9, 0, none⟩), .bool false] (.cons (Ld.row1 (P := Tryd.prog) (t := 4) (o := 5) (v := .bool false) hp23.get0 (by kernel_rfl)) .nil) (by kernel_rfl) (fun b29 => ?_)
    refine thn_n ?_
    refine WP.condF rfl ?_
    refine WP.seq ?_
    refine WP.pure { wraps := [80] } [.bool true] [71] [.bool false] (.cons (Ld.row1 (P := Tryd.prog) (t := 4) (o := 6) (v := .bool true) hp23.get0 (by kernel_rfl)) .nil) (by kernel_rfl) (fun b30 => ?_)
    refine thn_n ?_
    refine WP.condF rfl ?_
    refine WP.skip ?_
    refine blk_n ?_
    refine thn_n ?_
    refine WP.seq ?_
    refine WP.pure {} [] [2] [.int .i64 0] .nil (by kernel_rfl) (fun b31 => ?_)
    refine thn_n ?_
    refine WP.ret ?_
    refine bodyQ.of _ rfl [.int .i64 0] ⟨rfl, trivial⟩ ?_
    exact ⟨by simp only [pack]; rw [chk_0 (by rw [okS_12]; clear hL; first | omega | grind | (simp_all; done) | (simp_all; omega))], hp23.fr⟩

theorem chk_k14 (A B : Int) (Ky : ByteArray) (V L : SlH) (v : ByteArray) (l : List Int) (w : World) (hl : LibS w) (hv : V.n = v.size) (hn : L.n = l.length) (hL : SlR w L.a L.n (l.flatMap i64c)) :
    Calls Tryd.prog 8 #[GStep.val (⟨14, A, B, Ky, V, L⟩ : GStep)] w (fun r_ w' => r_ = .returned (.int .i64 (chkI ⟨14, A, B, Ky, v, l⟩)) ∧ Fram Non w w') := by
  refine calls_of Tryd.func8 rfl 81 rfl (by simp) ?_
  have hp0 := Hp.init w
  have he0 : List.map (env0 [GStep.val (⟨14, A, B, Ky, V, L⟩ : GStep)]) [0] = [GStep.val (⟨14, A, B, Ky, V, L⟩ : GStep)] := by kernel_rfl
  obtain ⟨b0, he0⟩ := toMk he0
  rw [he0]
  clear he0
  refine WP.seq ?_
  refine WP.region _ rfl (by kernel_rfl) ?_
  refine OPS.cons (opStep.box hp0 [.int .i64 14, .int .i64 A, .int .i64 B, .string Ky, .slice V.a V.n V.c, .slice L.a L.n L.c] (by kernel_rfl) (fun g3 w1 hp2 => ?_))
  refine OPS.batch 1 {} [] [1] [.pointer (some ⟨g3, 0, none⟩)] .nil (by kernel_rfl) (fun b4 => ?_)
  refine OPS.nil ?_
  refine thn_n ?_
  refine WP.seq ?_
  refine WP.seq ?_
  refine WP.pure { wraps := [11] } [.int .i64 14, .int .i64 14] [1, 11] [.pointer (some ⟨g3, 0, none⟩), .bool false] (.cons (Ld.row1 (P := Tryd.prog) (t := 3) (o := 0) (v := .int .i64 14) hp2.get0 (by kernel_rfl)) (.cons (Ld.row1 (P := Tryd.prog) (t := 3) (o := 0) (v := .int .i64 14) hp2.get0 (by kernel_rfl)) .nil)) (by kernel_rfl) (fun b5 => ?_)
  refine thn_n ?_
  refine WP.condF rfl ?_
  refine WP.skip ?_
  refine thn_n ?_
  refine WP.seq ?_
  refine WP.region _ rfl (by kernel_rfl) ?_
  refine OPS.batch 4 {} [.int .i64 14, .agg #[.string ⟨#[100, 105, 101]⟩, .bool true, .bool true, .bool false, .bool false, .bool false, .bool true]] [1, 15] [.pointer (some ⟨g3, 0, none⟩), .agg #[.string ⟨#[100, 105, 101]⟩, .bool true, .bool true, .bool false, .bool false, .bool false, .bool true]] (.cons (Ld.row1 (P := Tryd.prog) (t := 3) (o := 0) (v := .int .i64 14) hp2.get0 (by kernel_rfl)) (.cons (show InB (14) (17) from ⟨by omega, by omega⟩) (.cons (show Ld Tryd.prog w1 56 ⟨0, 98, none⟩ (.agg #[.string ⟨#[100, 105, 101]⟩, .bool true, .bool true, .bool false, .bool false, .bool false, .bool true]) from Ld.rowN (cs := [.string ⟨#[100, 105, 101]⟩, .bool true, .bool true, .bool false, .bool false, .bool false, .bool true]) (row_at hl.tab hp2.fr) (by kernel_rfl)) .nil))) (by kernel_rfl) (fun b6 => ?_)
  refine OPS.cons (opStep.alloc hp2 [.string ByteArray.empty, .bool false, .bool false, .bool false, .bool false, .bool false, .bool false] (by kernel_rfl) (fun g9 w7 hp8 => ?_))
  refine OPS.cons (opStep.store0 hp8 rfl [.string ⟨#[100, 105, 101]⟩, .bool true, .bool true, .bool false, .bool false, .bool false, .bool true] [.string ⟨#[100, 105, 101]⟩, .bool true, .bool true, .bool false, .bool false, .bool false, .bool true] (by kernel_rfl) (fun w10 hp11 => ?_))
  refine OPS.nil ?_
  refine thn_n ?_
  refine WP.seq ?_
  refine WP.block ?_
  refine WP.cut (fun e20 w21 => ∃ (x18 : Bool), (True) ∧ Bp x18 (((¬ (Ky = ⟨#[]⟩)) ∧ (¬ (Ky = ⟨#[]⟩))) ∨ ((Ky = ⟨#[]⟩) ∧ (0 < ((V.n : Nat) : Int)))) ∧ List.map e20 [1, 3, 16] = [.pointer (some ⟨g3, 0, none⟩), .pointer (some ⟨g9, 0, none⟩), .bool x18] ∧ Hp w Non [Res.row g9 [.string ⟨#[100, 105, 101]⟩, .bool true, .bool true, .bool false, .bool false, .bool false, .bool true] 56, Res.row g3 [.int .i64 14, .int .i64 A, .int .i64 B, .string Ky, .slice V.a V.n V.c, .slice L.a L.n L.c] 31] w21) ?_ ?_
  · refine WP.seq ?_
    refine WP.pure { wraps := [24] } [.bool true] [1, 3, 16] [.pointer (some ⟨g3, 0, none⟩), .pointer (some ⟨g9, 0, none⟩), .bool false] (.cons (Ld.row1 (P := Tryd.prog) (t := 4) (o := 1) (v := .bool true) hp11.get0 (by kernel_rfl)) .nil) (by kernel_rfl) (fun b13 => ?_)
    refine thn_n ?_
    refine WP.condF rfl ?_
    refine WP.seq ?_
    refine WP.pure { wraps := [32] } [.bool true] [1, 3, 16] [.pointer (some ⟨g3, 0, none⟩), .pointer (some ⟨g9, 0, none⟩), .bool false] (.cons (Ld.row1 (P := Tryd.prog) (t := 4) (o := 2) (v := .bool true) hp11.get0 (by kernel_rfl)) .nil) (by kernel_rfl) (fun b14 => ?_)
    refine thn_n ?_
    refine WP.condF rfl ?_
    refine WP.seq ?_
    refine WP.pure { wraps := [40] } [.bool false, .string Ky] [1, 3, 16] [.pointer (some ⟨g3, 0, none⟩), .pointer (some ⟨g9, 0, none⟩), .bool (decide (¬ (Ky = ⟨#[]⟩)))] (.cons (Ld.row1 (P := Tryd.prog) (t := 4) (o := 3) (v := .bool false) hp11.get0 (by kernel_rfl)) (.cons (Ld.row1 (P := Tryd.prog) (t := 9) (o := 3) (v := .string Ky) hp11.get1 (by kernel_rfl)) .nil)) (by kernel_rfl) (fun b15 => ?_)
    refine thn_n ?_
    refine WP.test (p := ¬ (Ky = ⟨#[]⟩)) rfl Bp.dec (fun h16 => ?_) (fun h16 => ?_)
    · refine WP.skip ?_
      refine thn_n ?_
      exact ⟨decide (¬ (Ky = ⟨#[]⟩)), trivial, Bp.of Bp.dec (by first | (simp only [h16, iff_false, false_iff, iff_true, true_iff, Classical.not_not, and_true, true_and, and_false, false_and, or_true, true_or, or_false, false_or, not_true_eq_false, not_false_eq_true, and_self, or_self, iff_self]; done) | (simp [h16]; done) | grind | (simp_all; done)), by kernel_rfl, hp11⟩
    · replace h16 := Classical.not_not.1 h16
      refine WP.pure { wraps := [49] } [.bool false, .slice V.a V.n V.c] [1, 3, 16] [.pointer (some ⟨g3, 0, none⟩), .pointer (some ⟨g9, 0, none⟩), .bool (decide (0 < ((V.n : Nat) : Int)))] (.cons (Ld.row1 (P := Tryd.prog) (t := 4) (o := 4) (v := .bool false) hp11.get0 (by kernel_rfl)) (.cons (Ld.row1 (P := Tryd.prog) (t := 28) (o := 4) (v := .slice V.a V.n V.c) hp11.get1 (by kernel_rfl)) .nil)) (by kernel_rfl) (fun b17 => ?_)
      refine thn_n ?_
      exact ⟨decide (0 < ((V.n : Nat) : Int)), trivial, Bp.of Bp.dec (by first | (simp only [h16, iff_false, false_iff, iff_true, true_iff, Classical.not_not, and_true, true_and, and_false, false_and, or_true, true_or, or_false, false_or, not_true_eq_false, not_false_eq_true, and_self, or_self, iff_self]; done) | (simp [h16]; done) | grind | (simp_all; done)), by kernel_rfl, hp11⟩
  rintro e20 w21 ⟨x18, hd23, hb19, hE24, hp22⟩
  obtain ⟨b25, rfl⟩ := toMk hE24
  clear hE24
  clear hd23
  refine WP.test (p := ((¬ (Ky = ⟨#[]⟩)) ∧ (¬ (Ky = ⟨#[]⟩))) ∨ ((Ky = ⟨#[]⟩) ∧ (0 < ((V.n : Nat) : Int)))) rfl hb19 (fun h26 => ?_) (fun h26 => ?_)
  · refine WP.seq ?_
    refine WP.pure {} [] [2] [.int .i64 1] .nil (by kernel_rfl) (fun b27 => ?_)
    refine thn_n ?_
    refine WP.ret ?_
    refine blk_r ?_
    refine thn_r ?_
    refine bodyQ.of _ rfl [.int .i64 1] ⟨rfl, trivial⟩ ?_
    exact ⟨by simp only [pack]; rw [chk_1 (show (1 : Int) ≤ 14 ∧ (14 : Int) ≤ 16 by decide) (fun q => by rw [okS_14] at q; have h_ := h26; clear hL; first | omega | grind | (simp_all; done) | (simp_all; omega))], hp22.fr⟩
  · refine WP.seq ?_
    refine WP.pure {} [.bool false] [1, 3, 50] [.pointer (some ⟨g3, 0, none⟩), .pointer (some ⟨g9, 0, none⟩), .bool false] (.cons (Ld.row1 (P := Tryd.prog) (t := 4) (o := 5) (v := .bool false) hp22.get0 (by kernel_rfl)) .nil) (by kernel_rfl) (fun b28 => ?_)
    refine thn_n ?_
    refine WP.condF rfl ?_
    refine WP.seq ?_
    refine WP.pure { wraps := [80] } [.bool true] [71] [.bool false] (.cons (Ld.row1 (P := Tryd.prog) (t := 4) (o := 6) (v := .bool true) hp22.get0 (by kernel_rfl)) .nil) (by kernel_rfl) (fun b29 => ?_)
    refine thn_n ?_
    refine WP.condF rfl ?_
    refine WP.skip ?_
    refine blk_n ?_
    refine thn_n ?_
    refine WP.seq ?_
    refine WP.pure {} [] [2] [.int .i64 0] .nil (by kernel_rfl) (fun b30 => ?_)
    refine thn_n ?_
    refine WP.ret ?_
    refine bodyQ.of _ rfl [.int .i64 0] ⟨rfl, trivial⟩ ?_
    exact ⟨by simp only [pack]; rw [chk_0 (by rw [okS_14]; clear hL; first | omega | grind | (simp_all; done) | (simp_all; omega))], hp22.fr⟩

theorem chk_k16 (A B : Int) (Ky : ByteArray) (V L : SlH) (v : ByteArray) (l : List Int) (w : World) (hl : LibS w) (hv : V.n = v.size) (hn : L.n = l.length) (hL : SlR w L.a L.n (l.flatMap i64c)) :
    Calls Tryd.prog 8 #[GStep.val (⟨16, A, B, Ky, V, L⟩ : GStep)] w (fun r_ w' => r_ = .returned (.int .i64 (chkI ⟨16, A, B, Ky, v, l⟩)) ∧ Fram Non w w') := by
  refine calls_of Tryd.func8 rfl 81 rfl (by simp) ?_
  have hp0 := Hp.init w
  have he0 : List.map (env0 [GStep.val (⟨16, A, B, Ky, V, L⟩ : GStep)]) [0] = [GStep.val (⟨16, A, B, Ky, V, L⟩ : GStep)] := by kernel_rfl
  obtain ⟨b0, he0⟩ := toMk he0
  rw [he0]
  clear he0
  refine WP.seq ?_
  refine WP.region _ rfl (by kernel_rfl) ?_
  refine OPS.cons (opStep.box hp0 [.int .i64 16, .int .i64 A, .int .i64 B, .string Ky, .slice V.a V.n V.c, .slice L.a L.n L.c] (by kernel_rfl) (fun g3 w1 hp2 => ?_))
  refine OPS.batch 1 {} [] [1] [.pointer (some ⟨g3, 0, none⟩)] .nil (by kernel_rfl) (fun b4 => ?_)
  refine OPS.nil ?_
  refine thn_n ?_
  refine WP.seq ?_
  refine WP.seq ?_
  refine WP.pure { wraps := [11] } [.int .i64 16, .int .i64 16] [1, 11] [.pointer (some ⟨g3, 0, none⟩), .bool false] (.cons (Ld.row1 (P := Tryd.prog) (t := 3) (o := 0) (v := .int .i64 16) hp2.get0 (by kernel_rfl)) (.cons (Ld.row1 (P := Tryd.prog) (t := 3) (o := 0) (v := .int .i64 16) hp2.get0 (by kernel_rfl)) .nil)) (by kernel_rfl) (fun b5 => ?_)
  refine thn_n ?_
  refine WP.condF rfl ?_
  refine WP.skip ?_
  refine thn_n ?_
  refine WP.seq ?_
  refine WP.region _ rfl (by kernel_rfl) ?_
  refine OPS.batch 4 {} [.int .i64 16, .agg #[.string ⟨#[114, 111, 117, 110, 100]⟩, .bool false, .bool true, .bool false, .bool false, .bool false, .bool true]] [1, 15] [.pointer (some ⟨g3, 0, none⟩), .agg #[.string ⟨#[114, 111, 117, 110, 100]⟩, .bool false, .bool true, .bool false, .bool false, .bool false, .bool true]] (.cons (Ld.row1 (P := Tryd.prog) (t := 3) (o := 0) (v := .int .i64 16) hp2.get0 (by kernel_rfl)) (.cons (show InB (16) (17) from ⟨by omega, by omega⟩) (.cons (show Ld Tryd.prog w1 56 ⟨0, 112, none⟩ (.agg #[.string ⟨#[114, 111, 117, 110, 100]⟩, .bool false, .bool true, .bool false, .bool false, .bool false, .bool true]) from Ld.rowN (cs := [.string ⟨#[114, 111, 117, 110, 100]⟩, .bool false, .bool true, .bool false, .bool false, .bool false, .bool true]) (row_at hl.tab hp2.fr) (by kernel_rfl)) .nil))) (by kernel_rfl) (fun b6 => ?_)
  refine OPS.cons (opStep.alloc hp2 [.string ByteArray.empty, .bool false, .bool false, .bool false, .bool false, .bool false, .bool false] (by kernel_rfl) (fun g9 w7 hp8 => ?_))
  refine OPS.cons (opStep.store0 hp8 rfl [.string ⟨#[114, 111, 117, 110, 100]⟩, .bool false, .bool true, .bool false, .bool false, .bool false, .bool true] [.string ⟨#[114, 111, 117, 110, 100]⟩, .bool false, .bool true, .bool false, .bool false, .bool false, .bool true] (by kernel_rfl) (fun w10 hp11 => ?_))
  refine OPS.nil ?_
  refine thn_n ?_
  refine WP.seq ?_
  refine WP.block ?_
  refine WP.cut (fun e21 w22 => ∃ (x19 : Bool), (True) ∧ Bp x19 (((¬ (A = 0)) ∧ (¬ (A = 0))) ∨ ((A = 0) ∧ (¬ (Ky = ⟨#[]⟩)) ∧ (¬ (Ky = ⟨#[]⟩))) ∨ ((A = 0) ∧ (Ky = ⟨#[]⟩) ∧ (0 < ((V.n : Nat) : Int)))) ∧ List.map e21 [1, 3, 16] = [.pointer (some ⟨g3, 0, none⟩), .pointer (some ⟨g9, 0, none⟩), .bool x19] ∧ Hp w Non [Res.row g9 [.string ⟨#[114, 111, 117, 110, 100]⟩, .bool false, .bool true, .bool false, .bool false, .bool false, .bool true] 56, Res.row g3 [.int .i64 16, .int .i64 A, .int .i64 B, .string Ky, .slice V.a V.n V.c, .slice L.a L.n L.c] 31] w22) ?_ ?_
  · refine WP.seq ?_
    refine WP.pure { wraps := [24] } [.bool false, .int .i64 A] [1, 3, 16] [.pointer (some ⟨g3, 0, none⟩), .pointer (some ⟨g9, 0, none⟩), .bool (decide (¬ (A = 0)))] (.cons (Ld.row1 (P := Tryd.prog) (t := 4) (o := 1) (v := .bool false) hp11.get0 (by kernel_rfl)) (.cons (Ld.row1 (P := Tryd.prog) (t := 3) (o := 1) (v := .int .i64 A) hp11.get1 (by kernel_rfl)) .nil)) (by kernel_rfl) (fun b13 => ?_)
    refine thn_n ?_
    refine WP.test (p := ¬ (A = 0)) rfl Bp.dec (fun h14 => ?_) (fun h14 => ?_)
    · refine WP.skip ?_
      refine thn_n ?_
      exact ⟨decide (¬ (A = 0)), trivial, Bp.of Bp.dec (by first | (simp only [h14, iff_false, false_iff, iff_true, true_iff, Classical.not_not, and_true, true_and, and_false, false_and, or_true, true_or, or_false, false_or, not_true_eq_false, not_false_eq_true, and_self, or_self, iff_self]; done) | (simp [h14]; done) | grind | (simp_all; done)), by kernel_rfl, hp11⟩
    · replace h14 := Classical.not_not.1 h14
      refine WP.seq ?_
      refine WP.pure { wraps := [32] } [.bool true] [1, 3, 16] [.pointer (some ⟨g3, 0, none⟩), .pointer (some ⟨g9, 0, none⟩), .bool false] (.cons (Ld.row1 (P := Tryd.prog) (t := 4) (o := 2) (v := .bool true) hp11.get0 (by kernel_rfl)) .nil) (by kernel_rfl) (fun b15 => ?_)
      refine thn_n ?_
      refine WP.condF rfl ?_
      refine WP.seq ?_
      refine WP.pure { wraps := [40] } [.bool false, .string Ky] [1, 3, 16] [.pointer (some ⟨g3, 0, none⟩), .pointer (some ⟨g9, 0, none⟩), .bool (decide (¬ (Ky = ⟨#[]⟩)))] (.cons (Ld.row1 (P := Tryd.prog) (t := 4) (o := 3) (v := .bool false) hp11.get0 (by kernel_rfl)) (.cons (Ld.row1 (P := Tryd.prog) (t := 9) (o := 3) (v := .string Ky) hp11.get1 (by kernel_rfl)) .nil)) (by kernel_rfl) (fun b16 => ?_)
      refine thn_n ?_
      refine WP.test (p := ¬ (Ky = ⟨#[]⟩)) rfl Bp.dec (fun h17 => ?_) (fun h17 => ?_)
      · refine WP.skip ?_
        refine thn_n ?_
        exact ⟨decide (¬ (Ky = ⟨#[]⟩)), trivial, Bp.of Bp.dec (by first | (simp only [h14, h17, iff_false, false_iff, iff_true, true_iff, Classical.not_not, and_true, true_and, and_false, false_and, or_true, true_or, or_false, false_or, not_true_eq_false, not_false_eq_true, and_self, or_self, iff_self]; done) | (simp [h14, h17]; done) | grind | (simp_all; done)), by kernel_rfl, hp11⟩
      · replace h17 := Classical.not_not.1 h17
        refine WP.pure { wraps := [49] } [.bool false, .slice V.a V.n V.c] [1, 3, 16] [.pointer (some ⟨g3, 0, none⟩), .pointer (some ⟨g9, 0, none⟩), .bool (decide (0 < ((V.n : Nat) : Int)))] (.cons (Ld.row1 (P := Tryd.prog) (t := 4) (o := 4) (v := .bool false) hp11.get0 (by kernel_rfl)) (.cons (Ld.row1 (P := Tryd.prog) (t := 28) (o := 4) (v := .slice V.a V.n V.c) hp11.get1 (by kernel_rfl)) .nil)) (by kernel_rfl) (fun b18 => ?_)
        refine thn_n ?_
        exact ⟨decide (0 < ((V.n : Nat) : Int)), trivial, Bp.of Bp.dec (by first | (simp only [h14, h17, iff_false, false_iff, iff_true, true_iff, Classical.not_not, and_true, true_and, and_false, false_and, or_true, true_or, or_false, false_or, not_true_eq_false, not_false_eq_true, and_self, or_self, iff_self]; done) | (simp [h14, h17]; done) | grind | (simp_all; done)), by kernel_rfl, hp11⟩
  rintro e21 w22 ⟨x19, hd24, hb20, hE25, hp23⟩
  obtain ⟨b26, rfl⟩ := toMk hE25
  clear hE25
  clear hd24
  refine WP.test (p := ((¬ (A = 0)) ∧ (¬ (A = 0))) ∨ ((A = 0) ∧ (¬ (Ky = ⟨#[]⟩)) ∧ (¬ (Ky = ⟨#[]⟩))) ∨ ((A = 0) ∧ (Ky = ⟨#[]⟩) ∧ (0 < ((V.n : Nat) : Int)))) rfl hb20 (fun h27 => ?_) (fun h27 => ?_)
  · refine WP.seq ?_
    refine WP.pure {} [] [2] [.int .i64 1] .nil (by kernel_rfl) (fun b28 => ?_)
    refine thn_n ?_
    refine WP.ret ?_
    refine blk_r ?_
    refine thn_r ?_
    refine bodyQ.of _ rfl [.int .i64 1] ⟨rfl, trivial⟩ ?_
    exact ⟨by simp only [pack]; rw [chk_1 (show (1 : Int) ≤ 16 ∧ (16 : Int) ≤ 16 by decide) (fun q => by rw [okS_16] at q; have h_ := h27; clear hL; first | omega | grind | (simp_all; done) | (simp_all; omega))], hp23.fr⟩
  · refine WP.seq ?_
    refine WP.pure {} [.bool false] [1, 3, 50] [.pointer (some ⟨g3, 0, none⟩), .pointer (some ⟨g9, 0, none⟩), .bool false] (.cons (Ld.row1 (P := Tryd.prog) (t := 4) (o := 5) (v := .bool false) hp23.get0 (by kernel_rfl)) .nil) (by kernel_rfl) (fun b29 => ?_)
    refine thn_n ?_
    refine WP.condF rfl ?_
    refine WP.seq ?_
    refine WP.pure { wraps := [80] } [.bool true] [71] [.bool false] (.cons (Ld.row1 (P := Tryd.prog) (t := 4) (o := 6) (v := .bool true) hp23.get0 (by kernel_rfl)) .nil) (by kernel_rfl) (fun b30 => ?_)
    refine thn_n ?_
    refine WP.condF rfl ?_
    refine WP.skip ?_
    refine blk_n ?_
    refine thn_n ?_
    refine WP.seq ?_
    refine WP.pure {} [] [2] [.int .i64 0] .nil (by kernel_rfl) (fun b31 => ?_)
    refine thn_n ?_
    refine WP.ret ?_
    refine bodyQ.of _ rfl [.int .i64 0] ⟨rfl, trivial⟩ ?_
    exact ⟨by simp only [pack]; rw [chk_0 (by rw [okS_16]; clear hL; first | omega | grind | (simp_all; done) | (simp_all; omega))], hp23.fr⟩

theorem chk_kk (k : Int) (hpa : PA k) (A B : Int) (Ky : ByteArray) (V L : SlH) (v : ByteArray) (l : List Int) (w : World) (hl : LibS w) (hv : V.n = v.size) (hn : L.n = l.length) (hL : SlR w L.a L.n (l.flatMap i64c)) :
    Calls Tryd.prog 8 #[GStep.val (⟨k, A, B, Ky, V, L⟩ : GStep)] w (fun r_ w' => r_ = .returned (.int .i64 (chkI ⟨k, A, B, Ky, v, l⟩)) ∧ Fram Non w w') := by
  have hpr := hpa.rng
  refine calls_of Tryd.func8 rfl 81 rfl (by simp) ?_
  have hp0 := Hp.init w
  have he0 : List.map (env0 [GStep.val (⟨k, A, B, Ky, V, L⟩ : GStep)]) [0] = [GStep.val (⟨k, A, B, Ky, V, L⟩ : GStep)] := by kernel_rfl
  obtain ⟨b0, he0⟩ := toMk he0
  rw [he0]
  clear he0
  refine WP.seq ?_
  refine WP.region _ rfl (by kernel_rfl) ?_
  refine OPS.cons (opStep.box hp0 [.int .i64 k, .int .i64 A, .int .i64 B, .string Ky, .slice V.a V.n V.c, .slice L.a L.n L.c] (by kernel_rfl) (fun g3 w1 hp2 => ?_))
  refine OPS.batch 1 {} [] [1] [.pointer (some ⟨g3, 0, none⟩)] .nil (by kernel_rfl) (fun b4 => ?_)
  refine OPS.nil ?_
  refine thn_n ?_
  refine WP.seq ?_
  refine WP.cut (fun e14 w15 => ∃ (x12 : Bool), (True) ∧ Bp x12 (((k < 1)) ∨ ((¬ (k < 1)) ∧ (16 < k))) ∧ List.map e14 [1, 11] = [.pointer (some ⟨g3, 0, none⟩), .bool x12] ∧ Hp w Non [Res.row g3 [.int .i64 k, .int .i64 A, .int .i64 B, .string Ky, .slice V.a V.n V.c, .slice L.a L.n L.c] 31] w15) ?_ ?_
  · refine WP.region _ rfl (by kernel_rfl) ?_
    refine OPS.batch 4 {} [.int .i64 k] [1, 7] [.pointer (some ⟨g3, 0, none⟩), .bool (decide (k < 1))] (.cons (Ld.row1 (P := Tryd.prog) (t := 3) (o := 0) (v := .int .i64 k) hp2.get0 (by kernel_rfl)) .nil) (by kernel_rfl) (fun b6 => ?_)
    by_cases h7 : k < 1
    · refine OPS.batch 0 {} [] [1, 7] [.pointer (some ⟨g3, 0, none⟩), .bool (decide (k < 1))] .nil (by kernel_rfl) (fun b8 => ?_)
      refine OPS.re [.pointer (some ⟨g3, 0, none⟩), .bool true] (by rw [show (decide (k < 1)) = true from Bp.dec.tt h7]) ?_
      refine OPS.batch 4 { wraps := [11] } [] [1, 11] [.pointer (some ⟨g3, 0, none⟩), .bool true] .nil (by kernel_rfl) (fun b9 => ?_)
      refine OPS.nil ?_
      refine thn_n ?_
      exact ⟨true, trivial, Bp.of Bp.t (by first | (simp only [h7, iff_false, false_iff, iff_true, true_iff, Classical.not_not, and_true, true_and, and_false, false_and, or_true, true_or, or_false, false_or, not_true_eq_false, not_false_eq_true, and_self, or_self, iff_self]; done) | (simp [h7]; done) | grind | (simp_all; done)), by kernel_rfl, hp2⟩
    · refine OPS.batch 0 {} [] [1, 7] [.pointer (some ⟨g3, 0, none⟩), .bool (decide (k < 1))] .nil (by kernel_rfl) (fun b10 => ?_)
      refine OPS.re [.pointer (some ⟨g3, 0, none⟩), .bool false] (by rw [show (decide (k < 1)) = false from Bp.dec.ff h7]) ?_
      refine OPS.batch 4 { wraps := [11] } [.int .i64 k] [1, 11] [.pointer (some ⟨g3, 0, none⟩), .bool (decide (16 < k))] (.cons (Ld.row1 (P := Tryd.prog) (t := 3) (o := 0) (v := .int .i64 k) hp2.get0 (by kernel_rfl)) .nil) (by kernel_rfl) (fun b11 => ?_)
      refine OPS.nil ?_
      refine thn_n ?_
      exact ⟨decide (16 < k), trivial, Bp.of Bp.dec (by first | (simp only [h7, iff_false, false_iff, iff_true, true_iff, Classical.not_not, and_true, true_and, and_false, false_and, or_true, true_or, or_false, false_or, not_true_eq_false, not_false_eq_true, and_self, or_self, iff_self]; done) | (simp [h7]; done) | grind | (simp_all; done)), by kernel_rfl, hp2⟩
  rintro e14 w15 ⟨x12, hd17, hb13, hE18, hp16⟩
  obtain ⟨b19, rfl⟩ := toMk hE18
  clear hE18
  clear hd17
  refine WP.test (p := ((k < 1)) ∨ ((¬ (k < 1)) ∧ (16 < k))) rfl hb13 (fun h20 => ?_) (fun h20 => ?_)
  · refine WP.seq ?_
    refine WP.pure {} [] [2] [.int .i64 32] .nil (by kernel_rfl) (fun b21 => ?_)
    refine thn_n ?_
    refine WP.ret ?_
    refine thn_r ?_
    refine bodyQ.of _ rfl [.int .i64 32] ⟨rfl, trivial⟩ ?_
    exfalso
    have hr_ := hpa.rng
    have h_ := h20
    first | omega | grind
  · refine WP.skip ?_
    refine thn_n ?_
    refine WP.seq ?_
    refine WP.region _ rfl (by kernel_rfl) ?_
    refine OPS.batch 4 {} [.int .i64 k, .agg #[.string (kWord k), .bool true, .bool false, .bool false, .bool false, .bool false, .bool false]] [1, 15] [.pointer (some ⟨g3, 0, none⟩), .agg #[.string (kWord k), .bool true, .bool false, .bool false, .bool false, .bool false, .bool false]] (.cons (Ld.row1 (P := Tryd.prog) (t := 3) (o := 0) (v := .int .i64 k) hp16.get0 (by kernel_rfl)) (.cons (show InB (k) (17) from ⟨by omega, by omega⟩) (.cons (fm_a hpa (hl.fram hp16.fr)) .nil))) (by kernel_rfl) (fun b22 => ?_)
    refine OPS.cons (opStep.alloc hp16 [.string ByteArray.empty, .bool false, .bool false, .bool false, .bool false, .bool false, .bool false] (by kernel_rfl) (fun g25 w23 hp24 => ?_))
    refine OPS.cons (opStep.store0 hp24 rfl [.string (kWord k), .bool true, .bool false, .bool false, .bool false, .bool false, .bool false] [.string (kWord k), .bool true, .bool false, .bool false, .bool false, .bool false, .bool false] (by kernel_rfl) (fun w26 hp27 => ?_))
    refine OPS.nil ?_
    refine thn_n ?_
    refine WP.seq ?_
    refine WP.block ?_
    refine WP.cut (fun e37 w38 => ∃ (x35 : Bool), (True) ∧ Bp x35 (((¬ (B = 0)) ∧ (¬ (B = 0))) ∨ ((B = 0) ∧ (¬ (Ky = ⟨#[]⟩)) ∧ (¬ (Ky = ⟨#[]⟩))) ∨ ((B = 0) ∧ (Ky = ⟨#[]⟩) ∧ (0 < ((V.n : Nat) : Int)))) ∧ List.map e37 [1, 3, 16] = [.pointer (some ⟨g3, 0, none⟩), .pointer (some ⟨g25, 0, none⟩), .bool x35] ∧ Hp w Non [Res.row g25 [.string (kWord k), .bool true, .bool false, .bool false, .bool false, .bool false, .bool false] 56, Res.row g3 [.int .i64 k, .int .i64 A, .int .i64 B, .string Ky, .slice V.a V.n V.c, .slice L.a L.n L.c] 31] w38) ?_ ?_
    · refine WP.seq ?_
      refine WP.pure { wraps := [24] } [.bool true] [1, 3, 16] [.pointer (some ⟨g3, 0, none⟩), .pointer (some ⟨g25, 0, none⟩), .bool false] (.cons (Ld.row1 (P := Tryd.prog) (t := 4) (o := 1) (v := .bool true) hp27.get0 (by kernel_rfl)) .nil) (by kernel_rfl) (fun b29 => ?_)
      refine thn_n ?_
      refine WP.condF rfl ?_
      refine WP.seq ?_
      refine WP.pure { wraps := [32] } [.bool false, .int .i64 B] [1, 3, 16] [.pointer (some ⟨g3, 0, none⟩), .pointer (some ⟨g25, 0, none⟩), .bool (decide (¬ (B = 0)))] (.cons (Ld.row1 (P := Tryd.prog) (t := 4) (o := 2) (v := .bool false) hp27.get0 (by kernel_rfl)) (.cons (Ld.row1 (P := Tryd.prog) (t := 3) (o := 2) (v := .int .i64 B) hp27.get1 (by kernel_rfl)) .nil)) (by kernel_rfl) (fun b30 => ?_)
      refine thn_n ?_
      refine WP.test (p := ¬ (B = 0)) rfl Bp.dec (fun h31 => ?_) (fun h31 => ?_)
      · refine WP.skip ?_
        refine thn_n ?_
        exact ⟨decide (¬ (B = 0)), trivial, Bp.of Bp.dec (by first | (simp only [h31, iff_false, false_iff, iff_true, true_iff, Classical.not_not, and_true, true_and, and_false, false_and, or_true, true_or, or_false, false_or, not_true_eq_false, not_false_eq_true, and_self, or_self, iff_self]; done) | (simp [h31]; done) | grind | (simp_all; done)), by kernel_rfl, hp27⟩
      · replace h31 := Classical.not_not.1 h31
        refine WP.seq ?_
        refine WP.pure { wraps := [40] } [.bool false, .string Ky] [1, 3, 16] [.pointer (some ⟨g3, 0, none⟩), .pointer (some ⟨g25, 0, none⟩), .bool (decide (¬ (Ky = ⟨#[]⟩)))] (.cons (Ld.row1 (P := Tryd.prog) (t := 4) (o := 3) (v := .bool false) hp27.get0 (by kernel_rfl)) (.cons (Ld.row1 (P := Tryd.prog) (t := 9) (o := 3) (v := .string Ky) hp27.get1 (by kernel_rfl)) .nil)) (by kernel_rfl) (fun b32 => ?_)
        refine thn_n ?_
        refine WP.test (p := ¬ (Ky = ⟨#[]⟩)) rfl Bp.dec (fun h33 => ?_) (fun h33 => ?_)
        · refine WP.skip ?_
          refine thn_n ?_
          exact ⟨decide (¬ (Ky = ⟨#[]⟩)), trivial, Bp.of Bp.dec (by first | (simp only [h31, h33, iff_false, false_iff, iff_true, true_iff, Classical.not_not, and_true, true_and, and_false, false_and, or_true, true_or, or_false, false_or, not_true_eq_false, not_false_eq_true, and_self, or_self, iff_self]; done) | (simp [h31, h33]; done) | grind | (simp_all; done)), by kernel_rfl, hp27⟩
        · replace h33 := Classical.not_not.1 h33
          refine WP.pure { wraps := [49] } [.bool false, .slice V.a V.n V.c] [1, 3, 16] [.pointer (some ⟨g3, 0, none⟩), .pointer (some ⟨g25, 0, none⟩), .bool (decide (0 < ((V.n : Nat) : Int)))] (.cons (Ld.row1 (P := Tryd.prog) (t := 4) (o := 4) (v := .bool false) hp27.get0 (by kernel_rfl)) (.cons (Ld.row1 (P := Tryd.prog) (t := 28) (o := 4) (v := .slice V.a V.n V.c) hp27.get1 (by kernel_rfl)) .nil)) (by kernel_rfl) (fun b34 => ?_)
          refine thn_n ?_
          exact ⟨decide (0 < ((V.n : Nat) : Int)), trivial, Bp.of Bp.dec (by first | (simp only [h31, h33, iff_false, false_iff, iff_true, true_iff, Classical.not_not, and_true, true_and, and_false, false_and, or_true, true_or, or_false, false_or, not_true_eq_false, not_false_eq_true, and_self, or_self, iff_self]; done) | (simp [h31, h33]; done) | grind | (simp_all; done)), by kernel_rfl, hp27⟩
    rintro e37 w38 ⟨x35, hd40, hb36, hE41, hp39⟩
    obtain ⟨b42, rfl⟩ := toMk hE41
    clear hE41
    clear hd40
    refine WP.test (p := ((¬ (B = 0)) ∧ (¬ (B = 0))) ∨ ((B = 0) ∧ (¬ (Ky = ⟨#[]⟩)) ∧ (¬ (Ky = ⟨#[]⟩))) ∨ ((B = 0) ∧ (Ky = ⟨#[]⟩) ∧ (0 < ((V.n : Nat) : Int)))) rfl hb36 (fun h43 => ?_) (fun h43 => ?_)
    · refine WP.seq ?_
      refine WP.pure {} [] [2] [.int .i64 1] .nil (by kernel_rfl) (fun b44 => ?_)
      refine thn_n ?_
      refine WP.ret ?_
      refine blk_r ?_
      refine thn_r ?_
      refine bodyQ.of _ rfl [.int .i64 1] ⟨rfl, trivial⟩ ?_
      exact ⟨by simp only [pack]; rw [chk_1 hpa.rng (fun q => by rw [okS_k hpa] at q; have h_ := h43; clear hL; first | omega | grind | (simp_all; done) | (simp_all; omega))], hp39.fr⟩
    · refine WP.seq ?_
      refine WP.pure {} [.bool false] [1, 3, 50] [.pointer (some ⟨g3, 0, none⟩), .pointer (some ⟨g25, 0, none⟩), .bool false] (.cons (Ld.row1 (P := Tryd.prog) (t := 4) (o := 5) (v := .bool false) hp39.get0 (by kernel_rfl)) .nil) (by kernel_rfl) (fun b45 => ?_)
      refine thn_n ?_
      refine WP.condF rfl ?_
      refine WP.seq ?_
      refine WP.pure { wraps := [80] } [.bool false, .slice L.a L.n L.c] [71] [.bool (decide (0 < ((L.n : Nat) : Int)))] (.cons (Ld.row1 (P := Tryd.prog) (t := 4) (o := 6) (v := .bool false) hp39.get0 (by kernel_rfl)) (.cons (Ld.row1 (P := Tryd.prog) (t := 29) (o := 5) (v := .slice L.a L.n L.c) hp39.get1 (by kernel_rfl)) .nil)) (by kernel_rfl) (fun b46 => ?_)
      refine thn_n ?_
      refine WP.test (p := 0 < ((L.n : Nat) : Int)) rfl Bp.dec (fun h47 => ?_) (fun h47 => ?_)
      · refine WP.seq ?_
        refine WP.pure {} [] [2] [.int .i64 1] .nil (by kernel_rfl) (fun b48 => ?_)
        refine thn_n ?_
        refine WP.ret ?_
        refine blk_r ?_
        refine thn_r ?_
        refine bodyQ.of _ rfl [.int .i64 1] ⟨rfl, trivial⟩ ?_
        exact ⟨by simp only [pack]; rw [chk_1 hpa.rng (fun q => by rw [okS_k hpa] at q; have h_ := h47; clear hL; first | omega | grind | (simp_all; done) | (simp_all; omega))], hp39.fr⟩
      · refine WP.skip ?_
        refine blk_n ?_
        refine thn_n ?_
        refine WP.seq ?_
        refine WP.pure {} [] [2] [.int .i64 0] .nil (by kernel_rfl) (fun b49 => ?_)
        refine thn_n ?_
        refine WP.ret ?_
        refine bodyQ.of _ rfl [.int .i64 0] ⟨rfl, trivial⟩ ?_
        exact ⟨by simp only [pack]; rw [chk_0 (by rw [okS_k hpa]; clear hL; first | omega | grind | (simp_all; done) | (simp_all; omega))], hp39.fr⟩

theorem chk_kno (K : Int) (hk : ¬ (1 ≤ K ∧ K ≤ 16)) (A B : Int) (Ky : ByteArray) (V L : SlH) (v : ByteArray) (l : List Int) (w : World) (hl : LibS w) (hv : V.n = v.size) (hn : L.n = l.length) (hL : SlR w L.a L.n (l.flatMap i64c)) :
    Calls Tryd.prog 8 #[GStep.val (⟨K, A, B, Ky, V, L⟩ : GStep)] w (fun r_ w' => r_ = .returned (.int .i64 (chkI ⟨K, A, B, Ky, v, l⟩)) ∧ Fram Non w w') := by
  refine calls_of Tryd.func8 rfl 81 rfl (by simp) ?_
  have hp0 := Hp.init w
  have he0 : List.map (env0 [GStep.val (⟨K, A, B, Ky, V, L⟩ : GStep)]) [0] = [GStep.val (⟨K, A, B, Ky, V, L⟩ : GStep)] := by kernel_rfl
  obtain ⟨b0, he0⟩ := toMk he0
  rw [he0]
  clear he0
  refine WP.seq ?_
  refine WP.region _ rfl (by kernel_rfl) ?_
  refine OPS.cons (opStep.box hp0 [.int .i64 K, .int .i64 A, .int .i64 B, .string Ky, .slice V.a V.n V.c, .slice L.a L.n L.c] (by kernel_rfl) (fun g3 w1 hp2 => ?_))
  refine OPS.batch 1 {} [] [1] [.pointer (some ⟨g3, 0, none⟩)] .nil (by kernel_rfl) (fun b4 => ?_)
  refine OPS.nil ?_
  refine thn_n ?_
  refine WP.seq ?_
  refine WP.cut (fun e14 w15 => ∃ (x12 : Bool), (True) ∧ Bp x12 (((K < 1)) ∨ ((¬ (K < 1)) ∧ (16 < K))) ∧ List.map e14 [1, 11] = [.pointer (some ⟨g3, 0, none⟩), .bool x12] ∧ Hp w Non [Res.row g3 [.int .i64 K, .int .i64 A, .int .i64 B, .string Ky, .slice V.a V.n V.c, .slice L.a L.n L.c] 31] w15) ?_ ?_
  · refine WP.region _ rfl (by kernel_rfl) ?_
    refine OPS.batch 4 {} [.int .i64 K] [1, 7] [.pointer (some ⟨g3, 0, none⟩), .bool (decide (K < 1))] (.cons (Ld.row1 (P := Tryd.prog) (t := 3) (o := 0) (v := .int .i64 K) hp2.get0 (by kernel_rfl)) .nil) (by kernel_rfl) (fun b6 => ?_)
    by_cases h7 : K < 1
    · refine OPS.batch 0 {} [] [1, 7] [.pointer (some ⟨g3, 0, none⟩), .bool (decide (K < 1))] .nil (by kernel_rfl) (fun b8 => ?_)
      refine OPS.re [.pointer (some ⟨g3, 0, none⟩), .bool true] (by rw [show (decide (K < 1)) = true from Bp.dec.tt h7]) ?_
      refine OPS.batch 4 { wraps := [11] } [] [1, 11] [.pointer (some ⟨g3, 0, none⟩), .bool true] .nil (by kernel_rfl) (fun b9 => ?_)
      refine OPS.nil ?_
      refine thn_n ?_
      exact ⟨true, trivial, Bp.of Bp.t (by first | (simp only [h7, iff_false, false_iff, iff_true, true_iff, Classical.not_not, and_true, true_and, and_false, false_and, or_true, true_or, or_false, false_or, not_true_eq_false, not_false_eq_true, and_self, or_self, iff_self]; done) | (simp [h7]; done) | grind | (simp_all; done)), by kernel_rfl, hp2⟩
    · refine OPS.batch 0 {} [] [1, 7] [.pointer (some ⟨g3, 0, none⟩), .bool (decide (K < 1))] .nil (by kernel_rfl) (fun b10 => ?_)
      refine OPS.re [.pointer (some ⟨g3, 0, none⟩), .bool false] (by rw [show (decide (K < 1)) = false from Bp.dec.ff h7]) ?_
      refine OPS.batch 4 { wraps := [11] } [.int .i64 K] [1, 11] [.pointer (some ⟨g3, 0, none⟩), .bool (decide (16 < K))] (.cons (Ld.row1 (P := Tryd.prog) (t := 3) (o := 0) (v := .int .i64 K) hp2.get0 (by kernel_rfl)) .nil) (by kernel_rfl) (fun b11 => ?_)
      refine OPS.nil ?_
      refine thn_n ?_
      exact ⟨decide (16 < K), trivial, Bp.of Bp.dec (by first | (simp only [h7, iff_false, false_iff, iff_true, true_iff, Classical.not_not, and_true, true_and, and_false, false_and, or_true, true_or, or_false, false_or, not_true_eq_false, not_false_eq_true, and_self, or_self, iff_self]; done) | (simp [h7]; done) | grind | (simp_all; done)), by kernel_rfl, hp2⟩
  rintro e14 w15 ⟨x12, hd17, hb13, hE18, hp16⟩
  obtain ⟨b19, rfl⟩ := toMk hE18
  clear hE18
  clear hd17
  refine WP.test (p := ((K < 1)) ∨ ((¬ (K < 1)) ∧ (16 < K))) rfl hb13 (fun h20 => ?_) (fun h20 => ?_)
  · refine WP.seq ?_
    refine WP.pure {} [] [2] [.int .i64 32] .nil (by kernel_rfl) (fun b21 => ?_)
    refine thn_n ?_
    refine WP.ret ?_
    refine thn_r ?_
    refine bodyQ.of _ rfl [.int .i64 32] ⟨rfl, trivial⟩ ?_
    exact ⟨by simp only [pack]; rw [chk_32 hk], hp16.fr⟩
  · refine WP.skip ?_
    refine thn_n ?_
    refine WP.seq ?_
    exfalso
    first | omega | grind

theorem sc_Check (s : GStep) (x : StepP) (w : World) (hl : LibS w) (hx : StR w Tr s x) : Calls Tryd.prog 8 #[GStep.val s] w (fun r_ w' => r_ = .returned (.int .i64 (chkI x)) ∧ Fram Non w w') := by
  obtain ⟨K, A, B, Ky, V, L⟩ := s
  obtain ⟨K', A', B', Ky', v, l⟩ := x
  obtain ⟨h1, h2, h3, h4, _, hv, _, _, h9, h10⟩ := hx
  simp only at h1 h2 h3 h4 hv
  subst h1 h2 h3 h4
  by_cases hk : 1 ≤ K ∧ K ≤ 16
  · rcases kcases hk with rfl | rfl | rfl | rfl | rfl | rfl | rfl | rfl | rfl | rfl | rfl | rfl | rfl | rfl | rfl | rfl
    · exact chk_k1 A B Ky V L v l w hl hv h9 h10
    · exact chk_k2 A B Ky V L v l w hl hv h9 h10
    · exact chk_kk 3 (by unfold PA; decide) A B Ky V L v l w hl hv h9 h10
    · exact chk_kk 4 (by unfold PA; decide) A B Ky V L v l w hl hv h9 h10
    · exact chk_kk 5 (by unfold PA; decide) A B Ky V L v l w hl hv h9 h10
    · exact chk_kk 6 (by unfold PA; decide) A B Ky V L v l w hl hv h9 h10
    · exact chk_kk 7 (by unfold PA; decide) A B Ky V L v l w hl hv h9 h10
    · exact chk_kk 8 (by unfold PA; decide) A B Ky V L v l w hl hv h9 h10
    · exact chk_k9 A B Ky V L v l w hl hv h9 h10
    · exact chk_k10 A B Ky V L v l w hl hv h9 h10
    · exact chk_kk 11 (by unfold PA; decide) A B Ky V L v l w hl hv h9 h10
    · exact chk_k12 A B Ky V L v l w hl hv h9 h10
    · exact chk_kk 13 (by unfold PA; decide) A B Ky V L v l w hl hv h9 h10
    · exact chk_k14 A B Ky V L v l w hl hv h9 h10
    · exact chk_kk 15 (by unfold PA; decide) A B Ky V L v l w hl hv h9 h10
    · exact chk_k16 A B Ky V L v l w hl hv h9 h10
  · exact chk_kno K hk A B Ky V L v l w hl hv h9 h10
end Go.Proofs.YtbpedjefoajegaaDoor.K
