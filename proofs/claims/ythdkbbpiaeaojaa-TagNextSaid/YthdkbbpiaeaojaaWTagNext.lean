/- The walks of WTagNext: what each function computes. -/
import Derived.Test.YthdkbbpiaeaojaaProg
import Derived.Test.YthdkbbpiaeaojaaCoreO
import Derived.Test.YthdkbbpiaeaojaaTagN
import Derived.Test.YthdkbbpiaeaojaaOpen
namespace Go.Proofs.Ythdkbbpiaeaojaa.K
open Go Go.Proofs Go.RowKit
set_option linter.unusedVariables false
set_option linter.unusedSimpArgs false
set_option maxRecDepth 20000
set_option maxHeartbeats 4000000

structure Gsherdlaw08_Case where
  L : SlH
  A : GTag
  B : GTag
  Used : Int
  Client : Int
  Other : Int
  S : ByteArray
def Gsherdlaw08_Case.cells (x : Gsherdlaw08_Case) : List Go.Value := [x.L.v, .int .i64 x.A.Count, .int .i64 x.A.Client, .int .i64 x.B.Count, .int .i64 x.B.Client, .int .i64 x.Used, .int .i64 x.Client, .int .i64 x.Other, .string x.S]
def Gsherdlaw08_Case.val (x : Gsherdlaw08_Case) : Go.Value := .agg x.cells.toArray
theorem Gsherdlaw08_Case.len (x : Gsherdlaw08_Case) : x.cells.length = 9 := rfl
theorem next_first {y : GTag} {e : Int} (h : nextR ⟨0, 0⟩ 0 7 y e) : e = 0 ∧ y.Count = 1 ∧ y.Client = 7 := by
  have hn : nextN ⟨0, 0⟩ 0 7 = 1 := by decide
  rcases h with h | h | h
  · exact absurd (Or.inl ⟨rfl, rfl⟩) h.2.1
  · omega
  · rw [hn] at h; omega
theorem next_bad {t y : GTag} {u c e : Int} (h : nextR t u c y e) (he : ¬ e = 0) : y.Count = 0 ∧ y.Client = 0 := by
  unfold nextR at h
  omega
theorem next_ok {t y : GTag} {u c e : Int} (h : nextR t u c y e) (he : e = 0) : tagValid t ∧ 0 ≤ u ∧ u ≤ 4611686018427387903 ∧ 1 ≤ c ∧ c ≤ 65535 ∧ y.Count = nextN t u c ∧ y.Count ≤ 4611686018427387903 ∧ y.Client = c := by
  subst he
  rcases h with h | h | ⟨h1, h2, h3, h4, h5, h | h⟩
  · omega
  · omega
  · exact ⟨h1, h2, h3, h4, h5, h.2.2.1, by omega, h.2.2.2⟩
  · omega
theorem next_right {t y : GTag} {u c e : Int} (h : nextR t u c y e) (he : e = 0) : tagProper y ∧ y.Client = c ∧ tagCmp y t = 1 ∧ u < y.Count := by
  obtain ⟨h1, h2, h3, h4, h5, h6, h7, h8⟩ := next_ok h he
  clear h he
  have hn := nextN_cases t u c
  have hc := tagCmp_cases y t
  refine ⟨?_, h8, ?_, ?_⟩
  · simp only [tagProper]; omega
  · omega
  · omega
theorem next_least {t y : GTag} {u c e : Int} (h : nextR t u c y e) (he : e = 0) (k : tagCmp ⟨y.Count - 1, c⟩ t = 1) (l : u < y.Count - 1) : False := by
  obtain ⟨h1, h2, h3, h4, h5, h6, h7, h8⟩ := next_ok h he
  clear h he
  have hn := nextN_cases t u c
  have hc := tagCmp_cases ⟨y.Count - 1, c⟩ t
  dsimp only at hc
  omega
theorem next_again {t y z : GTag} {u c e f : Int} (h : nextR t u c y e) (he : e = 0) (k : nextR t y.Count c z f) : (y.Count = 4611686018427387903 → f = 42) ∧ (¬ y.Count = 4611686018427387903 → f = 0 ∧ z.Count = y.Count + 1 ∧ tagCmp z y = 1) := by
  obtain ⟨h1, h2, h3, h4, h5, h6, h7, h8⟩ := next_ok h he
  obtain ⟨g1, g2, g3, g4⟩ := next_right h he
  have hc := tagCmp_cases y t
  have hn := nextN_cases t y.Count c
  have hm : nextN t y.Count c = y.Count + 1 := by omega
  have hd := tagCmp_cases z y
  rcases k with k | k | ⟨k1, k2, k3, k4, k5, k⟩
  · exact absurd h1 k.2.1
  · omega
  · rw [hm] at k
    clear hn hc h6
    constructor <;> intro hy <;> omega

theorem TagNext (c : Gsherdlaw08_Case) (w : World) :
    Calls Try.prog 3 #[Gsherdlaw08_Case.val c] w (fun x w' => x = .returned (.bool true) ∧ Fram Non w w') := by
  refine calls_of Try.func3 rfl 144 rfl (by simp) ?_
  have hp0 := Hp.init w
  have he0 : List.map (env0 [Gsherdlaw08_Case.val c]) [0] = [Gsherdlaw08_Case.val c] := by kernel_rfl
  obtain ⟨b0, he0⟩ := toMk he0
  rw [he0]
  clear he0
  refine WP.seq ?_
  refine WP.region _ rfl (by kernel_rfl) ?_
  refine OPS.cons (opStep.box hp0 [.slice c.L.a c.L.n c.L.c, .int .i64 c.A.Count, .int .i64 c.A.Client, .int .i64 c.B.Count, .int .i64 c.B.Client, .int .i64 c.Used, .int .i64 c.Client, .int .i64 c.Other, .string c.S] (by kernel_rfl) (fun g3 w1 hp2 => ?_))
  refine OPS.batch 1 {} [] [1] [.pointer (some ⟨g3, 0, none⟩)] .nil (by kernel_rfl) (fun b4 => ?_)
  refine OPS.nil ?_
  refine thn_n ?_
  refine WP.seq ?_
  have hp5 := hp2.drew
  refine WP.held (fun w6 => Ld Try.prog w6 24 ⟨g3, 1, none⟩ (.agg #[.int .i64 c.A.Count, .int .i64 c.A.Client]) ∧ Ld Try.prog w6 2 ⟨g3, 5, none⟩ (.int .i64 c.Used) ∧ Ld Try.prog w6 3 ⟨g3, 6, none⟩ (.int .i64 c.Client) ∧ Ld Try.prog w6 3 ⟨g3, 7, none⟩ (.int .i64 c.Other) ∧ True) [] [(0, true), (1, true), (2, true), (3, true), (4, true), (5, true), (6, true), (7, true), (8, false), (9, false), (10, true), (11, true), (12, true)] (np_thn np_body) (by kernel_rfl) ?_
  refine HOPS.take 8 {} [.agg #[.int .i64 c.A.Count, .int .i64 c.A.Client], .int .i64 c.Used, .int .i64 c.Client, .int .i64 c.Other] [16, 18, 20, 22] [.agg #[.int .i64 c.A.Count, .int .i64 c.A.Client], .int .i64 c.Used, .int .i64 c.Client, .int .i64 c.Other] (by kernel_rfl) ⟨(show Ld Try.prog w1.drew 24 ⟨g3, 1, none⟩ (.agg #[.int .i64 c.A.Count, .int .i64 c.A.Client]) from (show Ld Try.prog w1.drew 24 ⟨g3, 1, none⟩ (.agg #[.int .i64 c.A.Count, .int .i64 c.A.Client]) from Ld.rowN (cs := [.int .i64 c.A.Count, .int .i64 c.A.Client]) hp5.get0 (by kernel_rfl))), (show Ld Try.prog w1.drew 2 ⟨g3, 5, none⟩ (.int .i64 c.Used) from (Ld.row1 (P := Try.prog) (t := 2) (o := 5) (v := .int .i64 c.Used) hp5.get0 (by kernel_rfl))), (show Ld Try.prog w1.drew 3 ⟨g3, 6, none⟩ (.int .i64 c.Client) from (Ld.row1 (P := Try.prog) (t := 3) (o := 6) (v := .int .i64 c.Client) hp5.get0 (by kernel_rfl))), (show Ld Try.prog w1.drew 3 ⟨g3, 7, none⟩ (.int .i64 c.Other) from (Ld.row1 (P := Try.prog) (t := 3) (o := 7) (v := .int .i64 c.Other) hp5.get0 (by kernel_rfl))), trivial⟩ (fun w7 hS8 => QB.mk (.cons (hS8.1) (.cons (hS8.2.1) (.cons (hS8.2.2.1) (.cons (hS8.2.2.2.1) .nil)))) (by kernel_rfl)) (fun b9 => ?_)
  refine HOPS.eff _ rfl (opStep.alloc hp5 [.int .i64 0, .int .i64 0] (by kernel_rfl) (fun g12 w10 hp11 => ?_))
  refine ⟨.inr ⟨(show Ld Try.prog w10 24 ⟨g3, 1, none⟩ (.agg #[.int .i64 c.A.Count, .int .i64 c.A.Client]) from (show Ld Try.prog w10 24 ⟨g3, 1, none⟩ (.agg #[.int .i64 c.A.Count, .int .i64 c.A.Client]) from Ld.rowN (cs := [.int .i64 c.A.Count, .int .i64 c.A.Client]) hp11.get1 (by kernel_rfl))), (show Ld Try.prog w10 2 ⟨g3, 5, none⟩ (.int .i64 c.Used) from (Ld.row1 (P := Try.prog) (t := 2) (o := 5) (v := .int .i64 c.Used) hp11.get1 (by kernel_rfl))), (show Ld Try.prog w10 3 ⟨g3, 6, none⟩ (.int .i64 c.Client) from (Ld.row1 (P := Try.prog) (t := 3) (o := 6) (v := .int .i64 c.Client) hp11.get1 (by kernel_rfl))), (show Ld Try.prog w10 3 ⟨g3, 7, none⟩ (.int .i64 c.Other) from (Ld.row1 (P := Try.prog) (t := 3) (o := 7) (v := .int .i64 c.Other) hp11.get1 (by kernel_rfl))), trivial⟩, ?_⟩
  refine HOPS.eff _ rfl (opStep.store0 hp11 rfl [.int .i64 c.A.Count, .int .i64 c.A.Client] [.int .i64 c.A.Count, .int .i64 c.A.Client] (by kernel_rfl) (fun w13 hp14 => ?_))
  refine ⟨.inr ⟨(show Ld Try.prog w13 24 ⟨g3, 1, none⟩ (.agg #[.int .i64 c.A.Count, .int .i64 c.A.Client]) from (show Ld Try.prog w13 24 ⟨g3, 1, none⟩ (.agg #[.int .i64 c.A.Count, .int .i64 c.A.Client]) from Ld.rowN (cs := [.int .i64 c.A.Count, .int .i64 c.A.Client]) hp14.get1 (by kernel_rfl))), (show Ld Try.prog w13 2 ⟨g3, 5, none⟩ (.int .i64 c.Used) from (Ld.row1 (P := Try.prog) (t := 2) (o := 5) (v := .int .i64 c.Used) hp14.get1 (by kernel_rfl))), (show Ld Try.prog w13 3 ⟨g3, 6, none⟩ (.int .i64 c.Client) from (Ld.row1 (P := Try.prog) (t := 3) (o := 6) (v := .int .i64 c.Client) hp14.get1 (by kernel_rfl))), (show Ld Try.prog w13 3 ⟨g3, 7, none⟩ (.int .i64 c.Other) from (Ld.row1 (P := Try.prog) (t := 3) (o := 7) (v := .int .i64 c.Other) hp14.get1 (by kernel_rfl))), trivial⟩, ?_⟩
  refine HOPS.take 3 {} [] [3, 4, 5, 6] [.pointer (some ⟨g12, 0, none⟩), .int .i64 c.Used, .int .i64 c.Client, .int .i64 c.Other] (by kernel_rfl) ⟨(show Ld Try.prog w13 24 ⟨g3, 1, none⟩ (.agg #[.int .i64 c.A.Count, .int .i64 c.A.Client]) from (show Ld Try.prog w13 24 ⟨g3, 1, none⟩ (.agg #[.int .i64 c.A.Count, .int .i64 c.A.Client]) from Ld.rowN (cs := [.int .i64 c.A.Count, .int .i64 c.A.Client]) hp14.get1 (by kernel_rfl))), (show Ld Try.prog w13 2 ⟨g3, 5, none⟩ (.int .i64 c.Used) from (Ld.row1 (P := Try.prog) (t := 2) (o := 5) (v := .int .i64 c.Used) hp14.get1 (by kernel_rfl))), (show Ld Try.prog w13 3 ⟨g3, 6, none⟩ (.int .i64 c.Client) from (Ld.row1 (P := Try.prog) (t := 3) (o := 6) (v := .int .i64 c.Client) hp14.get1 (by kernel_rfl))), (show Ld Try.prog w13 3 ⟨g3, 7, none⟩ (.int .i64 c.Other) from (Ld.row1 (P := Try.prog) (t := 3) (o := 7) (v := .int .i64 c.Other) hp14.get1 (by kernel_rfl))), trivial⟩ (fun w15 hS16 => QB.mk .nil (by kernel_rfl)) (fun b17 => ?_)
  refine HOPS.nil ?_
  refine thn_n ?_
  refine WP.seq ?_
  refine WP.region _ rfl (by kernel_rfl) ?_
  refine OPS.batch 1 {} [] [3, 4, 5, 6, 24] [.pointer (some ⟨g12, 0, none⟩), .int .i64 c.Used, .int .i64 c.Client, .int .i64 c.Other, .agg #[.int .i64 0, .int .i64 0]] .nil (by kernel_rfl) (fun b18 => ?_)
  refine OPS.cons (opStep.call (some 25) [.agg #[.int .i64 0, .int .i64 0], .int .i64 0, .int .i64 7] (by kernel_rfl) (tag_Next (⟨0, 0⟩ : GTag) 0 7 _) ?_)
  rintro _ w21 ⟨y24, e25, rfl, hx26, hf22⟩
  refine ⟨_, rfl, ?_⟩
  have hp23 := hp14.step hf22
  refine OPS.batch 3 {} [] [3, 4, 5, 6, 26, 27] [.pointer (some ⟨g12, 0, none⟩), .int .i64 c.Used, .int .i64 c.Client, .int .i64 c.Other, GTag.val y24, .int .i64 e25] .nil (by kernel_rfl) (fun b27 => ?_)
  refine OPS.cons (opStep.alloc hp23 [.int .i64 0, .int .i64 0] (by kernel_rfl) (fun g30 w28 hp29 => ?_))
  refine OPS.cons (opStep.store0 hp29 rfl [.int .i64 y24.Count, .int .i64 y24.Client] [.int .i64 y24.Count, .int .i64 y24.Client] (by kernel_rfl) (fun w31 hp32 => ?_))
  refine OPS.batch 1 {} [] [3, 4, 5, 6, 7, 8] [.pointer (some ⟨g12, 0, none⟩), .int .i64 c.Used, .int .i64 c.Client, .int .i64 c.Other, .pointer (some ⟨g30, 0, none⟩), .int .i64 e25] .nil (by kernel_rfl) (fun b33 => ?_)
  refine OPS.nil ?_
  refine thn_n ?_
  refine WP.seq ?_
  refine WP.cut (fun e41 w42 => ∃ (x39 : Bool), (True) ∧ Bp x39 (((¬ (e25 = 0))) ∨ ((e25 = 0) ∧ (¬ ((y24.Count = 1) ∧ (y24.Client = 7))))) ∧ List.map e41 [3, 4, 5, 6, 34] = [.pointer (some ⟨g12, 0, none⟩), .int .i64 c.Used, .int .i64 c.Client, .int .i64 c.Other, .bool x39] ∧ Hp w Non [Res.row g30 [.int .i64 y24.Count, .int .i64 y24.Client] 24, Res.row g12 [.int .i64 c.A.Count, .int .i64 c.A.Client] 24, Res.row g3 [.slice c.L.a c.L.n c.L.c, .int .i64 c.A.Count, .int .i64 c.A.Client, .int .i64 c.B.Count, .int .i64 c.B.Client, .int .i64 c.Used, .int .i64 c.Client, .int .i64 c.Other, .string c.S] 26] w42) ?_ ?_
  · refine WP.region _ rfl (by kernel_rfl) ?_
    refine OPS.batch 3 {} [] [3, 4, 5, 6, 7, 30] [.pointer (some ⟨g12, 0, none⟩), .int .i64 c.Used, .int .i64 c.Client, .int .i64 c.Other, .pointer (some ⟨g30, 0, none⟩), .bool (decide (¬ (e25 = 0)))] .nil (by kernel_rfl) (fun b35 => ?_)
    by_cases h36 : e25 = 0
    · rw [show (decide (¬ (e25 = 0))) = false from Bp.dec.ff (fun k => k h36)]
      refine OPS.batch 4 { wraps := [34] } [GTag.val y24] [3, 4, 5, 6, 34] [.pointer (some ⟨g12, 0, none⟩), .int .i64 c.Used, .int .i64 c.Client, .int .i64 c.Other, .bool (!((decide (y24.Count = 1)) && ((decide (y24.Client = 7)) && true)))] (.cons (show Ld Try.prog w31 24 ⟨g30, 0, none⟩ (GTag.val y24) from Ld.rowN (cs := [.int .i64 y24.Count, .int .i64 y24.Client]) hp32.get0 (by kernel_rfl)) .nil) (by kernel_rfl) (fun b38 => ?_)
      refine OPS.nil ?_
      refine thn_n ?_
      exact ⟨!((decide (y24.Count = 1)) && ((decide (y24.Client = 7)) && true)), trivial, Bp.of (Bp.not (Bp.band Bp.dec (Bp.band1 Bp.dec))) (by simp [h36]), by kernel_rfl, hp32⟩
    · rw [show (decide (¬ (e25 = 0))) = true from Bp.dec.tt h36]
      refine OPS.batch 4 { wraps := [34] } [] [3, 4, 5, 6, 34] [.pointer (some ⟨g12, 0, none⟩), .int .i64 c.Used, .int .i64 c.Client, .int .i64 c.Other, .bool true] .nil (by kernel_rfl) (fun b37 => ?_)
      refine OPS.nil ?_
      refine thn_n ?_
      exact ⟨true, trivial, Bp.of Bp.t (by simp [h36]), by kernel_rfl, hp32⟩
  rintro e41 w42 ⟨x39, hd44, hb40, hE45, hp43⟩
  obtain ⟨b46, rfl⟩ := toMk hE45
  clear hE45
  clear hd44
  refine WP.test (p := ((¬ (e25 = 0))) ∨ ((e25 = 0) ∧ (¬ ((y24.Count = 1) ∧ (y24.Client = 7))))) rfl hb40 (fun h47 => ?_) (fun h47 => ?_)
  · refine WP.seq ?_
    refine WP.pure {} [] [2] [.bool false] .nil (by kernel_rfl) (fun b48 => ?_)
    refine thn_n ?_
    refine WP.ret ?_
    refine thn_r ?_
    refine bodyQ.of _ rfl [.bool false] ⟨rfl, trivial⟩ ?_
    exfalso
    (have k := next_first ‹nextR (⟨0, 0⟩ : GTag) 0 7 _ _›; omega)
  · refine WP.skip ?_
    refine thn_n ?_
    refine WP.seq ?_
    refine WP.region _ rfl (by kernel_rfl) ?_
    refine OPS.batch 3 {} [.agg #[.int .i64 c.A.Count, .int .i64 c.A.Client]] [3, 4, 5, 6, 36, 37, 38] [.pointer (some ⟨g12, 0, none⟩), .int .i64 c.Used, .int .i64 c.Client, .int .i64 c.Other, .agg #[.int .i64 c.A.Count, .int .i64 c.A.Client], .int .i64 c.Used, .int .i64 c.Client] (.cons (show Ld Try.prog w42 24 ⟨g12, 0, none⟩ (.agg #[.int .i64 c.A.Count, .int .i64 c.A.Client]) from Ld.rowN (cs := [.int .i64 c.A.Count, .int .i64 c.A.Client]) hp43.get1 (by kernel_rfl)) .nil) (by kernel_rfl) (fun b49 => ?_)
    refine OPS.cons (opStep.call (some 39) [.agg #[.int .i64 c.A.Count, .int .i64 c.A.Client], .int .i64 c.Used, .int .i64 c.Client] (by kernel_rfl) (tag_Next c.A c.Used c.Client _) ?_)
    rintro _ w52 ⟨y55, e56, rfl, hx57, hf53⟩
    refine ⟨_, rfl, ?_⟩
    have hp54 := hp43.step hf53
    refine OPS.batch 3 {} [] [3, 4, 5, 6, 40, 41] [.pointer (some ⟨g12, 0, none⟩), .int .i64 c.Used, .int .i64 c.Client, .int .i64 c.Other, GTag.val y55, .int .i64 e56] .nil (by kernel_rfl) (fun b58 => ?_)
    refine OPS.cons (opStep.alloc hp54 [.int .i64 0, .int .i64 0] (by kernel_rfl) (fun g61 w59 hp60 => ?_))
    refine OPS.cons (opStep.store0 hp60 rfl [.int .i64 y55.Count, .int .i64 y55.Client] [.int .i64 y55.Count, .int .i64 y55.Client] (by kernel_rfl) (fun w62 hp63 => ?_))
    refine OPS.batch 1 {} [] [3, 4, 5, 6, 8, 9] [.pointer (some ⟨g12, 0, none⟩), .int .i64 c.Used, .int .i64 c.Client, .int .i64 c.Other, .int .i64 e56, .pointer (some ⟨g61, 0, none⟩)] .nil (by kernel_rfl) (fun b64 => ?_)
    refine OPS.nil ?_
    refine thn_n ?_
    refine WP.seq ?_
    refine WP.seq ?_
    refine WP.pure {} [] [3, 4, 5, 6, 9, 43] [.pointer (some ⟨g12, 0, none⟩), .int .i64 c.Used, .int .i64 c.Client, .int .i64 c.Other, .pointer (some ⟨g61, 0, none⟩), .bool (decide (¬ (e56 = 0)))] .nil (by kernel_rfl) (fun b65 => ?_)
    refine thn_n ?_
    refine WP.test (p := ¬ (e56 = 0)) rfl Bp.dec (fun h66 => ?_) (fun h66 => ?_)
    · refine WP.seq ?_
      refine WP.pure {} [GTag.val y55] [2] [.bool ((decide (y55.Count = 0)) && ((decide (y55.Client = 0)) && true))] (.cons (show Ld Try.prog w62 24 ⟨g61, 0, none⟩ (GTag.val y55) from Ld.rowN (cs := [.int .i64 y55.Count, .int .i64 y55.Client]) hp63.get0 (by kernel_rfl)) .nil) (by kernel_rfl) (fun b67 => ?_)
      refine thn_n ?_
      refine WP.ret ?_
      refine thn_r ?_
      refine bodyQ.of _ rfl [.bool ((decide (y55.Count = 0)) && ((decide (y55.Client = 0)) && true))] ⟨rfl, trivial⟩ ?_
      exact ⟨congrArg (fun b => Ending.returned (.bool b)) (Bp.tt (Bp.band Bp.dec (Bp.band1 Bp.dec)) (by (exact next_bad ‹nextR c.A c.Used c.Client _ _› (by assumption)))), hp63.fr⟩
    · replace h66 := Classical.not_not.1 h66
      refine WP.skip ?_
      refine thn_n ?_
      refine WP.seq ?_
      refine WP.cut (fun e106 w107 => ∃ (x104 : Bool), (True) ∧ Bp x104 (((¬ (tagValid y55))) ∨ ((tagValid y55) ∧ (tagZero y55)) ∨ ((tagValid y55) ∧ (¬ (tagZero y55)) ∧ (¬ (y55.Client = c.Client))) ∨ ((tagValid y55) ∧ (¬ (tagZero y55)) ∧ (y55.Client = c.Client) ∧ (¬ ((tagCmp y55 c.A) = 1))) ∨ ((tagValid y55) ∧ (¬ (tagZero y55)) ∧ (y55.Client = c.Client) ∧ ((tagCmp y55 c.A) = 1) ∧ (y55.Count ≤ c.Used))) ∧ List.map e106 [3, 4, 5, 6, 9, 71] = [.pointer (some ⟨g12, 0, none⟩), .int .i64 c.Used, .int .i64 c.Client, .int .i64 c.Other, .pointer (some ⟨g61, 0, none⟩), .bool x104] ∧ Hp w Non [Res.row g61 [.int .i64 y55.Count, .int .i64 y55.Client] 24, Res.row g30 [.int .i64 y24.Count, .int .i64 y24.Client] 24, Res.row g12 [.int .i64 c.A.Count, .int .i64 c.A.Client] 24, Res.row g3 [.slice c.L.a c.L.n c.L.c, .int .i64 c.A.Count, .int .i64 c.A.Client, .int .i64 c.B.Count, .int .i64 c.B.Client, .int .i64 c.Used, .int .i64 c.Client, .int .i64 c.Other, .string c.S] 26] w107) ?_ ?_
      · refine WP.region _ rfl (by kernel_rfl) ?_
        refine OPS.batch 1 {} [GTag.val y55] [3, 4, 5, 6, 9, 47] [.pointer (some ⟨g12, 0, none⟩), .int .i64 c.Used, .int .i64 c.Client, .int .i64 c.Other, .pointer (some ⟨g61, 0, none⟩), GTag.val y55] (.cons (show Ld Try.prog w62 24 ⟨g61, 0, none⟩ (GTag.val y55) from Ld.rowN (cs := [.int .i64 y55.Count, .int .i64 y55.Client]) hp63.get0 (by kernel_rfl)) .nil) (by kernel_rfl) (fun b69 => ?_)
        refine OPS.cons (opStep.call (some 48) [GTag.val y55] (by kernel_rfl) (tag_Valid y55 _) ?_)
        rintro _ w72 ⟨b75, rfl, hb76, hf73⟩
        refine ⟨_, rfl, ?_⟩
        have hp74 := hp63.step hf73
        refine OPS.batch 2 {} [] [3, 4, 5, 6, 9, 50] [.pointer (some ⟨g12, 0, none⟩), .int .i64 c.Used, .int .i64 c.Client, .int .i64 c.Other, .pointer (some ⟨g61, 0, none⟩), .bool (!b75)] .nil (by kernel_rfl) (fun b77 => ?_)
        by_cases h78 : tagValid y55
        · rw [show (!b75) = false from (Bp.not hb76).ff (fun k => k h78)]
          refine OPS.batch 1 {} [GTag.val y55] [3, 4, 5, 6, 9, 50, 51] [.pointer (some ⟨g12, 0, none⟩), .int .i64 c.Used, .int .i64 c.Client, .int .i64 c.Other, .pointer (some ⟨g61, 0, none⟩), .bool false, GTag.val y55] (.cons (show Ld Try.prog w72 24 ⟨g61, 0, none⟩ (GTag.val y55) from Ld.rowN (cs := [.int .i64 y55.Count, .int .i64 y55.Client]) hp74.get0 (by kernel_rfl)) .nil) (by kernel_rfl) (fun b80 => ?_)
          refine OPS.want (by kernel_rfl) ?_
          refine OPS.cons (opStep.call (some 52) [GTag.val y55] (by kernel_rfl) (tag_Zero y55 _) ?_)
          rintro _ w83 ⟨b86, rfl, hb87, hf84⟩
          refine ⟨_, rfl, ?_⟩
          have hp85 := hp74.step hf84
          refine OPS.batch 2 { wraps := [53] } [] [3, 4, 5, 6, 9, 54] [.pointer (some ⟨g12, 0, none⟩), .int .i64 c.Used, .int .i64 c.Client, .int .i64 c.Other, .pointer (some ⟨g61, 0, none⟩), .bool b86] .nil (by kernel_rfl) (fun b88 => ?_)
          by_cases h89 : tagZero y55
          · rw [show b86 = true from hb87.tt h89]
            refine OPS.batch 17 { wraps := [59, 65, 71] } [] [3, 4, 5, 6, 9, 71] [.pointer (some ⟨g12, 0, none⟩), .int .i64 c.Used, .int .i64 c.Client, .int .i64 c.Other, .pointer (some ⟨g61, 0, none⟩), .bool true] .nil (by kernel_rfl) (fun b90 => ?_)
            refine OPS.nil ?_
            refine thn_n ?_
            exact ⟨true, trivial, Bp.of Bp.t (by simp [h78, h89]), by kernel_rfl, hp85⟩
          · rw [show b86 = false from hb87.ff h89]
            refine OPS.batch 6 { wraps := [59] } [.int .i64 y55.Client] [3, 4, 5, 6, 9, 60] [.pointer (some ⟨g12, 0, none⟩), .int .i64 c.Used, .int .i64 c.Client, .int .i64 c.Other, .pointer (some ⟨g61, 0, none⟩), .bool (decide (¬ (y55.Client = c.Client)))] (.cons (Ld.row1 (P := Try.prog) (t := 3) (o := 1) (v := .int .i64 y55.Client) hp85.get0 (by kernel_rfl)) .nil) (by kernel_rfl) (fun b91 => ?_)
            by_cases h92 : y55.Client = c.Client
            · rw [show (decide (¬ (y55.Client = c.Client))) = false from Bp.dec.ff (fun k => k h92)]
              refine OPS.batch 2 {} [GTag.val y55, .agg #[.int .i64 c.A.Count, .int .i64 c.A.Client]] [3, 4, 5, 6, 9, 60, 61, 62] [.pointer (some ⟨g12, 0, none⟩), .int .i64 c.Used, .int .i64 c.Client, .int .i64 c.Other, .pointer (some ⟨g61, 0, none⟩), .bool false, GTag.val y55, .agg #[.int .i64 c.A.Count, .int .i64 c.A.Client]] (.cons (show Ld Try.prog w83 24 ⟨g61, 0, none⟩ (GTag.val y55) from Ld.rowN (cs := [.int .i64 y55.Count, .int .i64 y55.Client]) hp85.get0 (by kernel_rfl)) (.cons (show Ld Try.prog w83 24 ⟨g12, 0, none⟩ (.agg #[.int .i64 c.A.Count, .int .i64 c.A.Client]) from Ld.rowN (cs := [.int .i64 c.A.Count, .int .i64 c.A.Client]) hp85.get2 (by kernel_rfl)) .nil)) (by kernel_rfl) (fun b94 => ?_)
              refine OPS.want (by kernel_rfl) ?_
              refine OPS.cons (opStep.call (some 63) [GTag.val y55, .agg #[.int .i64 c.A.Count, .int .i64 c.A.Client]] (by kernel_rfl) (tag_Compare y55 c.A _) ?_)
              rintro _ w97 ⟨rfl, hf98⟩
              refine ⟨_, rfl, ?_⟩
              have hp99 := hp85.step hf98
              refine OPS.batch 3 { wraps := [65] } [] [3, 4, 5, 6, 9, 66] [.pointer (some ⟨g12, 0, none⟩), .int .i64 c.Used, .int .i64 c.Client, .int .i64 c.Other, .pointer (some ⟨g61, 0, none⟩), .bool (decide (¬ ((tagCmp y55 c.A) = 1)))] .nil (by kernel_rfl) (fun b100 => ?_)
              by_cases h101 : (tagCmp y55 c.A) = 1
              · rw [show (decide (¬ ((tagCmp y55 c.A) = 1))) = false from Bp.dec.ff (fun k => k h101)]
                refine OPS.batch 5 { wraps := [71] } [.int .i64 y55.Count] [3, 4, 5, 6, 9, 71] [.pointer (some ⟨g12, 0, none⟩), .int .i64 c.Used, .int .i64 c.Client, .int .i64 c.Other, .pointer (some ⟨g61, 0, none⟩), .bool (decide (y55.Count ≤ c.Used))] (.cons (Ld.row1 (P := Try.prog) (t := 2) (o := 0) (v := .int .i64 y55.Count) hp99.get0 (by kernel_rfl)) .nil) (by kernel_rfl) (fun b103 => ?_)
                refine OPS.nil ?_
                refine thn_n ?_
                exact ⟨decide (y55.Count ≤ c.Used), trivial, Bp.of Bp.dec (by simp [h78, h89, h92, h101]), by kernel_rfl, hp99⟩
              · rw [show (decide (¬ ((tagCmp y55 c.A) = 1))) = true from Bp.dec.tt h101]
                refine OPS.batch 5 { wraps := [71] } [] [3, 4, 5, 6, 9, 71] [.pointer (some ⟨g12, 0, none⟩), .int .i64 c.Used, .int .i64 c.Client, .int .i64 c.Other, .pointer (some ⟨g61, 0, none⟩), .bool true] .nil (by kernel_rfl) (fun b102 => ?_)
                refine OPS.nil ?_
                refine thn_n ?_
                exact ⟨true, trivial, Bp.of Bp.t (by simp [h78, h89, h92, h101]), by kernel_rfl, hp99⟩
            · rw [show (decide (¬ (y55.Client = c.Client))) = true from Bp.dec.tt h92]
              refine OPS.batch 11 { wraps := [65, 71] } [] [3, 4, 5, 6, 9, 71] [.pointer (some ⟨g12, 0, none⟩), .int .i64 c.Used, .int .i64 c.Client, .int .i64 c.Other, .pointer (some ⟨g61, 0, none⟩), .bool true] .nil (by kernel_rfl) (fun b93 => ?_)
              refine OPS.nil ?_
              refine thn_n ?_
              exact ⟨true, trivial, Bp.of Bp.t (by simp [h78, h89, h92]), by kernel_rfl, hp85⟩
        · rw [show (!b75) = true from (Bp.not hb76).tt h78]
          refine OPS.batch 21 { wraps := [53, 59, 65, 71] } [] [3, 4, 5, 6, 9, 71] [.pointer (some ⟨g12, 0, none⟩), .int .i64 c.Used, .int .i64 c.Client, .int .i64 c.Other, .pointer (some ⟨g61, 0, none⟩), .bool true] .nil (by kernel_rfl) (fun b79 => ?_)
          refine OPS.nil ?_
          refine thn_n ?_
          exact ⟨true, trivial, Bp.of Bp.t (by simp [h78]), by kernel_rfl, hp74⟩
      rintro e106 w107 ⟨x104, hd109, hb105, hE110, hp108⟩
      obtain ⟨b111, rfl⟩ := toMk hE110
      clear hE110
      clear hd109
      refine WP.test (p := ((¬ (tagValid y55))) ∨ ((tagValid y55) ∧ (tagZero y55)) ∨ ((tagValid y55) ∧ (¬ (tagZero y55)) ∧ (¬ (y55.Client = c.Client))) ∨ ((tagValid y55) ∧ (¬ (tagZero y55)) ∧ (y55.Client = c.Client) ∧ (¬ ((tagCmp y55 c.A) = 1))) ∨ ((tagValid y55) ∧ (¬ (tagZero y55)) ∧ (y55.Client = c.Client) ∧ ((tagCmp y55 c.A) = 1) ∧ (y55.Count ≤ c.Used))) rfl hb105 (fun h112 => ?_) (fun h112 => ?_)
      · refine WP.seq ?_
        refine WP.pure {} [] [2] [.bool false] .nil (by kernel_rfl) (fun b113 => ?_)
        refine thn_n ?_
        refine WP.ret ?_
        refine thn_r ?_
        refine bodyQ.of _ rfl [.bool false] ⟨rfl, trivial⟩ ?_
        exfalso
        (obtain ⟨k1, k2, k3, k4⟩ := next_right ‹nextR c.A c.Used c.Client _ _› (by assumption); simp only [tagValid, tagZero, tagProper] at *; omega)
      · refine WP.skip ?_
        refine thn_n ?_
        refine WP.seq ?_
        refine WP.region _ rfl (by kernel_rfl) ?_
        refine OPS.batch 5 {} [.int .i64 y55.Count] [3, 4, 5, 6, 9, 76] [.pointer (some ⟨g12, 0, none⟩), .int .i64 c.Used, .int .i64 c.Client, .int .i64 c.Other, .pointer (some ⟨g61, 0, none⟩), .agg #[.int .i64 (y55.Count - 1), .int .i64 c.Client]] (.cons (Ld.row1 (P := Try.prog) (t := 2) (o := 0) (v := .int .i64 y55.Count) hp108.get0 (by kernel_rfl)) (.cons (show Rng .i64 (y55.Count - 1) from Rng.i64 (by (simp only [nextR, tagValid, tagProper, tagZero, iff_false, false_iff, iff_true, true_iff, Classical.not_not, and_true, true_and, and_false, false_and, or_true, true_or, or_false, false_or, not_true_eq_false, not_false_eq_true, and_self, or_self] at *; omega))) .nil)) (by kernel_rfl) (fun b114 => ?_)
        refine OPS.cons (opStep.alloc hp108 [.int .i64 0, .int .i64 0] (by kernel_rfl) (fun g117 w115 hp116 => ?_))
        refine OPS.cons (opStep.store0 hp116 rfl [.int .i64 (y55.Count - 1), .int .i64 c.Client] [.int .i64 (y55.Count - 1), .int .i64 c.Client] (by kernel_rfl) (fun w118 hp119 => ?_))
        refine OPS.nil ?_
        refine thn_n ?_
        refine WP.seq ?_
        refine WP.cut (fun e155 w156 => ∃ (x153 : Bool), (True) ∧ Bp x153 ((tagValid (⟨y55.Count - 1, c.Client⟩ : GTag)) ∧ (¬ (tagZero (⟨y55.Count - 1, c.Client⟩ : GTag))) ∧ ((tagCmp (⟨y55.Count - 1, c.Client⟩ : GTag) c.A) = 1) ∧ (c.Used < (y55.Count - 1))) ∧ List.map e155 [3, 4, 5, 6, 9, 95] = [.pointer (some ⟨g12, 0, none⟩), .int .i64 c.Used, .int .i64 c.Client, .int .i64 c.Other, .pointer (some ⟨g61, 0, none⟩), .bool x153] ∧ Hp w Non [Res.row g117 [.int .i64 (y55.Count - 1), .int .i64 c.Client] 24, Res.row g61 [.int .i64 y55.Count, .int .i64 y55.Client] 24, Res.row g30 [.int .i64 y24.Count, .int .i64 y24.Client] 24, Res.row g12 [.int .i64 c.A.Count, .int .i64 c.A.Client] 24, Res.row g3 [.slice c.L.a c.L.n c.L.c, .int .i64 c.A.Count, .int .i64 c.A.Client, .int .i64 c.B.Count, .int .i64 c.B.Client, .int .i64 c.Used, .int .i64 c.Client, .int .i64 c.Other, .string c.S] 26] w156) ?_ ?_
        · refine WP.region _ rfl (by kernel_rfl) ?_
          refine OPS.batch 1 {} [.agg #[.int .i64 (y55.Count - 1), .int .i64 c.Client]] [3, 4, 5, 6, 9, 10, 77] [.pointer (some ⟨g12, 0, none⟩), .int .i64 c.Used, .int .i64 c.Client, .int .i64 c.Other, .pointer (some ⟨g61, 0, none⟩), .pointer (some ⟨g117, 0, none⟩), .agg #[.int .i64 (y55.Count - 1), .int .i64 c.Client]] (.cons (show Ld Try.prog w118 24 ⟨g117, 0, none⟩ (.agg #[.int .i64 (y55.Count - 1), .int .i64 c.Client]) from Ld.rowN (cs := [.int .i64 (y55.Count - 1), .int .i64 c.Client]) hp119.get0 (by kernel_rfl)) .nil) (by kernel_rfl) (fun b121 => ?_)
          refine OPS.cons (opStep.call (some 78) [.agg #[.int .i64 (y55.Count - 1), .int .i64 c.Client]] (by kernel_rfl) (tag_Valid (⟨y55.Count - 1, c.Client⟩ : GTag) _) ?_)
          rintro _ w124 ⟨b127, rfl, hb128, hf125⟩
          refine ⟨_, rfl, ?_⟩
          have hp126 := hp119.step hf125
          refine OPS.batch 1 {} [] [3, 4, 5, 6, 9, 10, 79] [.pointer (some ⟨g12, 0, none⟩), .int .i64 c.Used, .int .i64 c.Client, .int .i64 c.Other, .pointer (some ⟨g61, 0, none⟩), .pointer (some ⟨g117, 0, none⟩), .bool b127] .nil (by kernel_rfl) (fun b129 => ?_)
          by_cases h130 : tagValid (⟨y55.Count - 1, c.Client⟩ : GTag)
          · rw [show b127 = true from hb128.tt h130]
            refine OPS.batch 1 {} [.agg #[.int .i64 (y55.Count - 1), .int .i64 c.Client]] [3, 4, 5, 6, 9, 10, 79, 80] [.pointer (some ⟨g12, 0, none⟩), .int .i64 c.Used, .int .i64 c.Client, .int .i64 c.Other, .pointer (some ⟨g61, 0, none⟩), .pointer (some ⟨g117, 0, none⟩), .bool true, .agg #[.int .i64 (y55.Count - 1), .int .i64 c.Client]] (.cons (show Ld Try.prog w124 24 ⟨g117, 0, none⟩ (.agg #[.int .i64 (y55.Count - 1), .int .i64 c.Client]) from Ld.rowN (cs := [.int .i64 (y55.Count - 1), .int .i64 c.Client]) hp126.get0 (by kernel_rfl)) .nil) (by kernel_rfl) (fun b131 => ?_)
            refine OPS.want (by kernel_rfl) ?_
            refine OPS.cons (opStep.call (some 81) [.agg #[.int .i64 (y55.Count - 1), .int .i64 c.Client]] (by kernel_rfl) (tag_Zero (⟨y55.Count - 1, c.Client⟩ : GTag) _) ?_)
            rintro _ w134 ⟨b137, rfl, hb138, hf135⟩
            refine ⟨_, rfl, ?_⟩
            have hp136 := hp126.step hf135
            refine OPS.batch 3 { wraps := [83] } [] [3, 4, 5, 6, 9, 10, 84] [.pointer (some ⟨g12, 0, none⟩), .int .i64 c.Used, .int .i64 c.Client, .int .i64 c.Other, .pointer (some ⟨g61, 0, none⟩), .pointer (some ⟨g117, 0, none⟩), .bool (!b137)] .nil (by kernel_rfl) (fun b139 => ?_)
            by_cases h140 : tagZero (⟨y55.Count - 1, c.Client⟩ : GTag)
            · rw [show (!b137) = false from (Bp.not hb138).ff (fun k => k h140)]
              refine OPS.batch 11 { wraps := [89, 95] } [] [3, 4, 5, 6, 9, 95] [.pointer (some ⟨g12, 0, none⟩), .int .i64 c.Used, .int .i64 c.Client, .int .i64 c.Other, .pointer (some ⟨g61, 0, none⟩), .bool false] .nil (by kernel_rfl) (fun b151 => ?_)
              refine OPS.nil ?_
              refine thn_n ?_
              exact ⟨false, trivial, Bp.of Bp.f (by simp [h130, h140]), by kernel_rfl, hp136⟩
            · rw [show (!b137) = true from (Bp.not hb138).tt h140]
              refine OPS.batch 2 {} [.agg #[.int .i64 (y55.Count - 1), .int .i64 c.Client], .agg #[.int .i64 c.A.Count, .int .i64 c.A.Client]] [3, 4, 5, 6, 9, 10, 84, 85, 86] [.pointer (some ⟨g12, 0, none⟩), .int .i64 c.Used, .int .i64 c.Client, .int .i64 c.Other, .pointer (some ⟨g61, 0, none⟩), .pointer (some ⟨g117, 0, none⟩), .bool true, .agg #[.int .i64 (y55.Count - 1), .int .i64 c.Client], .agg #[.int .i64 c.A.Count, .int .i64 c.A.Client]] (.cons (show Ld Try.prog w134 24 ⟨g117, 0, none⟩ (.agg #[.int .i64 (y55.Count - 1), .int .i64 c.Client]) from Ld.rowN (cs := [.int .i64 (y55.Count - 1), .int .i64 c.Client]) hp136.get0 (by kernel_rfl)) (.cons (show Ld Try.prog w134 24 ⟨g12, 0, none⟩ (.agg #[.int .i64 c.A.Count, .int .i64 c.A.Client]) from Ld.rowN (cs := [.int .i64 c.A.Count, .int .i64 c.A.Client]) hp136.get3 (by kernel_rfl)) .nil)) (by kernel_rfl) (fun b141 => ?_)
              refine OPS.want (by kernel_rfl) ?_
              refine OPS.cons (opStep.call (some 87) [.agg #[.int .i64 (y55.Count - 1), .int .i64 c.Client], .agg #[.int .i64 c.A.Count, .int .i64 c.A.Client]] (by kernel_rfl) (tag_Compare (⟨y55.Count - 1, c.Client⟩ : GTag) c.A _) ?_)
              rintro _ w144 ⟨rfl, hf145⟩
              refine ⟨_, rfl, ?_⟩
              have hp146 := hp136.step hf145
              refine OPS.batch 3 { wraps := [89] } [] [3, 4, 5, 6, 9, 10, 90] [.pointer (some ⟨g12, 0, none⟩), .int .i64 c.Used, .int .i64 c.Client, .int .i64 c.Other, .pointer (some ⟨g61, 0, none⟩), .pointer (some ⟨g117, 0, none⟩), .bool (decide ((tagCmp (⟨y55.Count - 1, c.Client⟩ : GTag) c.A) = 1))] .nil (by kernel_rfl) (fun b147 => ?_)
              by_cases h148 : (tagCmp (⟨y55.Count - 1, c.Client⟩ : GTag) c.A) = 1
              · rw [show (decide ((tagCmp (⟨y55.Count - 1, c.Client⟩ : GTag) c.A) = 1)) = true from Bp.dec.tt h148]
                refine OPS.batch 5 { wraps := [95] } [.int .i64 (y55.Count - 1)] [3, 4, 5, 6, 9, 95] [.pointer (some ⟨g12, 0, none⟩), .int .i64 c.Used, .int .i64 c.Client, .int .i64 c.Other, .pointer (some ⟨g61, 0, none⟩), .bool (decide (c.Used < (y55.Count - 1)))] (.cons (Ld.row1 (P := Try.prog) (t := 2) (o := 0) (v := .int .i64 (y55.Count - 1)) hp146.get0 (by kernel_rfl)) .nil) (by kernel_rfl) (fun b149 => ?_)
                refine OPS.nil ?_
                refine thn_n ?_
                exact ⟨decide (c.Used < (y55.Count - 1)), trivial, Bp.of Bp.dec (by simp [h130, h140, h148]), by kernel_rfl, hp146⟩
              · rw [show (decide ((tagCmp (⟨y55.Count - 1, c.Client⟩ : GTag) c.A) = 1)) = false from Bp.dec.ff h148]
                refine OPS.batch 5 { wraps := [95] } [] [3, 4, 5, 6, 9, 95] [.pointer (some ⟨g12, 0, none⟩), .int .i64 c.Used, .int .i64 c.Client, .int .i64 c.Other, .pointer (some ⟨g61, 0, none⟩), .bool false] .nil (by kernel_rfl) (fun b150 => ?_)
                refine OPS.nil ?_
                refine thn_n ?_
                exact ⟨false, trivial, Bp.of Bp.f (by simp [h130, h140, h148]), by kernel_rfl, hp146⟩
          · rw [show b127 = false from hb128.ff h130]
            refine OPS.batch 16 { wraps := [83, 89, 95] } [] [3, 4, 5, 6, 9, 95] [.pointer (some ⟨g12, 0, none⟩), .int .i64 c.Used, .int .i64 c.Client, .int .i64 c.Other, .pointer (some ⟨g61, 0, none⟩), .bool false] .nil (by kernel_rfl) (fun b152 => ?_)
            refine OPS.nil ?_
            refine thn_n ?_
            exact ⟨false, trivial, Bp.of Bp.f (by simp [h130]), by kernel_rfl, hp126⟩
        rintro e155 w156 ⟨x153, hd158, hb154, hE159, hp157⟩
        obtain ⟨b160, rfl⟩ := toMk hE159
        clear hE159
        clear hd158
        refine WP.test (p := (tagValid (⟨y55.Count - 1, c.Client⟩ : GTag)) ∧ (¬ (tagZero (⟨y55.Count - 1, c.Client⟩ : GTag))) ∧ ((tagCmp (⟨y55.Count - 1, c.Client⟩ : GTag) c.A) = 1) ∧ (c.Used < (y55.Count - 1))) rfl hb154 (fun h161 => ?_) (fun h161 => ?_)
        · refine WP.seq ?_
          refine WP.pure {} [] [2] [.bool false] .nil (by kernel_rfl) (fun b162 => ?_)
          refine thn_n ?_
          refine WP.ret ?_
          refine thn_r ?_
          refine bodyQ.of _ rfl [.bool false] ⟨rfl, trivial⟩ ?_
          exfalso
          (exact next_least ‹nextR c.A c.Used c.Client _ _› (by assumption) h161.2.2.1 h161.2.2.2)
        · refine WP.skip ?_
          refine thn_n ?_
          refine WP.seq ?_
          refine WP.region _ rfl (by kernel_rfl) ?_
          refine OPS.batch 3 {} [.agg #[.int .i64 c.A.Count, .int .i64 c.A.Client]] [3, 5, 6, 9, 97, 98, 99] [.pointer (some ⟨g12, 0, none⟩), .int .i64 c.Client, .int .i64 c.Other, .pointer (some ⟨g61, 0, none⟩), .agg #[.int .i64 c.A.Count, .int .i64 c.A.Client], .int .i64 c.Used, .int .i64 c.Other] (.cons (show Ld Try.prog w156 24 ⟨g12, 0, none⟩ (.agg #[.int .i64 c.A.Count, .int .i64 c.A.Client]) from Ld.rowN (cs := [.int .i64 c.A.Count, .int .i64 c.A.Client]) hp157.get3 (by kernel_rfl)) .nil) (by kernel_rfl) (fun b163 => ?_)
          refine OPS.cons (opStep.call (some 100) [.agg #[.int .i64 c.A.Count, .int .i64 c.A.Client], .int .i64 c.Used, .int .i64 c.Other] (by kernel_rfl) (tag_Next c.A c.Used c.Other _) ?_)
          rintro _ w166 ⟨y169, e170, rfl, hx171, hf167⟩
          refine ⟨_, rfl, ?_⟩
          have hp168 := hp157.step hf167
          refine OPS.batch 3 {} [] [3, 5, 6, 9, 101, 102] [.pointer (some ⟨g12, 0, none⟩), .int .i64 c.Client, .int .i64 c.Other, .pointer (some ⟨g61, 0, none⟩), GTag.val y169, .int .i64 e170] .nil (by kernel_rfl) (fun b172 => ?_)
          refine OPS.cons (opStep.alloc hp168 [.int .i64 0, .int .i64 0] (by kernel_rfl) (fun g175 w173 hp174 => ?_))
          refine OPS.cons (opStep.store0 hp174 rfl [.int .i64 y169.Count, .int .i64 y169.Client] [.int .i64 y169.Count, .int .i64 y169.Client] (by kernel_rfl) (fun w176 hp177 => ?_))
          refine OPS.batch 1 {} [] [3, 5, 6, 9, 11, 12] [.pointer (some ⟨g12, 0, none⟩), .int .i64 c.Client, .int .i64 c.Other, .pointer (some ⟨g61, 0, none⟩), .pointer (some ⟨g175, 0, none⟩), .int .i64 e170] .nil (by kernel_rfl) (fun b178 => ?_)
          refine OPS.nil ?_
          refine thn_n ?_
          refine WP.seq ?_
          refine WP.cut (fun e189 w190 => ∃ (x187 : Bool), (True) ∧ Bp x187 ((e170 = 0) ∧ (¬ (c.Other = c.Client)) ∧ ((y169.Count = y55.Count) ∧ (y169.Client = y55.Client))) ∧ List.map e189 [3, 5, 9, 114] = [.pointer (some ⟨g12, 0, none⟩), .int .i64 c.Client, .pointer (some ⟨g61, 0, none⟩), .bool x187] ∧ Hp w Non [Res.row g175 [.int .i64 y169.Count, .int .i64 y169.Client] 24, Res.row g117 [.int .i64 (y55.Count - 1), .int .i64 c.Client] 24, Res.row g61 [.int .i64 y55.Count, .int .i64 y55.Client] 24, Res.row g30 [.int .i64 y24.Count, .int .i64 y24.Client] 24, Res.row g12 [.int .i64 c.A.Count, .int .i64 c.A.Client] 24, Res.row g3 [.slice c.L.a c.L.n c.L.c, .int .i64 c.A.Count, .int .i64 c.A.Client, .int .i64 c.B.Count, .int .i64 c.B.Client, .int .i64 c.Used, .int .i64 c.Client, .int .i64 c.Other, .string c.S] 26] w190) ?_ ?_
          · refine WP.region _ rfl (by kernel_rfl) ?_
            refine OPS.batch 3 {} [] [3, 5, 6, 9, 11, 105] [.pointer (some ⟨g12, 0, none⟩), .int .i64 c.Client, .int .i64 c.Other, .pointer (some ⟨g61, 0, none⟩), .pointer (some ⟨g175, 0, none⟩), .bool (decide (e170 = 0))] .nil (by kernel_rfl) (fun b180 => ?_)
            by_cases h181 : e170 = 0
            · rw [show (decide (e170 = 0)) = true from Bp.dec.tt h181]
              refine OPS.batch 5 { wraps := [109] } [] [3, 5, 9, 11, 110] [.pointer (some ⟨g12, 0, none⟩), .int .i64 c.Client, .pointer (some ⟨g61, 0, none⟩), .pointer (some ⟨g175, 0, none⟩), .bool (decide (¬ (c.Other = c.Client)))] .nil (by kernel_rfl) (fun b182 => ?_)
              by_cases h183 : c.Other = c.Client
              · rw [show (decide (¬ (c.Other = c.Client))) = false from Bp.dec.ff (fun k => k h183)]
                refine OPS.batch 4 { wraps := [114] } [] [3, 5, 9, 114] [.pointer (some ⟨g12, 0, none⟩), .int .i64 c.Client, .pointer (some ⟨g61, 0, none⟩), .bool false] .nil (by kernel_rfl) (fun b185 => ?_)
                refine OPS.nil ?_
                refine thn_n ?_
                exact ⟨false, trivial, Bp.of Bp.f (by simp [h181, h183]), by kernel_rfl, hp177⟩
              · rw [show (decide (¬ (c.Other = c.Client))) = true from Bp.dec.tt h183]
                refine OPS.batch 4 { wraps := [114] } [GTag.val y169, GTag.val y55] [3, 5, 9, 114] [.pointer (some ⟨g12, 0, none⟩), .int .i64 c.Client, .pointer (some ⟨g61, 0, none⟩), .bool ((decide (y169.Count = y55.Count)) && ((decide (y169.Client = y55.Client)) && true))] (.cons (show Ld Try.prog w176 24 ⟨g175, 0, none⟩ (GTag.val y169) from Ld.rowN (cs := [.int .i64 y169.Count, .int .i64 y169.Client]) hp177.get0 (by kernel_rfl)) (.cons (show Ld Try.prog w176 24 ⟨g61, 0, none⟩ (GTag.val y55) from Ld.rowN (cs := [.int .i64 y55.Count, .int .i64 y55.Client]) hp177.get2 (by kernel_rfl)) .nil)) (by kernel_rfl) (fun b184 => ?_)
                refine OPS.nil ?_
                refine thn_n ?_
                exact ⟨(decide (y169.Count = y55.Count)) && ((decide (y169.Client = y55.Client)) && true), trivial, Bp.of (Bp.band Bp.dec (Bp.band1 Bp.dec)) (by simp [h181, h183]), by kernel_rfl, hp177⟩
            · rw [show (decide (e170 = 0)) = false from Bp.dec.ff h181]
              refine OPS.batch 9 { wraps := [109, 114] } [] [3, 5, 9, 114] [.pointer (some ⟨g12, 0, none⟩), .int .i64 c.Client, .pointer (some ⟨g61, 0, none⟩), .bool false] .nil (by kernel_rfl) (fun b186 => ?_)
              refine OPS.nil ?_
              refine thn_n ?_
              exact ⟨false, trivial, Bp.of Bp.f (by simp [h181]), by kernel_rfl, hp177⟩
          rintro e189 w190 ⟨x187, hd192, hb188, hE193, hp191⟩
          obtain ⟨b194, rfl⟩ := toMk hE193
          clear hE193
          clear hd192
          refine WP.test (p := (e170 = 0) ∧ (¬ (c.Other = c.Client)) ∧ ((y169.Count = y55.Count) ∧ (y169.Client = y55.Client))) rfl hb188 (fun h195 => ?_) (fun h195 => ?_)
          · refine WP.seq ?_
            refine WP.pure {} [] [2] [.bool false] .nil (by kernel_rfl) (fun b196 => ?_)
            refine thn_n ?_
            refine WP.ret ?_
            refine thn_r ?_
            refine bodyQ.of _ rfl [.bool false] ⟨rfl, trivial⟩ ?_
            exfalso
            (have k := next_right ‹nextR c.A c.Used c.Other _ _› h195.1; have j := next_right ‹nextR c.A c.Used c.Client _ _› (by assumption); omega)
          · refine WP.skip ?_
            refine thn_n ?_
            refine WP.seq ?_
            refine WP.region _ rfl (by kernel_rfl) ?_
            refine OPS.batch 4 {} [.agg #[.int .i64 c.A.Count, .int .i64 c.A.Client], .int .i64 y55.Count] [9, 116, 118, 119] [.pointer (some ⟨g61, 0, none⟩), .agg #[.int .i64 c.A.Count, .int .i64 c.A.Client], .int .i64 y55.Count, .int .i64 c.Client] (.cons (show Ld Try.prog w190 24 ⟨g12, 0, none⟩ (.agg #[.int .i64 c.A.Count, .int .i64 c.A.Client]) from Ld.rowN (cs := [.int .i64 c.A.Count, .int .i64 c.A.Client]) hp191.get4 (by kernel_rfl)) (.cons (Ld.row1 (P := Try.prog) (t := 2) (o := 0) (v := .int .i64 y55.Count) hp191.get2 (by kernel_rfl)) .nil)) (by kernel_rfl) (fun b197 => ?_)
            refine OPS.cons (opStep.call (some 120) [.agg #[.int .i64 c.A.Count, .int .i64 c.A.Client], .int .i64 y55.Count, .int .i64 c.Client] (by kernel_rfl) (tag_Next c.A y55.Count c.Client _) ?_)
            rintro _ w200 ⟨y203, e204, rfl, hx205, hf201⟩
            refine ⟨_, rfl, ?_⟩
            have hp202 := hp191.step hf201
            refine OPS.batch 3 {} [] [9, 121, 122] [.pointer (some ⟨g61, 0, none⟩), GTag.val y203, .int .i64 e204] .nil (by kernel_rfl) (fun b206 => ?_)
            refine OPS.cons (opStep.alloc hp202 [.int .i64 0, .int .i64 0] (by kernel_rfl) (fun g209 w207 hp208 => ?_))
            refine OPS.cons (opStep.store0 hp208 rfl [.int .i64 y203.Count, .int .i64 y203.Client] [.int .i64 y203.Count, .int .i64 y203.Client] (by kernel_rfl) (fun w210 hp211 => ?_))
            refine OPS.batch 1 {} [] [9, 13, 14] [.pointer (some ⟨g61, 0, none⟩), .pointer (some ⟨g209, 0, none⟩), .int .i64 e204] .nil (by kernel_rfl) (fun b212 => ?_)
            refine OPS.nil ?_
            refine thn_n ?_
            refine WP.seq ?_
            refine WP.seq ?_
            refine WP.pure {} [.int .i64 y55.Count] [9, 13, 14, 125] [.pointer (some ⟨g61, 0, none⟩), .pointer (some ⟨g209, 0, none⟩), .int .i64 e204, .bool (decide (y55.Count = 4611686018427387903))] (.cons (Ld.row1 (P := Try.prog) (t := 2) (o := 0) (v := .int .i64 y55.Count) hp211.get3 (by kernel_rfl)) .nil) (by kernel_rfl) (fun b213 => ?_)
            refine thn_n ?_
            refine WP.test (p := y55.Count = 4611686018427387903) rfl Bp.dec (fun h214 => ?_) (fun h214 => ?_)
            · refine WP.seq ?_
              refine WP.pure {} [] [2] [.bool (decide (e204 = 42))] .nil (by kernel_rfl) (fun b215 => ?_)
              refine thn_n ?_
              refine WP.ret ?_
              refine thn_r ?_
              refine bodyQ.of _ rfl [.bool (decide (e204 = 42))] ⟨rfl, trivial⟩ ?_
              exact ⟨congrArg (fun b => Ending.returned (.bool b)) (Bp.tt Bp.dec (by (obtain ⟨k1, k2⟩ := next_again ‹nextR c.A c.Used c.Client _ _› (by assumption) (by assumption); exact k1 h214))), hp211.fr⟩
            · refine WP.skip ?_
              refine thn_n ?_
              refine WP.cut (fun e232 w233 => ∃ (x230 : Bool), (True) ∧ Bp x230 ((e204 = 0) ∧ (y203.Count = (y55.Count + 1)) ∧ ((tagCmp y203 y55) = 1)) ∧ List.map e232 [2] = [.bool x230] ∧ Hp w Non [Res.row g209 [.int .i64 y203.Count, .int .i64 y203.Client] 24, Res.row g175 [.int .i64 y169.Count, .int .i64 y169.Client] 24, Res.row g117 [.int .i64 (y55.Count - 1), .int .i64 c.Client] 24, Res.row g61 [.int .i64 y55.Count, .int .i64 y55.Client] 24, Res.row g30 [.int .i64 y24.Count, .int .i64 y24.Client] 24, Res.row g12 [.int .i64 c.A.Count, .int .i64 c.A.Client] 24, Res.row g3 [.slice c.L.a c.L.n c.L.c, .int .i64 c.A.Count, .int .i64 c.A.Client, .int .i64 c.B.Count, .int .i64 c.B.Client, .int .i64 c.Used, .int .i64 c.Client, .int .i64 c.Other, .string c.S] 26] w233) ?_ ?_
              · refine WP.region _ rfl (by kernel_rfl) ?_
                refine OPS.batch 3 {} [] [9, 13, 130] [.pointer (some ⟨g61, 0, none⟩), .pointer (some ⟨g209, 0, none⟩), .bool (decide (e204 = 0))] .nil (by kernel_rfl) (fun b217 => ?_)
                by_cases h218 : e204 = 0
                · rw [show (decide (e204 = 0)) = true from Bp.dec.tt h218]
                  refine OPS.batch 8 { wraps := [137] } [.int .i64 y203.Count, .int .i64 y55.Count] [9, 13, 138] [.pointer (some ⟨g61, 0, none⟩), .pointer (some ⟨g209, 0, none⟩), .bool (decide (y203.Count = (y55.Count + 1)))] (.cons (Ld.row1 (P := Try.prog) (t := 2) (o := 0) (v := .int .i64 y203.Count) hp211.get0 (by kernel_rfl)) (.cons (Ld.row1 (P := Try.prog) (t := 2) (o := 0) (v := .int .i64 y55.Count) hp211.get3 (by kernel_rfl)) (.cons (show Rng .i64 (y55.Count + 1) from Rng.i64 (by (simp only [nextR, tagValid, tagProper, tagZero, iff_false, false_iff, iff_true, true_iff, Classical.not_not, and_true, true_and, and_false, false_and, or_true, true_or, or_false, false_or, not_true_eq_false, not_false_eq_true, and_self, or_self] at *; omega))) .nil))) (by kernel_rfl) (fun b219 => ?_)
                  by_cases h220 : y203.Count = (y55.Count + 1)
                  · rw [show (decide (y203.Count = (y55.Count + 1))) = true from Bp.dec.tt h220]
                    refine OPS.batch 2 {} [GTag.val y203, GTag.val y55] [138, 139, 140] [.bool true, GTag.val y203, GTag.val y55] (.cons (show Ld Try.prog w210 24 ⟨g209, 0, none⟩ (GTag.val y203) from Ld.rowN (cs := [.int .i64 y203.Count, .int .i64 y203.Client]) hp211.get0 (by kernel_rfl)) (.cons (show Ld Try.prog w210 24 ⟨g61, 0, none⟩ (GTag.val y55) from Ld.rowN (cs := [.int .i64 y55.Count, .int .i64 y55.Client]) hp211.get3 (by kernel_rfl)) .nil)) (by kernel_rfl) (fun b221 => ?_)
                    refine OPS.want (by kernel_rfl) ?_
                    refine OPS.cons (opStep.call (some 141) [GTag.val y203, GTag.val y55] (by kernel_rfl) (tag_Compare y203 y55 _) ?_)
                    rintro _ w224 ⟨rfl, hf225⟩
                    refine ⟨_, rfl, ?_⟩
                    have hp226 := hp211.step hf225
                    refine OPS.batch 3 { wraps := [143] } [] [2] [.bool (decide ((tagCmp y203 y55) = 1))] .nil (by kernel_rfl) (fun b227 => ?_)
                    refine OPS.nil ?_
                    refine thn_n ?_
                    exact ⟨decide ((tagCmp y203 y55) = 1), trivial, Bp.of Bp.dec (by simp [h218, h220]), by kernel_rfl, hp226⟩
                  · rw [show (decide (y203.Count = (y55.Count + 1))) = false from Bp.dec.ff h220]
                    refine OPS.batch 6 { wraps := [143] } [] [2] [.bool false] .nil (by kernel_rfl) (fun b228 => ?_)
                    refine OPS.nil ?_
                    refine thn_n ?_
                    exact ⟨false, trivial, Bp.of Bp.f (by simp [h218, h220]), by kernel_rfl, hp211⟩
                · rw [show (decide (e204 = 0)) = false from Bp.dec.ff h218]
                  refine OPS.batch 14 { wraps := [137, 143] } [] [2] [.bool false] .nil (by kernel_rfl) (fun b229 => ?_)
                  refine OPS.nil ?_
                  refine thn_n ?_
                  exact ⟨false, trivial, Bp.of Bp.f (by simp [h218]), by kernel_rfl, hp211⟩
              rintro e232 w233 ⟨x230, hd235, hb231, hE236, hp234⟩
              obtain ⟨b237, rfl⟩ := toMk hE236
              clear hE236
              clear hd235
              refine WP.ret ?_
              refine bodyQ.of _ rfl [.bool x230] ⟨rfl, trivial⟩ ?_
              exact ⟨congrArg (fun b => Ending.returned (.bool b)) (Bp.tt hb231 (by (obtain ⟨k1, k2⟩ := next_again ‹nextR c.A c.Used c.Client _ _› (by assumption) (by assumption); exact k2 h214))), hp234.fr⟩

end Go.Proofs.Ythdkbbpiaeaojaa.K
