/- The walks of Tag: what each function computes. -/
import Derived.Test.YthdkbbpiaeaojaaProg
import Derived.Test.YthdkbbpiaeaojaaCoreO
namespace Go.Proofs.Ythdkbbpiaeaojaa.K
open Go Go.Proofs Go.RowKit
set_option linter.unusedVariables false
set_option linter.unusedSimpArgs false
set_option maxRecDepth 20000
set_option maxHeartbeats 4000000

structure GTag where
  Count : Int
  Client : Int
def GTag.cells (x : GTag) : List Go.Value := [.int .i64 x.Count, .int .i64 x.Client]
def GTag.val (x : GTag) : Go.Value := .agg x.cells.toArray
theorem GTag.len (x : GTag) : x.cells.length = 2 := rfl
def tagZero (t : GTag) : Prop := t.Count = 0 ∧ t.Client = 0
def tagProper (t : GTag) : Prop := 1 ≤ t.Count ∧ t.Count ≤ 4611686018427387903 ∧ 1 ≤ t.Client ∧ t.Client ≤ 65535
def tagValid (t : GTag) : Prop := tagZero t ∨ tagProper t
def cmpI (a b : Int) : Int := if a < b then -1 else if b < a then 1 else 0
def tagCmp (a b : GTag) : Int := if cmpI a.Count b.Count ≠ 0 then cmpI a.Count b.Count else cmpI a.Client b.Client

theorem tag_Zero (t : GTag) (w : World) :
    Calls Try.prog 17 #[GTag.val t] w (fun x w' => ∃ b, x = .returned (.bool b) ∧ Bp b (tagZero t) ∧ Fram Non w w') := by
  refine calls_of Try.func17 rfl 6 rfl (by simp) ?_
  have hp0 := Hp.init w
  have he0 : List.map (env0 [GTag.val t]) [0] = [GTag.val t] := by kernel_rfl
  obtain ⟨b0, he0⟩ := toMk he0
  rw [he0]
  clear he0
  refine WP.seq ?_
  refine WP.region _ rfl (by kernel_rfl) ?_
  refine OPS.cons (opStep.box hp0 [.int .i64 t.Count, .int .i64 t.Client] (by kernel_rfl) (fun g3 w1 hp2 => ?_))
  refine OPS.batch 1 {} [] [1] [.pointer (some ⟨g3, 0, none⟩)] .nil (by kernel_rfl) (fun b4 => ?_)
  refine OPS.nil ?_
  refine thn_n ?_
  refine WP.seq ?_
  refine WP.pure {} [GTag.val t] [2] [.bool ((decide (t.Count = 0)) && ((decide (t.Client = 0)) && true))] (.cons (show Ld Try.prog w1 24 ⟨g3, 0, none⟩ (GTag.val t) from Ld.rowN (cs := [.int .i64 t.Count, .int .i64 t.Client]) hp2.get0 (by kernel_rfl)) .nil) (by kernel_rfl) (fun b5 => ?_)
  refine thn_n ?_
  refine WP.ret ?_
  refine bodyQ.of _ rfl [.bool ((decide (t.Count = 0)) && ((decide (t.Client = 0)) && true))] ⟨rfl, trivial⟩ ?_
  exact ⟨_, rfl, Bp.of (Bp.band Bp.dec (Bp.band1 Bp.dec)) (by simp [tagZero]), hp2.fr⟩

theorem tag_proper (t : GTag) (w : World) :
    Calls Try.prog 70 #[GTag.val t] w (fun x w' => ∃ b, x = .returned (.bool b) ∧ Bp b (tagProper t) ∧ Fram Non w w') := by
  refine calls_of Try.func70 rfl 21 rfl (by simp) ?_
  have hp0 := Hp.init w
  have he0 : List.map (env0 [GTag.val t]) [0] = [GTag.val t] := by kernel_rfl
  obtain ⟨b0, he0⟩ := toMk he0
  rw [he0]
  clear he0
  refine WP.seq ?_
  refine WP.region _ rfl (by kernel_rfl) ?_
  refine OPS.cons (opStep.box hp0 [.int .i64 t.Count, .int .i64 t.Client] (by kernel_rfl) (fun g3 w1 hp2 => ?_))
  refine OPS.batch 1 {} [] [1] [.pointer (some ⟨g3, 0, none⟩)] .nil (by kernel_rfl) (fun b4 => ?_)
  refine OPS.nil ?_
  refine thn_n ?_
  refine WP.cut (fun e18 w19 => ∃ (x16 : Bool), (True) ∧ Bp x16 ((1 ≤ t.Count) ∧ (t.Count ≤ 4611686018427387903) ∧ (1 ≤ t.Client) ∧ (t.Client ≤ 65535)) ∧ List.map e18 [2] = [.bool x16] ∧ Hp w Non [Res.row g3 [.int .i64 t.Count, .int .i64 t.Client] 24] w19) ?_ ?_
  · refine WP.region _ rfl (by kernel_rfl) ?_
    refine OPS.batch 4 {} [.int .i64 t.Count] [1, 6] [.pointer (some ⟨g3, 0, none⟩), .bool (decide (1 ≤ t.Count))] (.cons (Ld.row1 (P := Try.prog) (t := 2) (o := 0) (v := .int .i64 t.Count) hp2.get0 (by kernel_rfl)) .nil) (by kernel_rfl) (fun b6 => ?_)
    by_cases h7 : 1 ≤ t.Count
    · rw [show (decide (1 ≤ t.Count)) = true from Bp.dec.tt h7]
      refine OPS.batch 5 { wraps := [10] } [.int .i64 t.Count] [1, 11] [.pointer (some ⟨g3, 0, none⟩), .bool (decide (t.Count ≤ 4611686018427387903))] (.cons (Ld.row1 (P := Try.prog) (t := 2) (o := 0) (v := .int .i64 t.Count) hp2.get0 (by kernel_rfl)) .nil) (by kernel_rfl) (fun b8 => ?_)
      by_cases h9 : t.Count ≤ 4611686018427387903
      · rw [show (decide (t.Count ≤ 4611686018427387903)) = true from Bp.dec.tt h9]
        refine OPS.batch 5 { wraps := [15] } [.int .i64 t.Client] [1, 16] [.pointer (some ⟨g3, 0, none⟩), .bool (decide (1 ≤ t.Client))] (.cons (Ld.row1 (P := Try.prog) (t := 3) (o := 1) (v := .int .i64 t.Client) hp2.get0 (by kernel_rfl)) .nil) (by kernel_rfl) (fun b10 => ?_)
        by_cases h11 : 1 ≤ t.Client
        · rw [show (decide (1 ≤ t.Client)) = true from Bp.dec.tt h11]
          refine OPS.batch 5 { wraps := [20] } [.int .i64 t.Client] [2] [.bool (decide (t.Client ≤ 65535))] (.cons (Ld.row1 (P := Try.prog) (t := 3) (o := 1) (v := .int .i64 t.Client) hp2.get0 (by kernel_rfl)) .nil) (by kernel_rfl) (fun b12 => ?_)
          refine OPS.nil ?_
          refine thn_n ?_
          exact ⟨decide (t.Client ≤ 65535), trivial, Bp.of Bp.dec (by simp [h7, h9, h11]), by kernel_rfl, hp2⟩
        · rw [show (decide (1 ≤ t.Client)) = false from Bp.dec.ff h11]
          refine OPS.batch 5 { wraps := [20] } [] [2] [.bool false] .nil (by kernel_rfl) (fun b13 => ?_)
          refine OPS.nil ?_
          refine thn_n ?_
          exact ⟨false, trivial, Bp.of Bp.f (by simp [h7, h9, h11]), by kernel_rfl, hp2⟩
      · rw [show (decide (t.Count ≤ 4611686018427387903)) = false from Bp.dec.ff h9]
        refine OPS.batch 10 { wraps := [15, 20] } [] [2] [.bool false] .nil (by kernel_rfl) (fun b14 => ?_)
        refine OPS.nil ?_
        refine thn_n ?_
        exact ⟨false, trivial, Bp.of Bp.f (by simp [h7, h9]), by kernel_rfl, hp2⟩
    · rw [show (decide (1 ≤ t.Count)) = false from Bp.dec.ff h7]
      refine OPS.batch 15 { wraps := [10, 15, 20] } [] [2] [.bool false] .nil (by kernel_rfl) (fun b15 => ?_)
      refine OPS.nil ?_
      refine thn_n ?_
      exact ⟨false, trivial, Bp.of Bp.f (by simp [h7]), by kernel_rfl, hp2⟩
  rintro e18 w19 ⟨x16, hd21, hb17, hE22, hp20⟩
  obtain ⟨b23, rfl⟩ := toMk hE22
  clear hE22
  clear hd21
  refine WP.ret ?_
  refine bodyQ.of _ rfl [.bool x16] ⟨rfl, trivial⟩ ?_
  exact ⟨_, rfl, Bp.of hb17 (by first | (simp only [tagProper, false_iff, true_iff]; done) | (simp only [tagProper, false_iff, true_iff]; omega)), hp20.fr⟩

theorem tag_Valid (t : GTag) (w : World) :
    Calls Try.prog 16 #[GTag.val t] w (fun x w' => ∃ b, x = .returned (.bool b) ∧ Bp b (tagValid t) ∧ Fram Non w w') := by
  refine calls_of Try.func16 rfl 9 rfl (by simp) ?_
  have hp0 := Hp.init w
  have he0 : List.map (env0 [GTag.val t]) [0] = [GTag.val t] := by kernel_rfl
  obtain ⟨b0, he0⟩ := toMk he0
  rw [he0]
  clear he0
  refine WP.seq ?_
  refine WP.region _ rfl (by kernel_rfl) ?_
  refine OPS.cons (opStep.box hp0 [.int .i64 t.Count, .int .i64 t.Client] (by kernel_rfl) (fun g3 w1 hp2 => ?_))
  refine OPS.batch 1 {} [] [1] [.pointer (some ⟨g3, 0, none⟩)] .nil (by kernel_rfl) (fun b4 => ?_)
  refine OPS.nil ?_
  refine thn_n ?_
  refine WP.cut (fun e28 w29 => ∃ (x26 : Bool), (True) ∧ Bp x26 (((tagZero t)) ∨ ((¬ (tagZero t)) ∧ (tagProper t))) ∧ List.map e28 [2] = [.bool x26] ∧ Hp w Non [Res.row g3 [.int .i64 t.Count, .int .i64 t.Client] 24] w29) ?_ ?_
  · refine WP.region _ rfl (by kernel_rfl) ?_
    refine OPS.batch 1 {} [GTag.val t] [1, 3] [.pointer (some ⟨g3, 0, none⟩), GTag.val t] (.cons (show Ld Try.prog w1 24 ⟨g3, 0, none⟩ (GTag.val t) from Ld.rowN (cs := [.int .i64 t.Count, .int .i64 t.Client]) hp2.get0 (by kernel_rfl)) .nil) (by kernel_rfl) (fun b6 => ?_)
    refine OPS.cons (opStep.call (some 4) [GTag.val t] (by kernel_rfl) (tag_Zero t _) ?_)
    rintro _ w9 ⟨b12, rfl, hb13, hf10⟩
    refine ⟨_, rfl, ?_⟩
    have hp11 := hp2.step hf10
    refine OPS.batch 1 {} [] [1, 5] [.pointer (some ⟨g3, 0, none⟩), .bool b12] .nil (by kernel_rfl) (fun b14 => ?_)
    by_cases h15 : tagZero t
    · rw [show b12 = true from hb13.tt h15]
      refine OPS.batch 4 { wraps := [8] } [] [2] [.bool true] .nil (by kernel_rfl) (fun b16 => ?_)
      refine OPS.nil ?_
      refine thn_n ?_
      exact ⟨true, trivial, Bp.of Bp.t (by simp [h15]), by kernel_rfl, hp11⟩
    · rw [show b12 = false from hb13.ff h15]
      refine OPS.batch 1 {} [GTag.val t] [5, 6] [.bool false, GTag.val t] (.cons (show Ld Try.prog w9 24 ⟨g3, 0, none⟩ (GTag.val t) from Ld.rowN (cs := [.int .i64 t.Count, .int .i64 t.Client]) hp11.get0 (by kernel_rfl)) .nil) (by kernel_rfl) (fun b17 => ?_)
      refine OPS.want (by kernel_rfl) ?_
      refine OPS.cons (opStep.call (some 7) [GTag.val t] (by kernel_rfl) (tag_proper t _) ?_)
      rintro _ w20 ⟨b23, rfl, hb24, hf21⟩
      refine ⟨_, rfl, ?_⟩
      have hp22 := hp11.step hf21
      refine OPS.batch 2 { wraps := [8] } [] [2] [.bool b23] .nil (by kernel_rfl) (fun b25 => ?_)
      refine OPS.nil ?_
      refine thn_n ?_
      exact ⟨b23, trivial, Bp.of hb24 (by simp [h15]), by kernel_rfl, hp22⟩
  rintro e28 w29 ⟨x26, hd31, hb27, hE32, hp30⟩
  obtain ⟨b33, rfl⟩ := toMk hE32
  clear hE32
  clear hd31
  refine WP.ret ?_
  refine bodyQ.of _ rfl [.bool x26] ⟨rfl, trivial⟩ ?_
  exact ⟨_, rfl, Bp.of hb27 (by simp only [tagValid]; by_cases hz : tagZero t <;> simp_all), hp30.fr⟩

theorem isNaN_112 (a : Int) (w : World) :
    Calls Try.prog 112 #[.int .i64 a] w (fun x w' => ∃ b, x = .returned (.bool b) ∧ Bp b (False) ∧ Fram Non w w') := by
  refine calls_of Try.func112 rfl 6 rfl (by simp) ?_
  have hp0 := Hp.init w
  have he0 : List.map (env0 [.int .i64 a]) [0] = [.int .i64 a] := by kernel_rfl
  obtain ⟨b0, he0⟩ := toMk he0
  rw [he0]
  clear he0
  refine WP.seq ?_
  refine WP.pure {} [] [0] [.int .i64 a] .nil (by kernel_rfl) (fun b1 => ?_)
  refine thn_n ?_
  refine WP.seq ?_
  refine WP.pure {} [] [2] [.bool (decide (¬ (a = a)))] .nil (by kernel_rfl) (fun b2 => ?_)
  refine thn_n ?_
  refine WP.ret ?_
  refine bodyQ.of _ rfl [.bool (decide (¬ (a = a)))] ⟨rfl, trivial⟩ ?_
  exact ⟨_, rfl, Bp.of Bp.dec (by simp), hp0.fr⟩

theorem isNaN_113 (a : Int) (w : World) :
    Calls Try.prog 113 #[.int .i64 a] w (fun x w' => ∃ b, x = .returned (.bool b) ∧ Bp b (False) ∧ Fram Non w w') := by
  refine calls_of Try.func113 rfl 6 rfl (by simp) ?_
  have hp0 := Hp.init w
  have he0 : List.map (env0 [.int .i64 a]) [0] = [.int .i64 a] := by kernel_rfl
  obtain ⟨b0, he0⟩ := toMk he0
  rw [he0]
  clear he0
  refine WP.seq ?_
  refine WP.pure {} [] [0] [.int .i64 a] .nil (by kernel_rfl) (fun b1 => ?_)
  refine thn_n ?_
  refine WP.seq ?_
  refine WP.pure {} [] [2] [.bool (decide (¬ (a = a)))] .nil (by kernel_rfl) (fun b2 => ?_)
  refine thn_n ?_
  refine WP.ret ?_
  refine bodyQ.of _ rfl [.bool (decide (¬ (a = a)))] ⟨rfl, trivial⟩ ?_
  exact ⟨_, rfl, Bp.of Bp.dec (by simp), hp0.fr⟩

theorem cmp_71 (a b : Int) (w : World) :
    Calls Try.prog 71 #[.int .i64 a, .int .i64 b] w (fun x w' => x = .returned (.int .i64 (cmpI a b)) ∧ Fram Non w w') := by
  refine calls_of Try.func71 rfl 20 rfl (by simp) ?_
  have hp0 := Hp.init w
  have he0 : List.map (env0 [.int .i64 a, .int .i64 b]) [0, 1] = [.int .i64 a, .int .i64 b] := by kernel_rfl
  obtain ⟨b0, he0⟩ := toMk he0
  rw [he0]
  clear he0
  refine WP.seq ?_
  refine WP.pure {} [] [0, 1] [.int .i64 a, .int .i64 b] .nil (by kernel_rfl) (fun b1 => ?_)
  refine thn_n ?_
  refine WP.seq ?_
  refine WP.region _ rfl (by kernel_rfl) ?_
  refine OPS.batch 1 {} [] [0, 1, 7] [.int .i64 a, .int .i64 b, .int .i64 a] .nil (by kernel_rfl) (fun b2 => ?_)
  refine OPS.cons (opStep.call (some 8) [.int .i64 a] (by kernel_rfl) (isNaN_112 a _) ?_)
  rintro _ w5 ⟨b8, rfl, hb9, hf6⟩
  refine ⟨_, rfl, ?_⟩
  have hp7 := hp0.step hf6
  refine OPS.batch 1 {} [] [0, 1, 5] [.int .i64 a, .int .i64 b, .bool b8] .nil (by kernel_rfl) (fun b10 => ?_)
  refine OPS.nil ?_
  refine thn_n ?_
  refine WP.seq ?_
  refine WP.region _ rfl (by kernel_rfl) ?_
  refine OPS.batch 1 {} [] [0, 1, 5, 9] [.int .i64 a, .int .i64 b, .bool b8, .int .i64 b] .nil (by kernel_rfl) (fun b11 => ?_)
  refine OPS.cons (opStep.call (some 10) [.int .i64 b] (by kernel_rfl) (isNaN_112 b _) ?_)
  rintro _ w14 ⟨b17, rfl, hb18, hf15⟩
  refine ⟨_, rfl, ?_⟩
  have hp16 := hp7.step hf15
  refine OPS.batch 1 {} [] [0, 1, 5, 6] [.int .i64 a, .int .i64 b, .bool b8, .bool b17] .nil (by kernel_rfl) (fun b19 => ?_)
  refine OPS.nil ?_
  refine thn_n ?_
  refine WP.seq ?_
  refine WP.seq ?_
  refine WP.pure {} [] [0, 1, 6, 11] [.int .i64 a, .int .i64 b, .bool b17, .bool b8] .nil (by kernel_rfl) (fun b20 => ?_)
  refine thn_n ?_
  refine WP.test (p := False) rfl hb9 (fun h21 => ?_) (fun h21 => ?_)
  · refine WP.seq ?_
    refine WP.seq ?_
    refine WP.pure {} [] [12] [.bool b17] .nil (by kernel_rfl) (fun b22 => ?_)
    refine thn_n ?_
    refine WP.test (p := False) rfl hb18 (fun h23 => ?_) (fun h23 => ?_)
    · refine WP.seq ?_
      refine WP.pure {} [] [4] [.int .i64 0] .nil (by kernel_rfl) (fun b24 => ?_)
      refine thn_n ?_
      refine WP.ret ?_
      refine thn_r ?_
      refine thn_r ?_
      refine bodyQ.of _ rfl [.int .i64 0] ⟨rfl, trivial⟩ ?_
      exact ⟨by simp only [cmpI, pack]; congr 2; simp_all <;> omega, hp16.fr⟩
    · refine WP.skip ?_
      refine thn_n ?_
      refine WP.seq ?_
      refine WP.pure {} [] [4] [.int .i64 (-1)] .nil (by kernel_rfl) (fun b25 => ?_)
      refine thn_n ?_
      refine WP.ret ?_
      refine thn_r ?_
      refine bodyQ.of _ rfl [.int .i64 (-1)] ⟨rfl, trivial⟩ ?_
      exact ⟨by simp only [cmpI, pack]; congr 2; simp_all <;> omega, hp16.fr⟩
  · refine WP.skip ?_
    refine thn_n ?_
    refine WP.seq ?_
    refine WP.seq ?_
    refine WP.pure {} [] [0, 1, 13] [.int .i64 a, .int .i64 b, .bool b17] .nil (by kernel_rfl) (fun b26 => ?_)
    refine thn_n ?_
    refine WP.test (p := False) rfl hb18 (fun h27 => ?_) (fun h27 => ?_)
    · refine WP.seq ?_
      refine WP.pure {} [] [4] [.int .i64 1] .nil (by kernel_rfl) (fun b28 => ?_)
      refine thn_n ?_
      refine WP.ret ?_
      refine thn_r ?_
      refine bodyQ.of _ rfl [.int .i64 1] ⟨rfl, trivial⟩ ?_
      exact ⟨by simp only [cmpI, pack]; congr 2; simp_all <;> omega, hp16.fr⟩
    · refine WP.skip ?_
      refine thn_n ?_
      refine WP.seq ?_
      refine WP.seq ?_
      refine WP.pure {} [] [0, 1, 16] [.int .i64 a, .int .i64 b, .bool (decide (a < b))] .nil (by kernel_rfl) (fun b29 => ?_)
      refine thn_n ?_
      refine WP.test (p := a < b) rfl Bp.dec (fun h30 => ?_) (fun h30 => ?_)
      · refine WP.seq ?_
        refine WP.pure {} [] [4] [.int .i64 (-1)] .nil (by kernel_rfl) (fun b31 => ?_)
        refine thn_n ?_
        refine WP.ret ?_
        refine thn_r ?_
        refine bodyQ.of _ rfl [.int .i64 (-1)] ⟨rfl, trivial⟩ ?_
        exact ⟨by simp only [cmpI, pack]; congr 2; simp_all <;> omega, hp16.fr⟩
      · refine WP.skip ?_
        refine thn_n ?_
        refine WP.seq ?_
        refine WP.seq ?_
        refine WP.pure {} [] [19] [.bool (decide (b < a))] .nil (by kernel_rfl) (fun b32 => ?_)
        refine thn_n ?_
        refine WP.test (p := b < a) rfl Bp.dec (fun h33 => ?_) (fun h33 => ?_)
        · refine WP.seq ?_
          refine WP.pure {} [] [4] [.int .i64 1] .nil (by kernel_rfl) (fun b34 => ?_)
          refine thn_n ?_
          refine WP.ret ?_
          refine thn_r ?_
          refine bodyQ.of _ rfl [.int .i64 1] ⟨rfl, trivial⟩ ?_
          exact ⟨by simp only [cmpI, pack]; congr 2; simp_all <;> omega, hp16.fr⟩
        · refine WP.skip ?_
          refine thn_n ?_
          refine WP.seq ?_
          refine WP.pure {} [] [4] [.int .i64 0] .nil (by kernel_rfl) (fun b35 => ?_)
          refine thn_n ?_
          refine WP.ret ?_
          refine bodyQ.of _ rfl [.int .i64 0] ⟨rfl, trivial⟩ ?_
          exact ⟨by simp only [cmpI, pack]; congr 2; simp_all <;> omega, hp16.fr⟩

theorem cmp_72 (a b : Int) (w : World) :
    Calls Try.prog 72 #[.int .i64 a, .int .i64 b] w (fun x w' => x = .returned (.int .i64 (cmpI a b)) ∧ Fram Non w w') := by
  refine calls_of Try.func72 rfl 20 rfl (by simp) ?_
  have hp0 := Hp.init w
  have he0 : List.map (env0 [.int .i64 a, .int .i64 b]) [0, 1] = [.int .i64 a, .int .i64 b] := by kernel_rfl
  obtain ⟨b0, he0⟩ := toMk he0
  rw [he0]
  clear he0
  refine WP.seq ?_
  refine WP.pure {} [] [0, 1] [.int .i64 a, .int .i64 b] .nil (by kernel_rfl) (fun b1 => ?_)
  refine thn_n ?_
  refine WP.seq ?_
  refine WP.region _ rfl (by kernel_rfl) ?_
  refine OPS.batch 1 {} [] [0, 1, 7] [.int .i64 a, .int .i64 b, .int .i64 a] .nil (by kernel_rfl) (fun b2 => ?_)
  refine OPS.cons (opStep.call (some 8) [.int .i64 a] (by kernel_rfl) (isNaN_113 a _) ?_)
  rintro _ w5 ⟨b8, rfl, hb9, hf6⟩
  refine ⟨_, rfl, ?_⟩
  have hp7 := hp0.step hf6
  refine OPS.batch 1 {} [] [0, 1, 5] [.int .i64 a, .int .i64 b, .bool b8] .nil (by kernel_rfl) (fun b10 => ?_)
  refine OPS.nil ?_
  refine thn_n ?_
  refine WP.seq ?_
  refine WP.region _ rfl (by kernel_rfl) ?_
  refine OPS.batch 1 {} [] [0, 1, 5, 9] [.int .i64 a, .int .i64 b, .bool b8, .int .i64 b] .nil (by kernel_rfl) (fun b11 => ?_)
  refine OPS.cons (opStep.call (some 10) [.int .i64 b] (by kernel_rfl) (isNaN_113 b _) ?_)
  rintro _ w14 ⟨b17, rfl, hb18, hf15⟩
  refine ⟨_, rfl, ?_⟩
  have hp16 := hp7.step hf15
  refine OPS.batch 1 {} [] [0, 1, 5, 6] [.int .i64 a, .int .i64 b, .bool b8, .bool b17] .nil (by kernel_rfl) (fun b19 => ?_)
  refine OPS.nil ?_
  refine thn_n ?_
  refine WP.seq ?_
  refine WP.seq ?_
  refine WP.pure {} [] [0, 1, 6, 11] [.int .i64 a, .int .i64 b, .bool b17, .bool b8] .nil (by kernel_rfl) (fun b20 => ?_)
  refine thn_n ?_
  refine WP.test (p := False) rfl hb9 (fun h21 => ?_) (fun h21 => ?_)
  · refine WP.seq ?_
    refine WP.seq ?_
    refine WP.pure {} [] [12] [.bool b17] .nil (by kernel_rfl) (fun b22 => ?_)
    refine thn_n ?_
    refine WP.test (p := False) rfl hb18 (fun h23 => ?_) (fun h23 => ?_)
    · refine WP.seq ?_
      refine WP.pure {} [] [4] [.int .i64 0] .nil (by kernel_rfl) (fun b24 => ?_)
      refine thn_n ?_
      refine WP.ret ?_
      refine thn_r ?_
      refine thn_r ?_
      refine bodyQ.of _ rfl [.int .i64 0] ⟨rfl, trivial⟩ ?_
      exact ⟨by simp only [cmpI, pack]; congr 2; simp_all <;> omega, hp16.fr⟩
    · refine WP.skip ?_
      refine thn_n ?_
      refine WP.seq ?_
      refine WP.pure {} [] [4] [.int .i64 (-1)] .nil (by kernel_rfl) (fun b25 => ?_)
      refine thn_n ?_
      refine WP.ret ?_
      refine thn_r ?_
      refine bodyQ.of _ rfl [.int .i64 (-1)] ⟨rfl, trivial⟩ ?_
      exact ⟨by simp only [cmpI, pack]; congr 2; simp_all <;> omega, hp16.fr⟩
  · refine WP.skip ?_
    refine thn_n ?_
    refine WP.seq ?_
    refine WP.seq ?_
    refine WP.pure {} [] [0, 1, 13] [.int .i64 a, .int .i64 b, .bool b17] .nil (by kernel_rfl) (fun b26 => ?_)
    refine thn_n ?_
    refine WP.test (p := False) rfl hb18 (fun h27 => ?_) (fun h27 => ?_)
    · refine WP.seq ?_
      refine WP.pure {} [] [4] [.int .i64 1] .nil (by kernel_rfl) (fun b28 => ?_)
      refine thn_n ?_
      refine WP.ret ?_
      refine thn_r ?_
      refine bodyQ.of _ rfl [.int .i64 1] ⟨rfl, trivial⟩ ?_
      exact ⟨by simp only [cmpI, pack]; congr 2; simp_all <;> omega, hp16.fr⟩
    · refine WP.skip ?_
      refine thn_n ?_
      refine WP.seq ?_
      refine WP.seq ?_
      refine WP.pure {} [] [0, 1, 16] [.int .i64 a, .int .i64 b, .bool (decide (a < b))] .nil (by kernel_rfl) (fun b29 => ?_)
      refine thn_n ?_
      refine WP.test (p := a < b) rfl Bp.dec (fun h30 => ?_) (fun h30 => ?_)
      · refine WP.seq ?_
        refine WP.pure {} [] [4] [.int .i64 (-1)] .nil (by kernel_rfl) (fun b31 => ?_)
        refine thn_n ?_
        refine WP.ret ?_
        refine thn_r ?_
        refine bodyQ.of _ rfl [.int .i64 (-1)] ⟨rfl, trivial⟩ ?_
        exact ⟨by simp only [cmpI, pack]; congr 2; simp_all <;> omega, hp16.fr⟩
      · refine WP.skip ?_
        refine thn_n ?_
        refine WP.seq ?_
        refine WP.seq ?_
        refine WP.pure {} [] [19] [.bool (decide (b < a))] .nil (by kernel_rfl) (fun b32 => ?_)
        refine thn_n ?_
        refine WP.test (p := b < a) rfl Bp.dec (fun h33 => ?_) (fun h33 => ?_)
        · refine WP.seq ?_
          refine WP.pure {} [] [4] [.int .i64 1] .nil (by kernel_rfl) (fun b34 => ?_)
          refine thn_n ?_
          refine WP.ret ?_
          refine thn_r ?_
          refine bodyQ.of _ rfl [.int .i64 1] ⟨rfl, trivial⟩ ?_
          exact ⟨by simp only [cmpI, pack]; congr 2; simp_all <;> omega, hp16.fr⟩
        · refine WP.skip ?_
          refine thn_n ?_
          refine WP.seq ?_
          refine WP.pure {} [] [4] [.int .i64 0] .nil (by kernel_rfl) (fun b35 => ?_)
          refine thn_n ?_
          refine WP.ret ?_
          refine bodyQ.of _ rfl [.int .i64 0] ⟨rfl, trivial⟩ ?_
          exact ⟨by simp only [cmpI, pack]; congr 2; simp_all <;> omega, hp16.fr⟩

theorem tag_Compare (a b : GTag) (w : World) :
    Calls Try.prog 18 #[GTag.val a, GTag.val b] w (fun x w' => x = .returned (.int .i64 (tagCmp a b)) ∧ Fram Non w w') := by
  refine calls_of Try.func18 rfl 19 rfl (by simp) ?_
  have hp0 := Hp.init w
  have he0 : List.map (env0 [GTag.val a, GTag.val b]) [0, 1] = [GTag.val a, GTag.val b] := by kernel_rfl
  obtain ⟨b0, he0⟩ := toMk he0
  rw [he0]
  clear he0
  refine WP.seq ?_
  refine WP.region _ rfl (by kernel_rfl) ?_
  refine OPS.cons (opStep.box hp0 [.int .i64 a.Count, .int .i64 a.Client] (by kernel_rfl) (fun g3 w1 hp2 => ?_))
  refine OPS.cons (opStep.box hp2 [.int .i64 b.Count, .int .i64 b.Client] (by kernel_rfl) (fun g6 w4 hp5 => ?_))
  refine OPS.batch 1 {} [] [2, 3] [.pointer (some ⟨g3, 0, none⟩), .pointer (some ⟨g6, 0, none⟩)] .nil (by kernel_rfl) (fun b7 => ?_)
  refine OPS.nil ?_
  refine thn_n ?_
  refine WP.seq ?_
  refine WP.seq ?_
  refine WP.region _ rfl (by kernel_rfl) ?_
  refine OPS.batch 4 {} [.int .i64 a.Count, .int .i64 b.Count] [2, 3, 7, 9] [.pointer (some ⟨g3, 0, none⟩), .pointer (some ⟨g6, 0, none⟩), .int .i64 a.Count, .int .i64 b.Count] (.cons (Ld.row1 (P := Try.prog) (t := 2) (o := 0) (v := .int .i64 a.Count) hp5.get1 (by kernel_rfl)) (.cons (Ld.row1 (P := Try.prog) (t := 2) (o := 0) (v := .int .i64 b.Count) hp5.get0 (by kernel_rfl)) .nil)) (by kernel_rfl) (fun b8 => ?_)
  refine OPS.cons (opStep.call (some 10) [.int .i64 a.Count, .int .i64 b.Count] (by kernel_rfl) (cmp_71 a.Count b.Count _) ?_)
  rintro _ w11 ⟨rfl, hf12⟩
  refine ⟨_, rfl, ?_⟩
  have hp13 := hp5.step hf12
  refine OPS.batch 1 {} [] [2, 3, 5] [.pointer (some ⟨g3, 0, none⟩), .pointer (some ⟨g6, 0, none⟩), .int .i64 (cmpI a.Count b.Count)] .nil (by kernel_rfl) (fun b14 => ?_)
  refine OPS.nil ?_
  refine thn_n ?_
  refine WP.seq ?_
  refine WP.pure {} [] [2, 3, 5, 12] [.pointer (some ⟨g3, 0, none⟩), .pointer (some ⟨g6, 0, none⟩), .int .i64 (cmpI a.Count b.Count), .bool (decide (¬ ((cmpI a.Count b.Count) = 0)))] .nil (by kernel_rfl) (fun b15 => ?_)
  refine thn_n ?_
  refine WP.test (p := ¬ ((cmpI a.Count b.Count) = 0)) rfl Bp.dec (fun h16 => ?_) (fun h16 => ?_)
  · refine WP.seq ?_
    refine WP.pure {} [] [4] [.int .i64 (cmpI a.Count b.Count)] .nil (by kernel_rfl) (fun b17 => ?_)
    refine thn_n ?_
    refine WP.ret ?_
    refine thn_r ?_
    refine bodyQ.of _ rfl [.int .i64 (cmpI a.Count b.Count)] ⟨rfl, trivial⟩ ?_
    exact ⟨by simp only [tagCmp, pack]; congr 2; simp_all, hp13.fr⟩
  · replace h16 := Classical.not_not.1 h16
    refine WP.skip ?_
    refine thn_n ?_
    refine WP.seq ?_
    refine WP.region _ rfl (by kernel_rfl) ?_
    refine OPS.batch 4 {} [.int .i64 a.Client, .int .i64 b.Client] [15, 17] [.int .i64 a.Client, .int .i64 b.Client] (.cons (Ld.row1 (P := Try.prog) (t := 3) (o := 1) (v := .int .i64 a.Client) hp13.get1 (by kernel_rfl)) (.cons (Ld.row1 (P := Try.prog) (t := 3) (o := 1) (v := .int .i64 b.Client) hp13.get0 (by kernel_rfl)) .nil)) (by kernel_rfl) (fun b18 => ?_)
    refine OPS.cons (opStep.call (some 18) [.int .i64 a.Client, .int .i64 b.Client] (by kernel_rfl) (cmp_72 a.Client b.Client _) ?_)
    rintro _ w21 ⟨rfl, hf22⟩
    refine ⟨_, rfl, ?_⟩
    have hp23 := hp13.step hf22
    refine OPS.batch 1 {} [] [4] [.int .i64 (cmpI a.Client b.Client)] .nil (by kernel_rfl) (fun b24 => ?_)
    refine OPS.nil ?_
    refine thn_n ?_
    refine WP.ret ?_
    refine bodyQ.of _ rfl [.int .i64 (cmpI a.Client b.Client)] ⟨rfl, trivial⟩ ?_
    exact ⟨by simp only [tagCmp, pack]; congr 2; simp_all, hp23.fr⟩

def maxT : List GTag → GTag
  | [] => ⟨0, 0⟩
  | x :: l => l.foldl (fun m y => if 0 < tagCmp y m then y else m) x
theorem maxT_one {l : List GTag} {y : GTag} (h : l[0]? = some y) : maxT (l.take 1) = y := by
  cases l with
  | nil => simp at h
  | cons a l => simp at h; subst h; simp [maxT]
theorem maxT_step {l : List GTag} {k : Nat} {y : GTag} (h1 : 1 ≤ k) (hy : l[k]? = some y) : maxT (l.take (k + 1)) = if 0 < tagCmp y (maxT (l.take k)) then y else maxT (l.take k) := by
  have hlt : k < l.length := (List.getElem?_eq_some_iff.1 hy).1
  have hget : l[k] = y := (List.getElem?_eq_some_iff.1 hy).2
  rw [List.take_succ_eq_append_getElem hlt, hget]
  cases l with
  | nil => simp at hlt
  | cons a l =>
    obtain ⟨k, rfl⟩ : ∃ j, k = j + 1 := ⟨k - 1, by omega⟩
    simp only [List.take_succ_cons, List.cons_append, maxT, List.foldl_append, List.foldl_cons, List.foldl_nil]
    rfl
theorem maxT_pos {l : List GTag} : l.length ≠ 0 → l ≠ [] := by intro h e; subst e; simp at h

theorem maxFunc (l : List GTag) (a : Option Addr) (c : Nat) (w : World) (hs : SlR w a l.length (l.flatMap GTag.cells)) (hl : 0 < l.length) (hb : l.length ≤ 8796093022207) :
    Calls Try.prog 73 #[.slice a l.length c, .func (.func 18) #[] #[]] w (fun x w' => x = .returned (GTag.val (maxT l)) ∧ Fram Non w w') := by
  refine calls_of Try.func73 rfl 33 rfl (by simp) ?_
  have hp0 := Hp.init w
  have he0 : List.map (env0 [.slice a l.length c, .func (.func 18) #[] #[]]) [0, 1] = [.slice a l.length c, .func (.func 18) #[] #[]] := by kernel_rfl
  obtain ⟨b0, he0⟩ := toMk he0
  rw [he0]
  clear he0
  refine WP.seq ?_
  refine WP.region _ rfl (by kernel_rfl) ?_
  refine OPS.cons (opStep.alloc hp0 [.int .i64 0, .int .i64 0] (by kernel_rfl) (fun g3 w1 hp2 => ?_))
  refine OPS.nil ?_
  refine thn_n ?_
  refine WP.seq ?_
  refine WP.seq ?_
  refine WP.pure {} [] [0, 1, 4, 9] [.slice a l.length c, .func (.func 18) #[] #[], .pointer (some ⟨g3, 0, none⟩), .bool (decide (((l.length : Nat) : Int) < 1))] .nil (by kernel_rfl) (fun b4 => ?_)
  refine thn_n ?_
  refine WP.test (p := ((l.length : Nat) : Int) < 1) rfl Bp.dec (fun h5 => ?_) (fun h5 => ?_)
  · refine WP.region _ rfl (by kernel_rfl) ?_
    refine OPS.batch 1 {} [] [0, 1, 4, 10] [.slice a l.length c, .func (.func 18) #[] #[], .pointer (some ⟨g3, 0, none⟩), .iface 9 (.string ⟨#[115, 108, 105, 99, 101, 115, 46, 77, 97, 120, 70, 117, 110, 99, 58, 32, 101, 109, 112, 116, 121, 32, 108, 105, 115, 116]⟩)] .nil (by kernel_rfl) (fun b6 => ?_)
    exfalso
    omega
  · refine WP.skip ?_
    refine thn_n ?_
    refine WP.seq ?_
    refine WP.region _ rfl (by kernel_rfl) ?_
    obtain ⟨y11, hy12⟩ : ∃ y, (l)[0]? = some y := ⟨_, List.getElem?_eq_getElem (by omega)⟩
    refine OPS.batch 3 {} [GTag.val y11] [0, 1, 4, 13] [.slice a l.length c, .func (.func 18) #[] #[], .pointer (some ⟨g3, 0, none⟩), GTag.val y11] (.cons (show InB (0) (l.length) from ⟨by omega, by omega⟩) (.cons ((hs.at hp2).some (by omega)) (.cons (Ld.add0 (Ld.elN (P := Try.prog) (t := 24) (hs.at hp2).rd 2 (fun _ => rfl) hy12 (o := 0) (cs := [.int .i64 y11.Count, .int .i64 y11.Client]) (by kernel_rfl))) .nil))) (by kernel_rfl) (fun b13 => ?_)
    refine OPS.cons (opStep.alloc hp2 [.int .i64 0, .int .i64 0] (by kernel_rfl) (fun g16 w14 hp15 => ?_))
    refine OPS.cons (opStep.store0 hp15 rfl [.int .i64 y11.Count, .int .i64 y11.Client] [.int .i64 y11.Count, .int .i64 y11.Client] (by kernel_rfl) (fun w17 hp18 => ?_))
    refine OPS.nil ?_
    refine thn_n ?_
    refine WP.seq ?_
    refine WP.seq ?_
    refine WP.pure {} [] [0, 1, 4, 5, 6] [.slice a l.length c, .func (.func 18) #[] #[], .pointer (some ⟨g3, 0, none⟩), .pointer (some ⟨g16, 0, none⟩), .int .i64 1] .nil (by kernel_rfl) (fun b19 => ?_)
    refine thn_n ?_
    refine WP.block ?_
    refine WP.loop (fun mz_ e20 w21 => ∃ (k : Nat) (m : GTag), mz_ = l.length - k ∧ (1 ≤ k ∧ k ≤ l.length ∧ m = maxT (l.take k)) ∧ List.map e20 [0, 1, 4, 5, 6] = [.slice a l.length c, .func (.func 18) #[] #[], .pointer (some ⟨g3, 0, none⟩), .pointer (some ⟨g16, 0, none⟩), .int .i64 (k : Int)] ∧ Hp w Non [Res.row g16 [.int .i64 m.Count, .int .i64 m.Client] 24, Res.row g3 [.int .i64 0, .int .i64 0] 24] w21) (l.length - (1)) ⟨1, y11, rfl, ⟨by omega, by omega, (maxT_one hy12).symm⟩, by kernel_rfl, hp18⟩ ?_
    rintro _ e20 w21 ⟨k, m, rfl, hI23, hE24, hp22⟩
    obtain ⟨b25, rfl⟩ := toMk hE24
    clear hE24
    obtain ⟨h1, h2, h3⟩ := hI23
    refine WP.seq ?_
    refine WP.seq ?_
    refine WP.pure {} [] [0, 1, 4, 5, 6, 17] [.slice a l.length c, .func (.func 18) #[] #[], .pointer (some ⟨g3, 0, none⟩), .pointer (some ⟨g16, 0, none⟩), .int .i64 (k : Int), .bool (decide ((k : Int) < ((l.length : Nat) : Int)))] .nil (by kernel_rfl) (fun b26 => ?_)
    refine thn_n ?_
    refine WP.test (p := (k : Int) < ((l.length : Nat) : Int)) rfl Bp.dec (fun h27 => ?_) (fun h27 => ?_)
    · refine WP.skip ?_
      refine thn_n ?_
      refine WP.seq ?_
      refine WP.block ?_
      refine WP.seq ?_
      have hp30 := hp22.drew
      refine WP.quiet (fun w28 => Hp w Non [Res.row g16 [.int .i64 m.Count, .int .i64 m.Client] 24, Res.row g3 [.int .i64 0, .int .i64 0] 24] w28) (by kernel_rfl) hp30 ?_
      have hnehp30 : ∃ wz_, (fun w28 => Hp w Non [Res.row g16 [.int .i64 m.Count, .int .i64 m.Client] 24, Res.row g3 [.int .i64 0, .int .i64 0] 24] w28) wz_ := ⟨_, hp30⟩
      obtain ⟨y33, hy34⟩ : ∃ y, (l)[((k : Int) : Int).toNat]? = some y := ⟨_, List.getElem?_eq_getElem (by omega)⟩
      refine QOPS.batch 6 {} [GTag.val y33, GTag.val m] [0, 1, 4, 5, 6, 20, 24, 25] [.slice a l.length c, .func (.func 18) #[] #[], .pointer (some ⟨g3, 0, none⟩), .pointer (some ⟨g16, 0, none⟩), .int .i64 (k : Int), .func (.func 18) #[] #[], GTag.val y33, GTag.val m] hnehp30 (fun w31 hp32 => QB.mk (.cons (show InB ((k : Int)) (l.length) from ⟨by omega, by omega⟩) (.cons ((hs.at hp32).some (by omega)) (.cons (Ld.add0 (Ld.elN (P := Try.prog) (t := 24) (hs.at hp32).rd 2 (fun _ => rfl) hy34 (o := 0) (cs := [.int .i64 y33.Count, .int .i64 y33.Client]) (by kernel_rfl))) (.cons (show Ld Try.prog w31 24 ⟨g16, 0, none⟩ (GTag.val m) from Ld.rowN (cs := [.int .i64 m.Count, .int .i64 m.Client]) hp32.get0 (by kernel_rfl)) .nil)))) (by kernel_rfl)) (fun b35 => ?_)
      refine QOPS.callV (some 26) [GTag.val y33, GTag.val m] rfl (by kernel_rfl) (fun w36 hp37 => (tag_Compare y33 m _).mono fun _ _ h => ⟨h.1, hp37.step h.2⟩) ?_
      refine QOPS.batch 1 {} [] [0, 1, 4, 5, 6, 27] [.slice a l.length c, .func (.func 18) #[] #[], .pointer (some ⟨g3, 0, none⟩), .pointer (some ⟨g16, 0, none⟩), .int .i64 (k : Int), .bool (decide (0 < (tagCmp y33 m)))] hnehp30 (fun w38 hp39 => QB.mk .nil (by kernel_rfl)) (fun b40 => ?_)
      refine QOPS.nil (fun w41 hp42 => ?_)
      refine thn_n ?_
      refine WP.test (p := 0 < (tagCmp y33 m)) rfl Bp.dec (fun h43 => ?_) (fun h43 => ?_)
      · refine WP.region _ rfl (by kernel_rfl) ?_
        refine OPS.batch 4 {} [GTag.val y33] [0, 1, 4, 5, 6, 31] [.slice a l.length c, .func (.func 18) #[] #[], .pointer (some ⟨g3, 0, none⟩), .pointer (some ⟨g16, 0, none⟩), .int .i64 (k : Int), GTag.val y33] (.cons (show InB ((k : Int)) (l.length) from ⟨by omega, by omega⟩) (.cons ((hs.at hp42).some (by omega)) (.cons (Ld.add0 (Ld.elN (P := Try.prog) (t := 24) (hs.at hp42).rd 2 (fun _ => rfl) hy34 (o := 0) (cs := [.int .i64 y33.Count, .int .i64 y33.Client]) (by kernel_rfl))) .nil))) (by kernel_rfl) (fun b44 => ?_)
        refine OPS.cons (opStep.store0 hp42 rfl [.int .i64 y33.Count, .int .i64 y33.Client] [.int .i64 y33.Count, .int .i64 y33.Client] (by kernel_rfl) (fun w45 hp46 => ?_))
        refine OPS.nil ?_
        refine blk_n ?_
        refine thn_n ?_
        refine WP.pure {} [] [0, 1, 4, 5, 6] [.slice a l.length c, .func (.func 18) #[] #[], .pointer (some ⟨g3, 0, none⟩), .pointer (some ⟨g16, 0, none⟩), .int .i64 ((k : Int) + 1)] (.cons (show Rng .i64 ((k : Int) + 1) from Rng.i64 (by omega)) .nil) (by kernel_rfl) (fun b47 => ?_)
        refine thn_n ?_
        exact ⟨l.length - (k + 1), (by omega), k + 1, y33, rfl, ⟨by omega, by omega, by rw [maxT_step h1 hy34, ← h3, if_pos h43]⟩, by kernel_rfl, hp46⟩
      · refine WP.skip ?_
        refine blk_n ?_
        refine thn_n ?_
        refine WP.pure {} [] [0, 1, 4, 5, 6] [.slice a l.length c, .func (.func 18) #[] #[], .pointer (some ⟨g3, 0, none⟩), .pointer (some ⟨g16, 0, none⟩), .int .i64 ((k : Int) + 1)] (.cons (show Rng .i64 ((k : Int) + 1) from Rng.i64 (by omega)) .nil) (by kernel_rfl) (fun b48 => ?_)
        refine thn_n ?_
        exact ⟨l.length - (k + 1), (by omega), k + 1, m, rfl, ⟨by omega, by omega, by rw [maxT_step h1 hy34, ← h3, if_neg h43]⟩, by kernel_rfl, hp42⟩
    · refine WP.exit ?_
      refine thn_x ?_
      refine thn_x ?_
      refine blk_hit ?_
      refine thn_n ?_
      refine WP.seq ?_
      refine WP.region _ rfl (by kernel_rfl) ?_
      refine OPS.batch 1 {} [GTag.val m] [4, 32] [.pointer (some ⟨g3, 0, none⟩), GTag.val m] (.cons (show Ld Try.prog w21 24 ⟨g16, 0, none⟩ (GTag.val m) from Ld.rowN (cs := [.int .i64 m.Count, .int .i64 m.Client]) hp22.get0 (by kernel_rfl)) .nil) (by kernel_rfl) (fun b49 => ?_)
      refine OPS.cons (opStep.store1 hp22 rfl [.int .i64 m.Count, .int .i64 m.Client] [.int .i64 m.Count, .int .i64 m.Client] (by kernel_rfl) (fun w50 hp51 => ?_))
      refine OPS.nil ?_
      refine thn_n ?_
      refine WP.ret ?_
      refine bodyQ.of _ rfl [GTag.val m] ⟨⟨_, rfl, (show Ld Try.prog w50 24 ⟨g3, 0, none⟩ (GTag.val m) from Ld.rowN (cs := [.int .i64 m.Count, .int .i64 m.Client]) hp51.get1 (by kernel_rfl))⟩, trivial⟩ ?_
      exact ⟨by rw [show maxT l = m from by rw [h3, List.take_of_length_le (by omega)]]; rfl, hp51.fr⟩

theorem tag_Max (l : List GTag) (a : Option Addr) (c : Nat) (w : World) (hs : SlR w a l.length (l.flatMap GTag.cells)) (hb : l.length ≤ 8796093022207) :
    Calls Try.prog 19 #[.slice a l.length c] w (fun x w' => x = .returned (GTag.val (maxT l)) ∧ Fram Non w w') := by
  refine calls_of Try.func19 rfl 9 rfl (by simp) ?_
  have hp0 := Hp.init w
  have he0 : List.map (env0 [.slice a l.length c]) [0] = [.slice a l.length c] := by kernel_rfl
  obtain ⟨b0, he0⟩ := toMk he0
  rw [he0]
  clear he0
  refine WP.seq ?_
  refine WP.region _ rfl (by kernel_rfl) ?_
  refine OPS.cons (opStep.alloc hp0 [.int .i64 0, .int .i64 0] (by kernel_rfl) (fun g3 w1 hp2 => ?_))
  refine OPS.nil ?_
  refine thn_n ?_
  refine WP.seq ?_
  refine WP.seq ?_
  refine WP.pure {} [] [0, 2, 5] [.slice a l.length c, .pointer (some ⟨g3, 0, none⟩), .bool (decide (((l.length : Nat) : Int) = 0))] .nil (by kernel_rfl) (fun b4 => ?_)
  refine thn_n ?_
  refine WP.test (p := ((l.length : Nat) : Int) = 0) rfl Bp.dec (fun h5 => ?_) (fun h5 => ?_)
  · refine WP.seq ?_
    refine WP.region _ rfl (by kernel_rfl) ?_
    refine OPS.batch 1 {} [] [2, 6] [.pointer (some ⟨g3, 0, none⟩), .agg #[.int .i64 0, .int .i64 0]] .nil (by kernel_rfl) (fun b6 => ?_)
    refine OPS.cons (opStep.store0 hp2 rfl [.int .i64 0, .int .i64 0] [.int .i64 0, .int .i64 0] (by kernel_rfl) (fun w7 hp8 => ?_))
    refine OPS.nil ?_
    refine thn_n ?_
    refine WP.ret ?_
    refine thn_r ?_
    refine bodyQ.of _ rfl [.agg #[.int .i64 0, .int .i64 0]] ⟨⟨_, rfl, (show Ld Try.prog w7 24 ⟨g3, 0, none⟩ (.agg #[.int .i64 0, .int .i64 0]) from Ld.rowN (cs := [.int .i64 0, .int .i64 0]) hp8.get0 (by kernel_rfl))⟩, trivial⟩ ?_
    exact ⟨by first | rfl | (rw [show l = [] from List.eq_nil_of_length_eq_zero (by omega)]; rfl), hp8.fr⟩
  · refine WP.skip ?_
    refine thn_n ?_
    refine WP.seq ?_
    refine WP.region _ rfl (by kernel_rfl) ?_
    refine OPS.batch 1 {} [] [2, 7] [.pointer (some ⟨g3, 0, none⟩), .slice a l.length c] .nil (by kernel_rfl) (fun b9 => ?_)
    refine OPS.cons (opStep.call (some 8) [.slice a l.length c, .func (.func 18) #[] #[]] (by kernel_rfl) (maxFunc l _ c _ (hs.at hp2) (by omega) (by omega)) ?_)
    rintro _ w12 ⟨rfl, hf13⟩
    refine ⟨_, rfl, ?_⟩
    have hp14 := hp2.step hf13
    refine OPS.cons (opStep.store0 hp14 rfl [.int .i64 ((maxT l).Count), .int .i64 ((maxT l).Client)] [.int .i64 ((maxT l).Count), .int .i64 ((maxT l).Client)] (by kernel_rfl) (fun w15 hp16 => ?_))
    refine OPS.nil ?_
    refine thn_n ?_
    refine WP.ret ?_
    refine bodyQ.of _ rfl [GTag.val (maxT l)] ⟨⟨_, rfl, (show Ld Try.prog w15 24 ⟨g3, 0, none⟩ (GTag.val (maxT l)) from Ld.rowN (cs := [.int .i64 ((maxT l).Count), .int .i64 ((maxT l).Client)]) hp16.get0 (by kernel_rfl))⟩, trivial⟩ ?_
    exact ⟨by first | rfl | (rw [show l = [] from List.eq_nil_of_length_eq_zero (by omega)]; rfl), hp16.fr⟩

theorem tagCmp_cases (a b : GTag) : ((a.Count < b.Count ∨ a.Count = b.Count ∧ a.Client < b.Client) ∧ tagCmp a b = -1) ∨ ((a.Count = b.Count ∧ a.Client = b.Client) ∧ tagCmp a b = 0) ∨ ((b.Count < a.Count ∨ a.Count = b.Count ∧ b.Client < a.Client) ∧ tagCmp a b = 1) := by
  unfold tagCmp cmpI
  split <;> (split at * <;> (try split at *)) <;> (try split) <;> (try split) <;> omega
theorem maxT_three (a b c : GTag) : (maxT [a, b, c] = a ∨ maxT [a, b, c] = b ∨ maxT [a, b, c] = c) ∧ 0 ≤ tagCmp (maxT [a, b, c]) a ∧ 0 ≤ tagCmp (maxT [a, b, c]) b ∧ 0 ≤ tagCmp (maxT [a, b, c]) c := by
  have h1 := tagCmp_cases a b
  have h2 := tagCmp_cases b a
  have h3 := tagCmp_cases a c
  have h4 := tagCmp_cases c a
  have h5 := tagCmp_cases b c
  have h6 := tagCmp_cases c b
  have h7 := tagCmp_cases a a
  have h8 := tagCmp_cases b b
  have h9 := tagCmp_cases c c
  simp only [maxT, List.foldl_cons, List.foldl_nil]
  split <;> split <;> refine ⟨by simp, ?_, ?_, ?_⟩ <;> omega

theorem TagOrder (a b c : GTag) (w : World) :
    Calls Try.prog 4 #[GTag.val a, GTag.val b, GTag.val c] w (fun x w' => x = .returned (.bool true) ∧ Fram Non w w') := by
  have q1 := tagCmp_cases a b
  have q2 := tagCmp_cases b a
  have q3 := tagCmp_cases b c
  have q4 := tagCmp_cases a c
  have q5 := tagCmp_cases a a
  have q6 := tagCmp_cases (⟨0, 0⟩ : GTag) a
  have q7 : tagCmp ⟨2, 1⟩ ⟨1, 9⟩ = 1 := by decide
  have q8 := maxT_three a b c
  have hm0 : maxT [] = ⟨0, 0⟩ := rfl
  have q9 : ((maxT [a, b, c]).Count = a.Count ∧ (maxT [a, b, c]).Client = a.Client) ∨ ((maxT [a, b, c]).Count = b.Count ∧ (maxT [a, b, c]).Client = b.Client) ∨ ((maxT [a, b, c]).Count = c.Count ∧ (maxT [a, b, c]).Client = c.Client) := by rcases q8.1 with h | h | h <;> simp [h]
  refine calls_of Try.func4 rfl 130 rfl (by simp) ?_
  have hp0 := Hp.init w
  have he0 : List.map (env0 [GTag.val a, GTag.val b, GTag.val c]) [0, 1, 2] = [GTag.val a, GTag.val b, GTag.val c] := by kernel_rfl
  obtain ⟨b0, he0⟩ := toMk he0
  rw [he0]
  clear he0
  refine WP.seq ?_
  refine WP.region _ rfl (by kernel_rfl) ?_
  refine OPS.cons (opStep.box hp0 [.int .i64 a.Count, .int .i64 a.Client] (by kernel_rfl) (fun g3 w1 hp2 => ?_))
  refine OPS.cons (opStep.box hp2 [.int .i64 b.Count, .int .i64 b.Client] (by kernel_rfl) (fun g6 w4 hp5 => ?_))
  refine OPS.cons (opStep.box hp5 [.int .i64 c.Count, .int .i64 c.Client] (by kernel_rfl) (fun g9 w7 hp8 => ?_))
  refine OPS.batch 1 {} [] [3, 4, 5] [.pointer (some ⟨g3, 0, none⟩), .pointer (some ⟨g6, 0, none⟩), .pointer (some ⟨g9, 0, none⟩)] .nil (by kernel_rfl) (fun b10 => ?_)
  refine OPS.nil ?_
  refine thn_n ?_
  refine WP.seq ?_
  refine WP.region _ rfl (by kernel_rfl) ?_
  refine OPS.batch 2 {} [GTag.val a, GTag.val b] [3, 4, 5, 11, 12] [.pointer (some ⟨g3, 0, none⟩), .pointer (some ⟨g6, 0, none⟩), .pointer (some ⟨g9, 0, none⟩), GTag.val a, GTag.val b] (.cons (show Ld Try.prog w7 24 ⟨g3, 0, none⟩ (GTag.val a) from Ld.rowN (cs := [.int .i64 a.Count, .int .i64 a.Client]) hp8.get2 (by kernel_rfl)) (.cons (show Ld Try.prog w7 24 ⟨g6, 0, none⟩ (GTag.val b) from Ld.rowN (cs := [.int .i64 b.Count, .int .i64 b.Client]) hp8.get1 (by kernel_rfl)) .nil)) (by kernel_rfl) (fun b11 => ?_)
  refine OPS.cons (opStep.call (some 13) [GTag.val a, GTag.val b] (by kernel_rfl) (tag_Compare a b _) ?_)
  rintro _ w14 ⟨rfl, hf15⟩
  refine ⟨_, rfl, ?_⟩
  have hp16 := hp8.step hf15
  refine OPS.batch 1 {} [] [3, 4, 5, 7] [.pointer (some ⟨g3, 0, none⟩), .pointer (some ⟨g6, 0, none⟩), .pointer (some ⟨g9, 0, none⟩), .int .i64 (tagCmp a b)] .nil (by kernel_rfl) (fun b17 => ?_)
  refine OPS.nil ?_
  refine thn_n ?_
  refine WP.seq ?_
  refine WP.region _ rfl (by kernel_rfl) ?_
  refine OPS.batch 2 {} [GTag.val b, GTag.val c] [3, 4, 5, 7, 14, 15] [.pointer (some ⟨g3, 0, none⟩), .pointer (some ⟨g6, 0, none⟩), .pointer (some ⟨g9, 0, none⟩), .int .i64 (tagCmp a b), GTag.val b, GTag.val c] (.cons (show Ld Try.prog w14 24 ⟨g6, 0, none⟩ (GTag.val b) from Ld.rowN (cs := [.int .i64 b.Count, .int .i64 b.Client]) hp16.get1 (by kernel_rfl)) (.cons (show Ld Try.prog w14 24 ⟨g9, 0, none⟩ (GTag.val c) from Ld.rowN (cs := [.int .i64 c.Count, .int .i64 c.Client]) hp16.get0 (by kernel_rfl)) .nil)) (by kernel_rfl) (fun b18 => ?_)
  refine OPS.cons (opStep.call (some 16) [GTag.val b, GTag.val c] (by kernel_rfl) (tag_Compare b c _) ?_)
  rintro _ w21 ⟨rfl, hf22⟩
  refine ⟨_, rfl, ?_⟩
  have hp23 := hp16.step hf22
  refine OPS.batch 1 {} [] [3, 4, 5, 7, 8] [.pointer (some ⟨g3, 0, none⟩), .pointer (some ⟨g6, 0, none⟩), .pointer (some ⟨g9, 0, none⟩), .int .i64 (tagCmp a b), .int .i64 (tagCmp b c)] .nil (by kernel_rfl) (fun b24 => ?_)
  refine OPS.nil ?_
  refine thn_n ?_
  refine WP.seq ?_
  refine WP.region _ rfl (by kernel_rfl) ?_
  refine OPS.batch 2 {} [GTag.val a, GTag.val c] [3, 4, 5, 7, 8, 17, 18] [.pointer (some ⟨g3, 0, none⟩), .pointer (some ⟨g6, 0, none⟩), .pointer (some ⟨g9, 0, none⟩), .int .i64 (tagCmp a b), .int .i64 (tagCmp b c), GTag.val a, GTag.val c] (.cons (show Ld Try.prog w21 24 ⟨g3, 0, none⟩ (GTag.val a) from Ld.rowN (cs := [.int .i64 a.Count, .int .i64 a.Client]) hp23.get2 (by kernel_rfl)) (.cons (show Ld Try.prog w21 24 ⟨g9, 0, none⟩ (GTag.val c) from Ld.rowN (cs := [.int .i64 c.Count, .int .i64 c.Client]) hp23.get0 (by kernel_rfl)) .nil)) (by kernel_rfl) (fun b25 => ?_)
  refine OPS.cons (opStep.call (some 19) [GTag.val a, GTag.val c] (by kernel_rfl) (tag_Compare a c _) ?_)
  rintro _ w28 ⟨rfl, hf29⟩
  refine ⟨_, rfl, ?_⟩
  have hp30 := hp23.step hf29
  refine OPS.batch 1 {} [] [3, 4, 5, 7, 8, 9] [.pointer (some ⟨g3, 0, none⟩), .pointer (some ⟨g6, 0, none⟩), .pointer (some ⟨g9, 0, none⟩), .int .i64 (tagCmp a b), .int .i64 (tagCmp b c), .int .i64 (tagCmp a c)] .nil (by kernel_rfl) (fun b31 => ?_)
  refine OPS.nil ?_
  refine thn_n ?_
  refine WP.seq ?_
  refine WP.cut (fun e60 w61 => ∃ (x58 : Bool), (True) ∧ Bp x58 (((¬ ((tagCmp a a) = 0))) ∨ (((tagCmp a a) = 0) ∧ (¬ ((tagCmp b a) = (-(tagCmp a b))))) ∨ (((tagCmp a a) = 0) ∧ ((tagCmp b a) = (-(tagCmp a b))) ∧ (¬ ((((tagCmp a b) = 0) ↔ ((a.Count = b.Count) ∧ (a.Client = b.Client)))))) ∨ (((tagCmp a a) = 0) ∧ ((tagCmp b a) = (-(tagCmp a b))) ∧ (((tagCmp a b) = 0) ↔ ((a.Count = b.Count) ∧ (a.Client = b.Client))) ∧ (a.Count < b.Count) ∧ (¬ ((tagCmp a b) = (-1))))) ∧ List.map e60 [3, 4, 5, 7, 8, 9, 50] = [.pointer (some ⟨g3, 0, none⟩), .pointer (some ⟨g6, 0, none⟩), .pointer (some ⟨g9, 0, none⟩), .int .i64 (tagCmp a b), .int .i64 (tagCmp b c), .int .i64 (tagCmp a c), .bool x58] ∧ Hp w Non [Res.row g9 [.int .i64 c.Count, .int .i64 c.Client] 24, Res.row g6 [.int .i64 b.Count, .int .i64 b.Client] 24, Res.row g3 [.int .i64 a.Count, .int .i64 a.Client] 24] w61) ?_ ?_
  · refine WP.region _ rfl (by kernel_rfl) ?_
    refine OPS.batch 2 {} [GTag.val a, GTag.val a] [3, 4, 5, 7, 8, 9, 20, 21] [.pointer (some ⟨g3, 0, none⟩), .pointer (some ⟨g6, 0, none⟩), .pointer (some ⟨g9, 0, none⟩), .int .i64 (tagCmp a b), .int .i64 (tagCmp b c), .int .i64 (tagCmp a c), GTag.val a, GTag.val a] (.cons (show Ld Try.prog w28 24 ⟨g3, 0, none⟩ (GTag.val a) from Ld.rowN (cs := [.int .i64 a.Count, .int .i64 a.Client]) hp30.get2 (by kernel_rfl)) (.cons (show Ld Try.prog w28 24 ⟨g3, 0, none⟩ (GTag.val a) from Ld.rowN (cs := [.int .i64 a.Count, .int .i64 a.Client]) hp30.get2 (by kernel_rfl)) .nil)) (by kernel_rfl) (fun b33 => ?_)
    refine OPS.cons (opStep.call (some 22) [GTag.val a, GTag.val a] (by kernel_rfl) (tag_Compare a a _) ?_)
    rintro _ w36 ⟨rfl, hf37⟩
    refine ⟨_, rfl, ?_⟩
    have hp38 := hp30.step hf37
    refine OPS.batch 2 {} [] [3, 4, 5, 7, 8, 9, 24] [.pointer (some ⟨g3, 0, none⟩), .pointer (some ⟨g6, 0, none⟩), .pointer (some ⟨g9, 0, none⟩), .int .i64 (tagCmp a b), .int .i64 (tagCmp b c), .int .i64 (tagCmp a c), .bool (decide (¬ ((tagCmp a a) = 0)))] .nil (by kernel_rfl) (fun b39 => ?_)
    by_cases h40 : (tagCmp a a) = 0
    · rw [show (decide (¬ ((tagCmp a a) = 0))) = false from Bp.dec.ff (fun k => k h40)]
      refine OPS.batch 2 {} [GTag.val b, GTag.val a] [3, 4, 5, 7, 8, 9, 24, 25, 26] [.pointer (some ⟨g3, 0, none⟩), .pointer (some ⟨g6, 0, none⟩), .pointer (some ⟨g9, 0, none⟩), .int .i64 (tagCmp a b), .int .i64 (tagCmp b c), .int .i64 (tagCmp a c), .bool false, GTag.val b, GTag.val a] (.cons (show Ld Try.prog w36 24 ⟨g6, 0, none⟩ (GTag.val b) from Ld.rowN (cs := [.int .i64 b.Count, .int .i64 b.Client]) hp38.get1 (by kernel_rfl)) (.cons (show Ld Try.prog w36 24 ⟨g3, 0, none⟩ (GTag.val a) from Ld.rowN (cs := [.int .i64 a.Count, .int .i64 a.Client]) hp38.get2 (by kernel_rfl)) .nil)) (by kernel_rfl) (fun b42 => ?_)
      refine OPS.want (by kernel_rfl) ?_
      refine OPS.cons (opStep.call (some 27) [GTag.val b, GTag.val a] (by kernel_rfl) (tag_Compare b a _) ?_)
      rintro _ w45 ⟨rfl, hf46⟩
      refine ⟨_, rfl, ?_⟩
      have hp47 := hp38.step hf46
      refine OPS.batch 5 { wraps := [31] } [] [3, 4, 5, 7, 8, 9, 32] [.pointer (some ⟨g3, 0, none⟩), .pointer (some ⟨g6, 0, none⟩), .pointer (some ⟨g9, 0, none⟩), .int .i64 (tagCmp a b), .int .i64 (tagCmp b c), .int .i64 (tagCmp a c), .bool (decide (¬ ((tagCmp b a) = (-(tagCmp a b)))))] (.cons (show Rng .i64 (-(tagCmp a b)) from Rng.i64 (by omega)) .nil) (by kernel_rfl) (fun b48 => ?_)
      by_cases h49 : (tagCmp b a) = (-(tagCmp a b))
      · rw [show (decide (¬ ((tagCmp b a) = (-(tagCmp a b))))) = false from Bp.dec.ff (fun k => k h49)]
        refine OPS.batch 8 { wraps := [39] } [GTag.val a, GTag.val b] [3, 4, 5, 7, 8, 9, 40] [.pointer (some ⟨g3, 0, none⟩), .pointer (some ⟨g6, 0, none⟩), .pointer (some ⟨g9, 0, none⟩), .int .i64 (tagCmp a b), .int .i64 (tagCmp b c), .int .i64 (tagCmp a c), .bool (!((decide ((tagCmp a b) = 0)) == ((decide (a.Count = b.Count)) && ((decide (a.Client = b.Client)) && true))))] (.cons (show Ld Try.prog w45 24 ⟨g3, 0, none⟩ (GTag.val a) from Ld.rowN (cs := [.int .i64 a.Count, .int .i64 a.Client]) hp47.get2 (by kernel_rfl)) (.cons (show Ld Try.prog w45 24 ⟨g6, 0, none⟩ (GTag.val b) from Ld.rowN (cs := [.int .i64 b.Count, .int .i64 b.Client]) hp47.get1 (by kernel_rfl)) .nil)) (by kernel_rfl) (fun b51 => ?_)
        by_cases h52 : (((tagCmp a b) = 0) ↔ ((a.Count = b.Count) ∧ (a.Client = b.Client)))
        · rw [show (!((decide ((tagCmp a b) = 0)) == ((decide (a.Count = b.Count)) && ((decide (a.Client = b.Client)) && true)))) = false from (Bp.not (Bp.beq Bp.dec (Bp.band Bp.dec (Bp.band1 Bp.dec)))).ff (fun k => k h52)]
          refine OPS.batch 6 {} [.int .i64 a.Count, .int .i64 b.Count] [3, 4, 5, 7, 8, 9, 40, 46] [.pointer (some ⟨g3, 0, none⟩), .pointer (some ⟨g6, 0, none⟩), .pointer (some ⟨g9, 0, none⟩), .int .i64 (tagCmp a b), .int .i64 (tagCmp b c), .int .i64 (tagCmp a c), .bool false, .bool (decide (a.Count < b.Count))] (.cons (Ld.row1 (P := Try.prog) (t := 2) (o := 0) (v := .int .i64 a.Count) hp47.get2 (by kernel_rfl)) (.cons (Ld.row1 (P := Try.prog) (t := 2) (o := 0) (v := .int .i64 b.Count) hp47.get1 (by kernel_rfl)) .nil)) (by kernel_rfl) (fun b54 => ?_)
          by_cases h55 : a.Count < b.Count
          · rw [show (decide (a.Count < b.Count)) = true from Bp.dec.tt h55]
            refine OPS.batch 4 { wraps := [49, 50] } [] [3, 4, 5, 7, 8, 9, 50] [.pointer (some ⟨g3, 0, none⟩), .pointer (some ⟨g6, 0, none⟩), .pointer (some ⟨g9, 0, none⟩), .int .i64 (tagCmp a b), .int .i64 (tagCmp b c), .int .i64 (tagCmp a c), .bool (decide (¬ ((tagCmp a b) = (-1))))] .nil (by kernel_rfl) (fun b56 => ?_)
            refine OPS.nil ?_
            refine thn_n ?_
            exact ⟨decide (¬ ((tagCmp a b) = (-1))), trivial, Bp.of Bp.dec (by simp [h40, h49, h52, h55]), by kernel_rfl, hp47⟩
          · rw [show (decide (a.Count < b.Count)) = false from Bp.dec.ff h55]
            refine OPS.batch 4 { wraps := [49, 50] } [] [3, 4, 5, 7, 8, 9, 50] [.pointer (some ⟨g3, 0, none⟩), .pointer (some ⟨g6, 0, none⟩), .pointer (some ⟨g9, 0, none⟩), .int .i64 (tagCmp a b), .int .i64 (tagCmp b c), .int .i64 (tagCmp a c), .bool false] .nil (by kernel_rfl) (fun b57 => ?_)
            refine OPS.nil ?_
            refine thn_n ?_
            exact ⟨false, trivial, Bp.of Bp.f (by simp [h40, h49, h52, h55]), by kernel_rfl, hp47⟩
        · rw [show (!((decide ((tagCmp a b) = 0)) == ((decide (a.Count = b.Count)) && ((decide (a.Client = b.Client)) && true)))) = true from (Bp.not (Bp.beq Bp.dec (Bp.band Bp.dec (Bp.band1 Bp.dec)))).tt h52]
          refine OPS.batch 10 { wraps := [50] } [] [3, 4, 5, 7, 8, 9, 50] [.pointer (some ⟨g3, 0, none⟩), .pointer (some ⟨g6, 0, none⟩), .pointer (some ⟨g9, 0, none⟩), .int .i64 (tagCmp a b), .int .i64 (tagCmp b c), .int .i64 (tagCmp a c), .bool true] .nil (by kernel_rfl) (fun b53 => ?_)
          refine OPS.nil ?_
          refine thn_n ?_
          exact ⟨true, trivial, Bp.of Bp.t (by simp [h40, h49, h52]), by kernel_rfl, hp47⟩
      · rw [show (decide (¬ ((tagCmp b a) = (-(tagCmp a b))))) = true from Bp.dec.tt h49]
        refine OPS.batch 18 { wraps := [39, 50] } [] [3, 4, 5, 7, 8, 9, 50] [.pointer (some ⟨g3, 0, none⟩), .pointer (some ⟨g6, 0, none⟩), .pointer (some ⟨g9, 0, none⟩), .int .i64 (tagCmp a b), .int .i64 (tagCmp b c), .int .i64 (tagCmp a c), .bool true] .nil (by kernel_rfl) (fun b50 => ?_)
        refine OPS.nil ?_
        refine thn_n ?_
        exact ⟨true, trivial, Bp.of Bp.t (by simp [h40, h49]), by kernel_rfl, hp47⟩
    · rw [show (decide (¬ ((tagCmp a a) = 0))) = true from Bp.dec.tt h40]
      refine OPS.batch 26 { wraps := [31, 39, 50] } [] [3, 4, 5, 7, 8, 9, 50] [.pointer (some ⟨g3, 0, none⟩), .pointer (some ⟨g6, 0, none⟩), .pointer (some ⟨g9, 0, none⟩), .int .i64 (tagCmp a b), .int .i64 (tagCmp b c), .int .i64 (tagCmp a c), .bool true] .nil (by kernel_rfl) (fun b41 => ?_)
      refine OPS.nil ?_
      refine thn_n ?_
      exact ⟨true, trivial, Bp.of Bp.t (by simp [h40]), by kernel_rfl, hp38⟩
  rintro e60 w61 ⟨x58, hd63, hb59, hE64, hp62⟩
  obtain ⟨b65, rfl⟩ := toMk hE64
  clear hE64
  clear hd63
  refine WP.test (p := ((¬ ((tagCmp a a) = 0))) ∨ (((tagCmp a a) = 0) ∧ (¬ ((tagCmp b a) = (-(tagCmp a b))))) ∨ (((tagCmp a a) = 0) ∧ ((tagCmp b a) = (-(tagCmp a b))) ∧ (¬ ((((tagCmp a b) = 0) ↔ ((a.Count = b.Count) ∧ (a.Client = b.Client)))))) ∨ (((tagCmp a a) = 0) ∧ ((tagCmp b a) = (-(tagCmp a b))) ∧ (((tagCmp a b) = 0) ↔ ((a.Count = b.Count) ∧ (a.Client = b.Client))) ∧ (a.Count < b.Count) ∧ (¬ ((tagCmp a b) = (-1))))) rfl hb59 (fun h66 => ?_) (fun h66 => ?_)
  · refine WP.seq ?_
    refine WP.pure {} [] [6] [.bool false] .nil (by kernel_rfl) (fun b67 => ?_)
    refine thn_n ?_
    refine WP.ret ?_
    refine thn_r ?_
    refine bodyQ.of _ rfl [.bool false] ⟨rfl, trivial⟩ ?_
    exfalso
    (simp only [tagValid, tagProper, tagZero, hm0, iff_false, false_iff, iff_true, true_iff, Classical.not_not, and_true, true_and, and_false, false_and, or_true, true_or, or_false, false_or, not_true_eq_false, not_false_eq_true, and_self, or_self] at *; omega)
  · refine WP.skip ?_
    refine thn_n ?_
    refine WP.seq ?_
    refine WP.cut (fun e84 w85 => ∃ (x82 : Bool), (True) ∧ Bp x82 ((((tagCmp a b) ≤ 0) ∧ ((tagCmp b c) ≤ 0) ∧ (0 < (tagCmp a c))) ∨ (((tagCmp a b) ≤ 0) ∧ ((tagCmp b c) ≤ 0) ∧ (¬ (0 < (tagCmp a c))) ∧ ((tagCmp a b) = 0) ∧ (¬ ((((tagCmp a c) = 0) ↔ ((tagCmp b c) = 0))))) ∨ (((tagCmp a b) ≤ 0) ∧ ((tagCmp b c) ≤ 0) ∧ (¬ (0 < (tagCmp a c))) ∧ (¬ ((tagCmp a b) = 0)) ∧ (¬ ((((tagCmp a c) = 0) ↔ (False)))))) ∧ List.map e84 [3, 4, 5, 71] = [.pointer (some ⟨g3, 0, none⟩), .pointer (some ⟨g6, 0, none⟩), .pointer (some ⟨g9, 0, none⟩), .bool x82] ∧ Hp w Non [Res.row g9 [.int .i64 c.Count, .int .i64 c.Client] 24, Res.row g6 [.int .i64 b.Count, .int .i64 b.Client] 24, Res.row g3 [.int .i64 a.Count, .int .i64 a.Client] 24] w85) ?_ ?_
    · refine WP.region _ rfl (by kernel_rfl) ?_
      refine OPS.batch 3 {} [] [3, 4, 5, 7, 8, 9, 53] [.pointer (some ⟨g3, 0, none⟩), .pointer (some ⟨g6, 0, none⟩), .pointer (some ⟨g9, 0, none⟩), .int .i64 (tagCmp a b), .int .i64 (tagCmp b c), .int .i64 (tagCmp a c), .bool (decide ((tagCmp a b) ≤ 0))] .nil (by kernel_rfl) (fun b69 => ?_)
      by_cases h70 : (tagCmp a b) ≤ 0
      · rw [show (decide ((tagCmp a b) ≤ 0)) = true from Bp.dec.tt h70]
        refine OPS.batch 4 { wraps := [56] } [] [3, 4, 5, 7, 8, 9, 57] [.pointer (some ⟨g3, 0, none⟩), .pointer (some ⟨g6, 0, none⟩), .pointer (some ⟨g9, 0, none⟩), .int .i64 (tagCmp a b), .int .i64 (tagCmp b c), .int .i64 (tagCmp a c), .bool (decide ((tagCmp b c) ≤ 0))] .nil (by kernel_rfl) (fun b71 => ?_)
        by_cases h72 : (tagCmp b c) ≤ 0
        · rw [show (decide ((tagCmp b c) ≤ 0)) = true from Bp.dec.tt h72]
          refine OPS.batch 3 {} [] [3, 4, 5, 7, 8, 9, 57, 60] [.pointer (some ⟨g3, 0, none⟩), .pointer (some ⟨g6, 0, none⟩), .pointer (some ⟨g9, 0, none⟩), .int .i64 (tagCmp a b), .int .i64 (tagCmp b c), .int .i64 (tagCmp a c), .bool true, .bool (decide (0 < (tagCmp a c)))] .nil (by kernel_rfl) (fun b73 => ?_)
          by_cases h74 : 0 < (tagCmp a c)
          · rw [show (decide (0 < (tagCmp a c))) = true from Bp.dec.tt h74]
            refine OPS.batch 11 { wraps := [70, 71] } [] [3, 4, 5, 71] [.pointer (some ⟨g3, 0, none⟩), .pointer (some ⟨g6, 0, none⟩), .pointer (some ⟨g9, 0, none⟩), .bool true] .nil (by kernel_rfl) (fun b75 => ?_)
            refine OPS.nil ?_
            refine thn_n ?_
            exact ⟨true, trivial, Bp.of Bp.t (by simp [h70, h72, h74]), by kernel_rfl, hp62⟩
          · rw [show (decide (0 < (tagCmp a c))) = false from Bp.dec.ff h74]
            refine OPS.batch 5 {} [] [3, 4, 5, 8, 57, 60, 62, 65] [.pointer (some ⟨g3, 0, none⟩), .pointer (some ⟨g6, 0, none⟩), .pointer (some ⟨g9, 0, none⟩), .int .i64 (tagCmp b c), .bool true, .bool false, .bool (decide ((tagCmp a c) = 0)), .bool (decide ((tagCmp a b) = 0))] .nil (by kernel_rfl) (fun b76 => ?_)
            by_cases h77 : (tagCmp a b) = 0
            · rw [show (decide ((tagCmp a b) = 0)) = true from Bp.dec.tt h77]
              refine OPS.batch 6 { wraps := [68, 70, 71] } [] [3, 4, 5, 71] [.pointer (some ⟨g3, 0, none⟩), .pointer (some ⟨g6, 0, none⟩), .pointer (some ⟨g9, 0, none⟩), .bool (!((decide ((tagCmp a c) = 0)) == (decide ((tagCmp b c) = 0))))] .nil (by kernel_rfl) (fun b78 => ?_)
              refine OPS.nil ?_
              refine thn_n ?_
              exact ⟨!((decide ((tagCmp a c) = 0)) == (decide ((tagCmp b c) = 0))), trivial, Bp.of (Bp.not (Bp.beq Bp.dec Bp.dec)) (by simp [h70, h72, h74, h77]), by kernel_rfl, hp62⟩
            · rw [show (decide ((tagCmp a b) = 0)) = false from Bp.dec.ff h77]
              refine OPS.batch 6 { wraps := [68, 70, 71] } [] [3, 4, 5, 71] [.pointer (some ⟨g3, 0, none⟩), .pointer (some ⟨g6, 0, none⟩), .pointer (some ⟨g9, 0, none⟩), .bool (!((decide ((tagCmp a c) = 0)) == false))] .nil (by kernel_rfl) (fun b79 => ?_)
              refine OPS.nil ?_
              refine thn_n ?_
              exact ⟨!((decide ((tagCmp a c) = 0)) == false), trivial, Bp.of (Bp.not (Bp.beq Bp.dec Bp.f)) (by simp [h70, h72, h74, h77]), by kernel_rfl, hp62⟩
        · rw [show (decide ((tagCmp b c) ≤ 0)) = false from Bp.dec.ff h72]
          refine OPS.batch 14 { wraps := [71] } [] [3, 4, 5, 71] [.pointer (some ⟨g3, 0, none⟩), .pointer (some ⟨g6, 0, none⟩), .pointer (some ⟨g9, 0, none⟩), .bool false] .nil (by kernel_rfl) (fun b80 => ?_)
          refine OPS.nil ?_
          refine thn_n ?_
          exact ⟨false, trivial, Bp.of Bp.f (by simp [h70, h72]), by kernel_rfl, hp62⟩
      · rw [show (decide ((tagCmp a b) ≤ 0)) = false from Bp.dec.ff h70]
        refine OPS.batch 18 { wraps := [56, 71] } [] [3, 4, 5, 71] [.pointer (some ⟨g3, 0, none⟩), .pointer (some ⟨g6, 0, none⟩), .pointer (some ⟨g9, 0, none⟩), .bool false] .nil (by kernel_rfl) (fun b81 => ?_)
        refine OPS.nil ?_
        refine thn_n ?_
        exact ⟨false, trivial, Bp.of Bp.f (by simp [h70]), by kernel_rfl, hp62⟩
    rintro e84 w85 ⟨x82, hd87, hb83, hE88, hp86⟩
    obtain ⟨b89, rfl⟩ := toMk hE88
    clear hE88
    clear hd87
    refine WP.test (p := (((tagCmp a b) ≤ 0) ∧ ((tagCmp b c) ≤ 0) ∧ (0 < (tagCmp a c))) ∨ (((tagCmp a b) ≤ 0) ∧ ((tagCmp b c) ≤ 0) ∧ (¬ (0 < (tagCmp a c))) ∧ ((tagCmp a b) = 0) ∧ (¬ ((((tagCmp a c) = 0) ↔ ((tagCmp b c) = 0))))) ∨ (((tagCmp a b) ≤ 0) ∧ ((tagCmp b c) ≤ 0) ∧ (¬ (0 < (tagCmp a c))) ∧ (¬ ((tagCmp a b) = 0)) ∧ (¬ ((((tagCmp a c) = 0) ↔ (False)))))) rfl hb83 (fun h90 => ?_) (fun h90 => ?_)
    · refine WP.seq ?_
      refine WP.pure {} [] [6] [.bool false] .nil (by kernel_rfl) (fun b91 => ?_)
      refine thn_n ?_
      refine WP.ret ?_
      refine thn_r ?_
      refine bodyQ.of _ rfl [.bool false] ⟨rfl, trivial⟩ ?_
      exfalso
      first | (clear h66; (simp only [tagValid, tagProper, tagZero, hm0, iff_false, false_iff, iff_true, true_iff, Classical.not_not, and_true, true_and, and_false, false_and, or_true, true_or, or_false, false_or, not_true_eq_false, not_false_eq_true, and_self, or_self] at *; omega)) | (simp only [tagValid, tagProper, tagZero, hm0, iff_false, false_iff, iff_true, true_iff, Classical.not_not, and_true, true_and, and_false, false_and, or_true, true_or, or_false, false_or, not_true_eq_false, not_false_eq_true, and_self, or_self] at *; omega)
    · refine WP.skip ?_
      refine thn_n ?_
      refine WP.seq ?_
      refine WP.cut (fun e124 w125 => ∃ (x122 : Bool), (True) ∧ Bp x122 ((tagValid a) ∧ (¬ (tagZero a)) ∧ (¬ ((tagCmp (⟨0, 0⟩ : GTag) a) = (-1)))) ∧ List.map e124 [3, 4, 5, 84] = [.pointer (some ⟨g3, 0, none⟩), .pointer (some ⟨g6, 0, none⟩), .pointer (some ⟨g9, 0, none⟩), .bool x122] ∧ Hp w Non [Res.row g9 [.int .i64 c.Count, .int .i64 c.Client] 24, Res.row g6 [.int .i64 b.Count, .int .i64 b.Client] 24, Res.row g3 [.int .i64 a.Count, .int .i64 a.Client] 24] w125) ?_ ?_
      · refine WP.region _ rfl (by kernel_rfl) ?_
        refine OPS.batch 1 {} [GTag.val a] [3, 4, 5, 72] [.pointer (some ⟨g3, 0, none⟩), .pointer (some ⟨g6, 0, none⟩), .pointer (some ⟨g9, 0, none⟩), GTag.val a] (.cons (show Ld Try.prog w85 24 ⟨g3, 0, none⟩ (GTag.val a) from Ld.rowN (cs := [.int .i64 a.Count, .int .i64 a.Client]) hp86.get2 (by kernel_rfl)) .nil) (by kernel_rfl) (fun b93 => ?_)
        refine OPS.cons (opStep.call (some 73) [GTag.val a] (by kernel_rfl) (tag_Valid a _) ?_)
        rintro _ w96 ⟨b99, rfl, hb100, hf97⟩
        refine ⟨_, rfl, ?_⟩
        have hp98 := hp86.step hf97
        refine OPS.batch 1 {} [] [3, 4, 5, 74] [.pointer (some ⟨g3, 0, none⟩), .pointer (some ⟨g6, 0, none⟩), .pointer (some ⟨g9, 0, none⟩), .bool b99] .nil (by kernel_rfl) (fun b101 => ?_)
        by_cases h102 : tagValid a
        · rw [show b99 = true from hb100.tt h102]
          refine OPS.batch 1 {} [GTag.val a] [3, 4, 5, 74, 75] [.pointer (some ⟨g3, 0, none⟩), .pointer (some ⟨g6, 0, none⟩), .pointer (some ⟨g9, 0, none⟩), .bool true, GTag.val a] (.cons (show Ld Try.prog w96 24 ⟨g3, 0, none⟩ (GTag.val a) from Ld.rowN (cs := [.int .i64 a.Count, .int .i64 a.Client]) hp98.get2 (by kernel_rfl)) .nil) (by kernel_rfl) (fun b103 => ?_)
          refine OPS.want (by kernel_rfl) ?_
          refine OPS.cons (opStep.call (some 76) [GTag.val a] (by kernel_rfl) (tag_Zero a _) ?_)
          rintro _ w106 ⟨b109, rfl, hb110, hf107⟩
          refine ⟨_, rfl, ?_⟩
          have hp108 := hp98.step hf107
          refine OPS.batch 3 { wraps := [78] } [] [3, 4, 5, 79] [.pointer (some ⟨g3, 0, none⟩), .pointer (some ⟨g6, 0, none⟩), .pointer (some ⟨g9, 0, none⟩), .bool (!b109)] .nil (by kernel_rfl) (fun b111 => ?_)
          by_cases h112 : tagZero a
          · rw [show (!b109) = false from (Bp.not hb110).ff (fun k => k h112)]
            refine OPS.batch 5 { wraps := [84] } [] [3, 4, 5, 84] [.pointer (some ⟨g3, 0, none⟩), .pointer (some ⟨g6, 0, none⟩), .pointer (some ⟨g9, 0, none⟩), .bool false] .nil (by kernel_rfl) (fun b120 => ?_)
            refine OPS.nil ?_
            refine thn_n ?_
            exact ⟨false, trivial, Bp.of Bp.f (by simp [h102, h112]), by kernel_rfl, hp108⟩
          · rw [show (!b109) = true from (Bp.not hb110).tt h112]
            refine OPS.batch 2 {} [GTag.val a] [3, 4, 5, 79, 80, 81] [.pointer (some ⟨g3, 0, none⟩), .pointer (some ⟨g6, 0, none⟩), .pointer (some ⟨g9, 0, none⟩), .bool true, .agg #[.int .i64 0, .int .i64 0], GTag.val a] (.cons (show Ld Try.prog w106 24 ⟨g3, 0, none⟩ (GTag.val a) from Ld.rowN (cs := [.int .i64 a.Count, .int .i64 a.Client]) hp108.get2 (by kernel_rfl)) .nil) (by kernel_rfl) (fun b113 => ?_)
            refine OPS.want (by kernel_rfl) ?_
            refine OPS.cons (opStep.call (some 82) [.agg #[.int .i64 0, .int .i64 0], GTag.val a] (by kernel_rfl) (tag_Compare (⟨0, 0⟩ : GTag) a _) ?_)
            rintro _ w116 ⟨rfl, hf117⟩
            refine ⟨_, rfl, ?_⟩
            have hp118 := hp108.step hf117
            refine OPS.batch 2 { wraps := [84] } [] [3, 4, 5, 84] [.pointer (some ⟨g3, 0, none⟩), .pointer (some ⟨g6, 0, none⟩), .pointer (some ⟨g9, 0, none⟩), .bool (decide (¬ ((tagCmp (⟨0, 0⟩ : GTag) a) = (-1))))] .nil (by kernel_rfl) (fun b119 => ?_)
            refine OPS.nil ?_
            refine thn_n ?_
            exact ⟨decide (¬ ((tagCmp (⟨0, 0⟩ : GTag) a) = (-1))), trivial, Bp.of Bp.dec (by simp [h102, h112]), by kernel_rfl, hp118⟩
        · rw [show b99 = false from hb100.ff h102]
          refine OPS.batch 10 { wraps := [78, 84] } [] [3, 4, 5, 84] [.pointer (some ⟨g3, 0, none⟩), .pointer (some ⟨g6, 0, none⟩), .pointer (some ⟨g9, 0, none⟩), .bool false] .nil (by kernel_rfl) (fun b121 => ?_)
          refine OPS.nil ?_
          refine thn_n ?_
          exact ⟨false, trivial, Bp.of Bp.f (by simp [h102]), by kernel_rfl, hp98⟩
      rintro e124 w125 ⟨x122, hd127, hb123, hE128, hp126⟩
      obtain ⟨b129, rfl⟩ := toMk hE128
      clear hE128
      clear hd127
      refine WP.test (p := (tagValid a) ∧ (¬ (tagZero a)) ∧ (¬ ((tagCmp (⟨0, 0⟩ : GTag) a) = (-1)))) rfl hb123 (fun h130 => ?_) (fun h130 => ?_)
      · refine WP.seq ?_
        refine WP.pure {} [] [6] [.bool false] .nil (by kernel_rfl) (fun b131 => ?_)
        refine thn_n ?_
        refine WP.ret ?_
        refine thn_r ?_
        refine bodyQ.of _ rfl [.bool false] ⟨rfl, trivial⟩ ?_
        exfalso
        first | (clear h66 h90; (simp only [tagValid, tagProper, tagZero, hm0, iff_false, false_iff, iff_true, true_iff, Classical.not_not, and_true, true_and, and_false, false_and, or_true, true_or, or_false, false_or, not_true_eq_false, not_false_eq_true, and_self, or_self] at *; omega)) | (simp only [tagValid, tagProper, tagZero, hm0, iff_false, false_iff, iff_true, true_iff, Classical.not_not, and_true, true_and, and_false, false_and, or_true, true_or, or_false, false_or, not_true_eq_false, not_false_eq_true, and_self, or_self] at *; omega)
      · refine WP.skip ?_
        refine thn_n ?_
        refine WP.seq ?_
        refine WP.region _ rfl (by kernel_rfl) ?_
        refine OPS.batch 3 {} [GTag.val a, GTag.val b, GTag.val c] [3, 4, 5, 85, 86, 87] [.pointer (some ⟨g3, 0, none⟩), .pointer (some ⟨g6, 0, none⟩), .pointer (some ⟨g9, 0, none⟩), GTag.val a, GTag.val b, GTag.val c] (.cons (show Ld Try.prog w125 24 ⟨g3, 0, none⟩ (GTag.val a) from Ld.rowN (cs := [.int .i64 a.Count, .int .i64 a.Client]) hp126.get2 (by kernel_rfl)) (.cons (show Ld Try.prog w125 24 ⟨g6, 0, none⟩ (GTag.val b) from Ld.rowN (cs := [.int .i64 b.Count, .int .i64 b.Client]) hp126.get1 (by kernel_rfl)) (.cons (show Ld Try.prog w125 24 ⟨g9, 0, none⟩ (GTag.val c) from Ld.rowN (cs := [.int .i64 c.Count, .int .i64 c.Client]) hp126.get0 (by kernel_rfl)) .nil))) (by kernel_rfl) (fun b132 => ?_)
        refine OPS.cons (opStep.buildSlice (E := 24) hp126 [.int .i64 a.Count, .int .i64 a.Client, .int .i64 b.Count, .int .i64 b.Client, .int .i64 c.Count, .int .i64 c.Client] (by kernel_rfl) (fun g135 w133 hp134 => ?_))
        refine OPS.cons (opStep.call (some 89) [.slice (some ⟨g135, 0, none⟩) 3 3] (by kernel_rfl) (tag_Max [a, b, c] _ _ _ (show SlR w133 (some ⟨g135, 0, none⟩) 3 (List.flatMap GTag.cells [a, b, c]) from SlR.row hp134.get0 rfl) (by simp)) ?_)
        rintro _ w138 ⟨rfl, hf139⟩
        refine ⟨_, rfl, ?_⟩
        have hp140 := hp134.step hf139
        refine OPS.cons (opStep.alloc hp140 [.int .i64 0, .int .i64 0] (by kernel_rfl) (fun g143 w141 hp142 => ?_))
        refine OPS.cons (opStep.store0 hp142 rfl [.int .i64 ((maxT [a, b, c]).Count), .int .i64 ((maxT [a, b, c]).Client)] [.int .i64 ((maxT [a, b, c]).Count), .int .i64 ((maxT [a, b, c]).Client)] (by kernel_rfl) (fun w144 hp145 => ?_))
        refine OPS.nil ?_
        refine thn_n ?_
        refine WP.seq ?_
        refine WP.cut (fun e156 w157 => ∃ (x154 : Bool), (True) ∧ Bp x154 ((¬ ((((maxT [a, b, c]).Count) = a.Count) ∧ (((maxT [a, b, c]).Client) = a.Client))) ∧ (¬ ((((maxT [a, b, c]).Count) = b.Count) ∧ (((maxT [a, b, c]).Client) = b.Client))) ∧ (¬ ((((maxT [a, b, c]).Count) = c.Count) ∧ (((maxT [a, b, c]).Client) = c.Client)))) ∧ List.map e156 [3, 4, 5, 10, 102] = [.pointer (some ⟨g3, 0, none⟩), .pointer (some ⟨g6, 0, none⟩), .pointer (some ⟨g9, 0, none⟩), .pointer (some ⟨g143, 0, none⟩), .bool x154] ∧ Hp w Non [Res.row g143 [.int .i64 ((maxT [a, b, c]).Count), .int .i64 ((maxT [a, b, c]).Client)] 24, Res.row g135 [.int .i64 a.Count, .int .i64 a.Client, .int .i64 b.Count, .int .i64 b.Client, .int .i64 c.Count, .int .i64 c.Client] 24, Res.row g9 [.int .i64 c.Count, .int .i64 c.Client] 24, Res.row g6 [.int .i64 b.Count, .int .i64 b.Client] 24, Res.row g3 [.int .i64 a.Count, .int .i64 a.Client] 24] w157) ?_ ?_
        · refine WP.region _ rfl (by kernel_rfl) ?_
          refine OPS.batch 4 {} [GTag.val (maxT [a, b, c]), GTag.val a] [3, 4, 5, 10, 93] [.pointer (some ⟨g3, 0, none⟩), .pointer (some ⟨g6, 0, none⟩), .pointer (some ⟨g9, 0, none⟩), .pointer (some ⟨g143, 0, none⟩), .bool (!((decide (((maxT [a, b, c]).Count) = a.Count)) && ((decide (((maxT [a, b, c]).Client) = a.Client)) && true)))] (.cons (show Ld Try.prog w144 24 ⟨g143, 0, none⟩ (GTag.val (maxT [a, b, c])) from Ld.rowN (cs := [.int .i64 ((maxT [a, b, c]).Count), .int .i64 ((maxT [a, b, c]).Client)]) hp145.get0 (by kernel_rfl)) (.cons (show Ld Try.prog w144 24 ⟨g3, 0, none⟩ (GTag.val a) from Ld.rowN (cs := [.int .i64 a.Count, .int .i64 a.Client]) hp145.get4 (by kernel_rfl)) .nil)) (by kernel_rfl) (fun b147 => ?_)
          by_cases h148 : (((maxT [a, b, c]).Count) = a.Count) ∧ (((maxT [a, b, c]).Client) = a.Client)
          · rw [show (!((decide (((maxT [a, b, c]).Count) = a.Count)) && ((decide (((maxT [a, b, c]).Client) = a.Client)) && true))) = false from (Bp.not (Bp.band Bp.dec (Bp.band1 Bp.dec))).ff (fun k => k h148)]
            refine OPS.batch 9 { wraps := [97, 102] } [] [3, 4, 5, 10, 102] [.pointer (some ⟨g3, 0, none⟩), .pointer (some ⟨g6, 0, none⟩), .pointer (some ⟨g9, 0, none⟩), .pointer (some ⟨g143, 0, none⟩), .bool false] .nil (by kernel_rfl) (fun b153 => ?_)
            refine OPS.nil ?_
            refine thn_n ?_
            exact ⟨false, trivial, Bp.of Bp.f (by simp [h148]), by kernel_rfl, hp145⟩
          · rw [show (!((decide (((maxT [a, b, c]).Count) = a.Count)) && ((decide (((maxT [a, b, c]).Client) = a.Client)) && true))) = true from (Bp.not (Bp.band Bp.dec (Bp.band1 Bp.dec))).tt h148]
            refine OPS.batch 5 { wraps := [97] } [GTag.val (maxT [a, b, c]), GTag.val b] [3, 4, 5, 10, 98] [.pointer (some ⟨g3, 0, none⟩), .pointer (some ⟨g6, 0, none⟩), .pointer (some ⟨g9, 0, none⟩), .pointer (some ⟨g143, 0, none⟩), .bool (!((decide (((maxT [a, b, c]).Count) = b.Count)) && ((decide (((maxT [a, b, c]).Client) = b.Client)) && true)))] (.cons (show Ld Try.prog w144 24 ⟨g143, 0, none⟩ (GTag.val (maxT [a, b, c])) from Ld.rowN (cs := [.int .i64 ((maxT [a, b, c]).Count), .int .i64 ((maxT [a, b, c]).Client)]) hp145.get0 (by kernel_rfl)) (.cons (show Ld Try.prog w144 24 ⟨g6, 0, none⟩ (GTag.val b) from Ld.rowN (cs := [.int .i64 b.Count, .int .i64 b.Client]) hp145.get3 (by kernel_rfl)) .nil)) (by kernel_rfl) (fun b149 => ?_)
            by_cases h150 : (((maxT [a, b, c]).Count) = b.Count) ∧ (((maxT [a, b, c]).Client) = b.Client)
            · rw [show (!((decide (((maxT [a, b, c]).Count) = b.Count)) && ((decide (((maxT [a, b, c]).Client) = b.Client)) && true))) = false from (Bp.not (Bp.band Bp.dec (Bp.band1 Bp.dec))).ff (fun k => k h150)]
              refine OPS.batch 4 { wraps := [102] } [] [3, 4, 5, 10, 102] [.pointer (some ⟨g3, 0, none⟩), .pointer (some ⟨g6, 0, none⟩), .pointer (some ⟨g9, 0, none⟩), .pointer (some ⟨g143, 0, none⟩), .bool false] .nil (by kernel_rfl) (fun b152 => ?_)
              refine OPS.nil ?_
              refine thn_n ?_
              exact ⟨false, trivial, Bp.of Bp.f (by simp [h148, h150]), by kernel_rfl, hp145⟩
            · rw [show (!((decide (((maxT [a, b, c]).Count) = b.Count)) && ((decide (((maxT [a, b, c]).Client) = b.Client)) && true))) = true from (Bp.not (Bp.band Bp.dec (Bp.band1 Bp.dec))).tt h150]
              refine OPS.batch 4 { wraps := [102] } [GTag.val (maxT [a, b, c]), GTag.val c] [3, 4, 5, 10, 102] [.pointer (some ⟨g3, 0, none⟩), .pointer (some ⟨g6, 0, none⟩), .pointer (some ⟨g9, 0, none⟩), .pointer (some ⟨g143, 0, none⟩), .bool (!((decide (((maxT [a, b, c]).Count) = c.Count)) && ((decide (((maxT [a, b, c]).Client) = c.Client)) && true)))] (.cons (show Ld Try.prog w144 24 ⟨g143, 0, none⟩ (GTag.val (maxT [a, b, c])) from Ld.rowN (cs := [.int .i64 ((maxT [a, b, c]).Count), .int .i64 ((maxT [a, b, c]).Client)]) hp145.get0 (by kernel_rfl)) (.cons (show Ld Try.prog w144 24 ⟨g9, 0, none⟩ (GTag.val c) from Ld.rowN (cs := [.int .i64 c.Count, .int .i64 c.Client]) hp145.get2 (by kernel_rfl)) .nil)) (by kernel_rfl) (fun b151 => ?_)
              refine OPS.nil ?_
              refine thn_n ?_
              exact ⟨!((decide (((maxT [a, b, c]).Count) = c.Count)) && ((decide (((maxT [a, b, c]).Client) = c.Client)) && true)), trivial, Bp.of (Bp.not (Bp.band Bp.dec (Bp.band1 Bp.dec))) (by simp [h148, h150]), by kernel_rfl, hp145⟩
        rintro e156 w157 ⟨x154, hd159, hb155, hE160, hp158⟩
        obtain ⟨b161, rfl⟩ := toMk hE160
        clear hE160
        clear hd159
        refine WP.test (p := (¬ ((((maxT [a, b, c]).Count) = a.Count) ∧ (((maxT [a, b, c]).Client) = a.Client))) ∧ (¬ ((((maxT [a, b, c]).Count) = b.Count) ∧ (((maxT [a, b, c]).Client) = b.Client))) ∧ (¬ ((((maxT [a, b, c]).Count) = c.Count) ∧ (((maxT [a, b, c]).Client) = c.Client)))) rfl hb155 (fun h162 => ?_) (fun h162 => ?_)
        · refine WP.seq ?_
          refine WP.pure {} [] [6] [.bool false] .nil (by kernel_rfl) (fun b163 => ?_)
          refine thn_n ?_
          refine WP.ret ?_
          refine thn_r ?_
          refine bodyQ.of _ rfl [.bool false] ⟨rfl, trivial⟩ ?_
          exfalso
          first | (clear h66 h90 h130; (simp only [tagValid, tagProper, tagZero, hm0, iff_false, false_iff, iff_true, true_iff, Classical.not_not, and_true, true_and, and_false, false_and, or_true, true_or, or_false, false_or, not_true_eq_false, not_false_eq_true, and_self, or_self] at *; omega)) | (simp only [tagValid, tagProper, tagZero, hm0, iff_false, false_iff, iff_true, true_iff, Classical.not_not, and_true, true_and, and_false, false_and, or_true, true_or, or_false, false_or, not_true_eq_false, not_false_eq_true, and_self, or_self] at *; omega)
        · refine WP.skip ?_
          refine thn_n ?_
          refine WP.cut (fun e209 w210 => ∃ (x207 : Bool), (True) ∧ Bp x207 ((0 ≤ (tagCmp (maxT [a, b, c]) a)) ∧ (0 ≤ (tagCmp (maxT [a, b, c]) b)) ∧ (0 ≤ (tagCmp (maxT [a, b, c]) c)) ∧ ((((maxT ([] : List GTag)).Count) = 0) ∧ (((maxT ([] : List GTag)).Client) = 0)) ∧ ((tagCmp (⟨2, 1⟩ : GTag) (⟨1, 9⟩ : GTag)) = 1)) ∧ List.map e209 [6] = [.bool x207] ∧ Hp w Non [Res.row g143 [.int .i64 ((maxT [a, b, c]).Count), .int .i64 ((maxT [a, b, c]).Client)] 24, Res.row g135 [.int .i64 a.Count, .int .i64 a.Client, .int .i64 b.Count, .int .i64 b.Client, .int .i64 c.Count, .int .i64 c.Client] 24, Res.row g9 [.int .i64 c.Count, .int .i64 c.Client] 24, Res.row g6 [.int .i64 b.Count, .int .i64 b.Client] 24, Res.row g3 [.int .i64 a.Count, .int .i64 a.Client] 24] w210) ?_ ?_
          · refine WP.region _ rfl (by kernel_rfl) ?_
            refine OPS.batch 2 {} [GTag.val (maxT [a, b, c]), GTag.val a] [4, 5, 10, 103, 104] [.pointer (some ⟨g6, 0, none⟩), .pointer (some ⟨g9, 0, none⟩), .pointer (some ⟨g143, 0, none⟩), GTag.val (maxT [a, b, c]), GTag.val a] (.cons (show Ld Try.prog w157 24 ⟨g143, 0, none⟩ (GTag.val (maxT [a, b, c])) from Ld.rowN (cs := [.int .i64 ((maxT [a, b, c]).Count), .int .i64 ((maxT [a, b, c]).Client)]) hp158.get0 (by kernel_rfl)) (.cons (show Ld Try.prog w157 24 ⟨g3, 0, none⟩ (GTag.val a) from Ld.rowN (cs := [.int .i64 a.Count, .int .i64 a.Client]) hp158.get4 (by kernel_rfl)) .nil)) (by kernel_rfl) (fun b165 => ?_)
            refine OPS.cons (opStep.call (some 105) [GTag.val (maxT [a, b, c]), GTag.val a] (by kernel_rfl) (tag_Compare (maxT [a, b, c]) a _) ?_)
            rintro _ w168 ⟨rfl, hf169⟩
            refine ⟨_, rfl, ?_⟩
            have hp170 := hp158.step hf169
            refine OPS.batch 2 {} [] [4, 5, 10, 107] [.pointer (some ⟨g6, 0, none⟩), .pointer (some ⟨g9, 0, none⟩), .pointer (some ⟨g143, 0, none⟩), .bool (decide (0 ≤ (tagCmp (maxT [a, b, c]) a)))] .nil (by kernel_rfl) (fun b171 => ?_)
            by_cases h172 : 0 ≤ (tagCmp (maxT [a, b, c]) a)
            · rw [show (decide (0 ≤ (tagCmp (maxT [a, b, c]) a))) = true from Bp.dec.tt h172]
              refine OPS.batch 2 {} [GTag.val (maxT [a, b, c]), GTag.val b] [5, 10, 107, 108, 109] [.pointer (some ⟨g9, 0, none⟩), .pointer (some ⟨g143, 0, none⟩), .bool true, GTag.val (maxT [a, b, c]), GTag.val b] (.cons (show Ld Try.prog w168 24 ⟨g143, 0, none⟩ (GTag.val (maxT [a, b, c])) from Ld.rowN (cs := [.int .i64 ((maxT [a, b, c]).Count), .int .i64 ((maxT [a, b, c]).Client)]) hp170.get0 (by kernel_rfl)) (.cons (show Ld Try.prog w168 24 ⟨g6, 0, none⟩ (GTag.val b) from Ld.rowN (cs := [.int .i64 b.Count, .int .i64 b.Client]) hp170.get3 (by kernel_rfl)) .nil)) (by kernel_rfl) (fun b173 => ?_)
              refine OPS.want (by kernel_rfl) ?_
              refine OPS.cons (opStep.call (some 110) [GTag.val (maxT [a, b, c]), GTag.val b] (by kernel_rfl) (tag_Compare (maxT [a, b, c]) b _) ?_)
              rintro _ w176 ⟨rfl, hf177⟩
              refine ⟨_, rfl, ?_⟩
              have hp178 := hp170.step hf177
              refine OPS.batch 3 { wraps := [112] } [] [5, 10, 113] [.pointer (some ⟨g9, 0, none⟩), .pointer (some ⟨g143, 0, none⟩), .bool (decide (0 ≤ (tagCmp (maxT [a, b, c]) b)))] .nil (by kernel_rfl) (fun b179 => ?_)
              by_cases h180 : 0 ≤ (tagCmp (maxT [a, b, c]) b)
              · rw [show (decide (0 ≤ (tagCmp (maxT [a, b, c]) b))) = true from Bp.dec.tt h180]
                refine OPS.batch 2 {} [GTag.val (maxT [a, b, c]), GTag.val c] [113, 114, 115] [.bool true, GTag.val (maxT [a, b, c]), GTag.val c] (.cons (show Ld Try.prog w176 24 ⟨g143, 0, none⟩ (GTag.val (maxT [a, b, c])) from Ld.rowN (cs := [.int .i64 ((maxT [a, b, c]).Count), .int .i64 ((maxT [a, b, c]).Client)]) hp178.get0 (by kernel_rfl)) (.cons (show Ld Try.prog w176 24 ⟨g9, 0, none⟩ (GTag.val c) from Ld.rowN (cs := [.int .i64 c.Count, .int .i64 c.Client]) hp178.get2 (by kernel_rfl)) .nil)) (by kernel_rfl) (fun b181 => ?_)
                refine OPS.want (by kernel_rfl) ?_
                refine OPS.cons (opStep.call (some 116) [GTag.val (maxT [a, b, c]), GTag.val c] (by kernel_rfl) (tag_Compare (maxT [a, b, c]) c _) ?_)
                rintro _ w184 ⟨rfl, hf185⟩
                refine ⟨_, rfl, ?_⟩
                have hp186 := hp178.step hf185
                refine OPS.batch 3 { wraps := [118] } [] [119] [.bool (decide (0 ≤ (tagCmp (maxT [a, b, c]) c)))] .nil (by kernel_rfl) (fun b187 => ?_)
                by_cases h188 : 0 ≤ (tagCmp (maxT [a, b, c]) c)
                · rw [show (decide (0 ≤ (tagCmp (maxT [a, b, c]) c))) = true from Bp.dec.tt h188]
                  refine OPS.want (by kernel_rfl) ?_
                  refine OPS.cons (opStep.call (some 120) [.slice none 0 0] (by kernel_rfl) (tag_Max ([] : List GTag) _ _ _ (SlR.nil _ 0 rfl) (by simp)) ?_)
                  rintro _ w191 ⟨rfl, hf192⟩
                  refine ⟨_, rfl, ?_⟩
                  have hp193 := hp186.step hf192
                  refine OPS.batch 4 { wraps := [123] } [] [124] [.bool ((decide (((maxT ([] : List GTag)).Count) = 0)) && ((decide (((maxT ([] : List GTag)).Client) = 0)) && true))] .nil (by kernel_rfl) (fun b194 => ?_)
                  by_cases h195 : (((maxT ([] : List GTag)).Count) = 0) ∧ (((maxT ([] : List GTag)).Client) = 0)
                  · rw [show ((decide (((maxT ([] : List GTag)).Count) = 0)) && ((decide (((maxT ([] : List GTag)).Client) = 0)) && true)) = true from (Bp.band Bp.dec (Bp.band1 Bp.dec)).tt h195]
                    refine OPS.batch 2 {} [] [124, 125, 126] [.bool true, .agg #[.int .i64 2, .int .i64 1], .agg #[.int .i64 1, .int .i64 9]] .nil (by kernel_rfl) (fun b196 => ?_)
                    refine OPS.want (by kernel_rfl) ?_
                    refine OPS.cons (opStep.call (some 127) [.agg #[.int .i64 2, .int .i64 1], .agg #[.int .i64 1, .int .i64 9]] (by kernel_rfl) (tag_Compare (⟨2, 1⟩ : GTag) (⟨1, 9⟩ : GTag) _) ?_)
                    rintro _ w199 ⟨rfl, hf200⟩
                    refine ⟨_, rfl, ?_⟩
                    have hp201 := hp193.step hf200
                    refine OPS.batch 3 { wraps := [129] } [] [6] [.bool (decide ((tagCmp (⟨2, 1⟩ : GTag) (⟨1, 9⟩ : GTag)) = 1))] .nil (by kernel_rfl) (fun b202 => ?_)
                    refine OPS.nil ?_
                    refine thn_n ?_
                    exact ⟨decide ((tagCmp (⟨2, 1⟩ : GTag) (⟨1, 9⟩ : GTag)) = 1), trivial, Bp.of Bp.dec (by simp [h172, h180, h188, h195]), by kernel_rfl, hp201⟩
                  · rw [show ((decide (((maxT ([] : List GTag)).Count) = 0)) && ((decide (((maxT ([] : List GTag)).Client) = 0)) && true)) = false from (Bp.band Bp.dec (Bp.band1 Bp.dec)).ff h195]
                    refine OPS.batch 6 { wraps := [129] } [] [6] [.bool false] .nil (by kernel_rfl) (fun b203 => ?_)
                    refine OPS.nil ?_
                    refine thn_n ?_
                    exact ⟨false, trivial, Bp.of Bp.f (by simp [h172, h180, h188, h195]), by kernel_rfl, hp193⟩
                · rw [show (decide (0 ≤ (tagCmp (maxT [a, b, c]) c))) = false from Bp.dec.ff h188]
                  refine OPS.batch 11 { wraps := [123, 129] } [] [6] [.bool false] .nil (by kernel_rfl) (fun b204 => ?_)
                  refine OPS.nil ?_
                  refine thn_n ?_
                  exact ⟨false, trivial, Bp.of Bp.f (by simp [h172, h180, h188]), by kernel_rfl, hp186⟩
              · rw [show (decide (0 ≤ (tagCmp (maxT [a, b, c]) b))) = false from Bp.dec.ff h180]
                refine OPS.batch 17 { wraps := [118, 123, 129] } [] [6] [.bool false] .nil (by kernel_rfl) (fun b205 => ?_)
                refine OPS.nil ?_
                refine thn_n ?_
                exact ⟨false, trivial, Bp.of Bp.f (by simp [h172, h180]), by kernel_rfl, hp178⟩
            · rw [show (decide (0 ≤ (tagCmp (maxT [a, b, c]) a))) = false from Bp.dec.ff h172]
              refine OPS.batch 23 { wraps := [112, 118, 123, 129] } [] [6] [.bool false] .nil (by kernel_rfl) (fun b206 => ?_)
              refine OPS.nil ?_
              refine thn_n ?_
              exact ⟨false, trivial, Bp.of Bp.f (by simp [h172]), by kernel_rfl, hp170⟩
          rintro e209 w210 ⟨x207, hd212, hb208, hE213, hp211⟩
          obtain ⟨b214, rfl⟩ := toMk hE213
          clear hE213
          clear hd212
          refine WP.ret ?_
          refine bodyQ.of _ rfl [.bool x207] ⟨rfl, trivial⟩ ?_
          exact ⟨congrArg (fun b => Ending.returned (.bool b)) (Bp.tt hb208 (by (simp only [tagValid, tagProper, tagZero, hm0, iff_false, false_iff, iff_true, true_iff, Classical.not_not, and_true, true_and, and_false, false_and, or_true, true_or, or_false, false_or, not_true_eq_false, not_false_eq_true, and_self, or_self] at *; omega))), hp211.fr⟩

end Go.Proofs.Ythdkbbpiaeaojaa.K
