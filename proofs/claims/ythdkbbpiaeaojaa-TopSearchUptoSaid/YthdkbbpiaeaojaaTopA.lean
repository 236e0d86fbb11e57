/- The walks of TopA: what each function computes. -/
import Derived.Test.YthdkbbpiaeaojaaProg
import Derived.Test.YthdkbbpiaeaojaaCoreO
import Derived.Test.YthdkbbpiaeaojaaCoreI
import Derived.Test.YthdkbbpiaeaojaaLinT
namespace Go.Proofs.Ythdkbbpiaeaojaa.K
open Go Go.Proofs Go.RowKit
set_option linter.unusedVariables false
set_option linter.unusedSimpArgs false
set_option maxRecDepth 20000
set_option maxHeartbeats 4000000

theorem top_part (c : GCall) (w : World) :
    Calls Try.prog 53 #[GCall.val c] w (fun r_ w' => r_ = .returned (.int .i64 (partT c)) ∧ Fram Non w w') := by
  refine calls_of Try.func53 rfl 27 rfl (by simp) ?_
  have hp0 := Hp.init w
  have he0 : List.map (env0 [GCall.val c]) [0] = [GCall.val c] := by kernel_rfl
  obtain ⟨b0, he0⟩ := toMk he0
  rw [he0]
  clear he0
  refine WP.seq ?_
  refine WP.region _ rfl (by kernel_rfl) ?_
  refine OPS.cons (opStep.box hp0 [.int .i64 c.Client, .int .i64 c.Op, .bool c.Put, .string c.Key, .slice c.Value.a c.Value.n c.Value.c, .int .i64 c.Status, .int .i64 c.From, .int .i64 c.To, .bool c.Open, .int .i64 c.Tag.Count, .int .i64 c.Tag.Client] (by kernel_rfl) (fun g3 w1 hp2 => ?_))
  refine OPS.batch 1 {} [] [1] [.pointer (some ⟨g3, 0, none⟩)] .nil (by kernel_rfl) (fun b4 => ?_)
  refine OPS.nil ?_
  refine thn_n ?_
  refine WP.seq ?_
  refine WP.block ?_
  refine WP.cut (fun e14 w15 => ∃ (x12 : Bool), (True) ∧ Bp x12 ((c.Put = true) ∧ (c.Open = true)) ∧ List.map e14 [1, 3] = [.pointer (some ⟨g3, 0, none⟩), .bool x12] ∧ Hp w Non [Res.row g3 [.int .i64 c.Client, .int .i64 c.Op, .bool c.Put, .string c.Key, .slice c.Value.a c.Value.n c.Value.c, .int .i64 c.Status, .int .i64 c.From, .int .i64 c.To, .bool c.Open, .int .i64 c.Tag.Count, .int .i64 c.Tag.Client] 41] w15) ?_ ?_
  · refine WP.region _ rfl (by kernel_rfl) ?_
    refine OPS.batch 3 {} [.bool c.Put] [1, 6] [.pointer (some ⟨g3, 0, none⟩), .bool c.Put] (.cons (Ld.row1 (P := Try.prog) (t := 4) (o := 2) (v := .bool c.Put) hp2.get0 (by kernel_rfl)) .nil) (by kernel_rfl) (fun b6 => ?_)
    by_cases h7 : c.Put = true
    · refine OPS.batch 0 {} [] [1, 6] [.pointer (some ⟨g3, 0, none⟩), .bool c.Put] .nil (by kernel_rfl) (fun b8 => ?_)
      refine OPS.re [.pointer (some ⟨g3, 0, none⟩), .bool true] (by rw [show c.Put = true from Bp.var.tt h7]) ?_
      refine OPS.batch 4 { wraps := [9] } [.bool c.Open] [1, 3] [.pointer (some ⟨g3, 0, none⟩), .bool c.Open] (.cons (Ld.row1 (P := Try.prog) (t := 4) (o := 8) (v := .bool c.Open) hp2.get0 (by kernel_rfl)) .nil) (by kernel_rfl) (fun b9 => ?_)
      refine OPS.nil ?_
      refine thn_n ?_
      exact ⟨c.Open, trivial, Bp.of Bp.var (by first | (simp only [h7, iff_false, false_iff, iff_true, true_iff, Classical.not_not, and_true, true_and, and_false, false_and, or_true, true_or, or_false, false_or, not_true_eq_false, not_false_eq_true, and_self, or_self, iff_self]; done) | (simp [h7]; done) | simp_all), by kernel_rfl, hp2⟩
    · refine OPS.batch 0 {} [] [1, 6] [.pointer (some ⟨g3, 0, none⟩), .bool c.Put] .nil (by kernel_rfl) (fun b10 => ?_)
      refine OPS.re [.pointer (some ⟨g3, 0, none⟩), .bool false] (by rw [show c.Put = false from Bp.var.ff h7]) ?_
      refine OPS.batch 4 { wraps := [9] } [] [1, 3] [.pointer (some ⟨g3, 0, none⟩), .bool false] .nil (by kernel_rfl) (fun b11 => ?_)
      refine OPS.nil ?_
      refine thn_n ?_
      exact ⟨false, trivial, Bp.of Bp.f (by first | (simp only [h7, iff_false, false_iff, iff_true, true_iff, Classical.not_not, and_true, true_and, and_false, false_and, or_true, true_or, or_false, false_or, not_true_eq_false, not_false_eq_true, and_self, or_self, iff_self]; done) | (simp [h7]; done) | simp_all), by kernel_rfl, hp2⟩
  rintro e14 w15 ⟨x12, hd17, hb13, hE18, hp16⟩
  obtain ⟨b19, rfl⟩ := toMk hE18
  clear hE18
  clear hd17
  refine WP.test (p := (c.Put = true) ∧ (c.Open = true)) rfl hb13 (fun h20 => ?_) (fun h20 => ?_)
  · refine WP.seq ?_
    refine WP.pure {} [] [2] [.int .i64 1] .nil (by kernel_rfl) (fun b21 => ?_)
    refine thn_n ?_
    refine WP.ret ?_
    refine blk_r ?_
    refine thn_r ?_
    refine bodyQ.of _ rfl [.int .i64 1] ⟨rfl, trivial⟩ ?_
    exact ⟨by rw [show partT c = 1 from by unfold partT; first | (rw [if_pos (by assumption)]; done) | (rw [if_neg (by assumption), if_pos (by assumption)]; done) | (rw [if_neg (by assumption), if_neg (by assumption), if_pos (by assumption)]; done) | (rw [if_neg (by assumption), if_neg (by assumption), if_neg (by assumption)]; done) | (rw [if_neg (by assumption), if_neg (by assumption), if_pos (by omega)]; done) | (rw [if_neg (by assumption), if_neg (by assumption), if_neg (by omega)]; done)]; rfl, hp16.fr⟩
  · refine WP.seq ?_
    refine WP.pure {} [.bool c.Put] [1, 10] [.pointer (some ⟨g3, 0, none⟩), .bool c.Put] (.cons (Ld.row1 (P := Try.prog) (t := 4) (o := 2) (v := .bool c.Put) hp16.get0 (by kernel_rfl)) .nil) (by kernel_rfl) (fun b22 => ?_)
    refine thn_n ?_
    refine WP.test (p := c.Put = true) rfl Bp.var (fun h23 => ?_) (fun h23 => ?_)
    · refine WP.seq ?_
      refine WP.pure {} [] [2] [.int .i64 2] .nil (by kernel_rfl) (fun b24 => ?_)
      refine thn_n ?_
      refine WP.ret ?_
      refine blk_r ?_
      refine thn_r ?_
      refine bodyQ.of _ rfl [.int .i64 2] ⟨rfl, trivial⟩ ?_
      exact ⟨by rw [show partT c = 2 from by unfold partT; first | (rw [if_pos (by assumption)]; done) | (rw [if_neg (by assumption), if_pos (by assumption)]; done) | (rw [if_neg (by assumption), if_neg (by assumption), if_pos (by assumption)]; done) | (rw [if_neg (by assumption), if_neg (by assumption), if_neg (by assumption)]; done) | (rw [if_neg (by assumption), if_neg (by assumption), if_pos (by omega)]; done) | (rw [if_neg (by assumption), if_neg (by assumption), if_neg (by omega)]; done)]; rfl, hp16.fr⟩
    · refine WP.cut (fun e39 w40 => ∃ (x37 : Bool), (True) ∧ Bp x37 (((0 ≤ c.To) ∧ (c.Status = 0)) ∨ ((0 ≤ c.To) ∧ (¬ (c.Status = 0)) ∧ (c.Status = 76))) ∧ List.map e39 [13] = [.bool x37] ∧ Hp w Non [Res.row g3 [.int .i64 c.Client, .int .i64 c.Op, .bool c.Put, .string c.Key, .slice c.Value.a c.Value.n c.Value.c, .int .i64 c.Status, .int .i64 c.From, .int .i64 c.To, .bool c.Open, .int .i64 c.Tag.Count, .int .i64 c.Tag.Client] 41] w40) ?_ ?_
      · refine WP.region _ rfl (by kernel_rfl) ?_
        refine OPS.batch 4 {} [.int .i64 c.To] [1, 17] [.pointer (some ⟨g3, 0, none⟩), .bool (decide (0 ≤ c.To))] (.cons (Ld.row1 (P := Try.prog) (t := 3) (o := 7) (v := .int .i64 c.To) hp16.get0 (by kernel_rfl)) .nil) (by kernel_rfl) (fun b26 => ?_)
        by_cases h27 : 0 ≤ c.To
        · refine OPS.batch 0 {} [] [1, 17] [.pointer (some ⟨g3, 0, none⟩), .bool (decide (0 ≤ c.To))] .nil (by kernel_rfl) (fun b28 => ?_)
          refine OPS.re [.pointer (some ⟨g3, 0, none⟩), .bool true] (by rw [show (decide (0 ≤ c.To)) = true from Bp.dec.tt h27]) ?_
          refine OPS.batch 4 {} [.int .i64 c.Status] [1, 17, 21] [.pointer (some ⟨g3, 0, none⟩), .bool true, .bool (decide (c.Status = 0))] (.cons (Ld.row1 (P := Try.prog) (t := 27) (o := 5) (v := .int .i64 c.Status) hp16.get0 (by kernel_rfl)) .nil) (by kernel_rfl) (fun b29 => ?_)
          by_cases h30 : c.Status = 0
          · refine OPS.batch 0 {} [] [1, 17, 21] [.pointer (some ⟨g3, 0, none⟩), .bool true, .bool (decide (c.Status = 0))] .nil (by kernel_rfl) (fun b31 => ?_)
            refine OPS.re [.pointer (some ⟨g3, 0, none⟩), .bool true, .bool true] (by rw [show (decide (c.Status = 0)) = true from Bp.dec.tt h30]) ?_
            refine OPS.batch 6 { wraps := [25, 26] } [] [13] [.bool true] .nil (by kernel_rfl) (fun b32 => ?_)
            refine OPS.nil ?_
            refine thn_n ?_
            exact ⟨true, trivial, Bp.of Bp.t (by first | (simp only [h27, h30, iff_false, false_iff, iff_true, true_iff, Classical.not_not, and_true, true_and, and_false, false_and, or_true, true_or, or_false, false_or, not_true_eq_false, not_false_eq_true, and_self, or_self, iff_self]; done) | (simp [h27, h30]; done) | simp_all), by kernel_rfl, hp16⟩
          · refine OPS.batch 0 {} [] [1, 17, 21] [.pointer (some ⟨g3, 0, none⟩), .bool true, .bool (decide (c.Status = 0))] .nil (by kernel_rfl) (fun b33 => ?_)
            refine OPS.re [.pointer (some ⟨g3, 0, none⟩), .bool true, .bool false] (by rw [show (decide (c.Status = 0)) = false from Bp.dec.ff h30]) ?_
            refine OPS.batch 6 { wraps := [25, 26] } [.int .i64 c.Status] [13] [.bool (decide (c.Status = 76))] (.cons (Ld.row1 (P := Try.prog) (t := 27) (o := 5) (v := .int .i64 c.Status) hp16.get0 (by kernel_rfl)) .nil) (by kernel_rfl) (fun b34 => ?_)
            refine OPS.nil ?_
            refine thn_n ?_
            exact ⟨decide (c.Status = 76), trivial, Bp.of Bp.dec (by first | (simp only [h27, h30, iff_false, false_iff, iff_true, true_iff, Classical.not_not, and_true, true_and, and_false, false_and, or_true, true_or, or_false, false_or, not_true_eq_false, not_false_eq_true, and_self, or_self, iff_self]; done) | (simp [h27, h30]; done) | simp_all), by kernel_rfl, hp16⟩
        · refine OPS.batch 0 {} [] [1, 17] [.pointer (some ⟨g3, 0, none⟩), .bool (decide (0 ≤ c.To))] .nil (by kernel_rfl) (fun b35 => ?_)
          refine OPS.re [.pointer (some ⟨g3, 0, none⟩), .bool false] (by rw [show (decide (0 ≤ c.To)) = false from Bp.dec.ff h27]) ?_
          refine OPS.batch 10 { wraps := [26] } [] [13] [.bool false] .nil (by kernel_rfl) (fun b36 => ?_)
          refine OPS.nil ?_
          refine thn_n ?_
          exact ⟨false, trivial, Bp.of Bp.f (by first | (simp only [h27, iff_false, false_iff, iff_true, true_iff, Classical.not_not, and_true, true_and, and_false, false_and, or_true, true_or, or_false, false_or, not_true_eq_false, not_false_eq_true, and_self, or_self, iff_self]; done) | (simp [h27]; done) | simp_all), by kernel_rfl, hp16⟩
      rintro e39 w40 ⟨x37, hd42, hb38, hE43, hp41⟩
      obtain ⟨b44, rfl⟩ := toMk hE43
      clear hE43
      clear hd42
      refine WP.test (p := ((0 ≤ c.To) ∧ (c.Status = 0)) ∨ ((0 ≤ c.To) ∧ (¬ (c.Status = 0)) ∧ (c.Status = 76))) rfl hb38 (fun h45 => ?_) (fun h45 => ?_)
      · refine WP.seq ?_
        refine WP.pure {} [] [2] [.int .i64 2] .nil (by kernel_rfl) (fun b46 => ?_)
        refine thn_n ?_
        refine WP.ret ?_
        refine blk_r ?_
        refine thn_r ?_
        refine bodyQ.of _ rfl [.int .i64 2] ⟨rfl, trivial⟩ ?_
        exact ⟨by rw [show partT c = 2 from by unfold partT; first | (rw [if_pos (by assumption)]; done) | (rw [if_neg (by assumption), if_pos (by assumption)]; done) | (rw [if_neg (by assumption), if_neg (by assumption), if_pos (by assumption)]; done) | (rw [if_neg (by assumption), if_neg (by assumption), if_neg (by assumption)]; done) | (rw [if_neg (by assumption), if_neg (by assumption), if_pos (by omega)]; done) | (rw [if_neg (by assumption), if_neg (by assumption), if_neg (by omega)]; done)]; rfl, hp41.fr⟩
      · refine WP.skip ?_
        refine blk_n ?_
        refine thn_n ?_
        refine WP.seq ?_
        refine WP.pure {} [] [2] [.int .i64 0] .nil (by kernel_rfl) (fun b47 => ?_)
        refine thn_n ?_
        refine WP.ret ?_
        refine bodyQ.of _ rfl [.int .i64 0] ⟨rfl, trivial⟩ ?_
        exact ⟨by rw [show partT c = 0 from by unfold partT; first | (rw [if_pos (by assumption)]; done) | (rw [if_neg (by assumption), if_pos (by assumption)]; done) | (rw [if_neg (by assumption), if_neg (by assumption), if_pos (by assumption)]; done) | (rw [if_neg (by assumption), if_neg (by assumption), if_neg (by assumption)]; done) | (rw [if_neg (by assumption), if_neg (by assumption), if_pos (by omega)]; done) | (rw [if_neg (by assumption), if_neg (by assumption), if_neg (by omega)]; done)]; rfl, hp41.fr⟩

theorem val_eq {w : World} {s t : SlH} (hs : ∀ b ∈ bytesAt w s, 0 ≤ b ∧ b < 256) (ht : ∀ b ∈ bytesAt w t, 0 ≤ b ∧ b < 256) : valAt w s = valAt w t ↔ bytesAt w s = bytesAt w t :=
  ⟨strOf_inj hs ht, fun h => by unfold valAt; rw [h]⟩
theorem take_all {α : Type} {l m : List α} {k : Nat} (h : l.take k = m.take k) (h1 : l.length ≤ k) (h2 : m.length ≤ k) : l = m := by
  rw [List.take_of_length_le h1, List.take_of_length_le h2] at h; exact h
theorem take_stp {l m : List Int} {k : Nat} (h1 : k < l.length) (h2 : k < m.length) (h : l.take k = m.take k) (e : l[k]! = m[k]!) : l.take (k + 1) = m.take (k + 1) := by
  rw [List.take_add_one, List.take_add_one, h, get_bang h1, get_bang h2, e]

theorem top_same (s t : SlH) (w : World) (hs : VB w s) (ht : VB w t) (rs : ∀ b ∈ bytesAt w s, 0 ≤ b ∧ b < 256) (rt : ∀ b ∈ bytesAt w t, 0 ≤ b ∧ b < 256) (hb : s.n ≤ 1048576) :
    Calls Try.prog 122 #[.slice s.a s.n s.c, .slice t.a t.n t.c] w (fun r_ w' => ∃ f_, r_ = .returned (.bool f_) ∧ Bp f_ (valAt w s = valAt w t) ∧ Fram Non w w') := by
  have bl1 := bytesAt_len w s
  have bl2 := bytesAt_len w t
  refine calls_of Try.func122 rfl 26 rfl (by simp) ?_
  have hp0 := Hp.init w
  have he0 : List.map (env0 [.slice s.a s.n s.c, .slice t.a t.n t.c]) [0, 1] = [.slice s.a s.n s.c, .slice t.a t.n t.c] := by kernel_rfl
  obtain ⟨b0, he0⟩ := toMk he0
  rw [he0]
  clear he0
  refine WP.seq ?_
  refine WP.pure {} [] [0, 1] [.slice s.a s.n s.c, .slice t.a t.n t.c] .nil (by kernel_rfl) (fun b1 => ?_)
  refine thn_n ?_
  refine WP.seq ?_
  refine WP.seq ?_
  refine WP.pure {} [] [0, 1, 10] [.slice s.a s.n s.c, .slice t.a t.n t.c, .bool (decide (¬ (((s.n : Nat) : Int) = ((t.n : Nat) : Int))))] .nil (by kernel_rfl) (fun b2 => ?_)
  refine thn_n ?_
  refine WP.test (p := ¬ (((s.n : Nat) : Int) = ((t.n : Nat) : Int))) rfl Bp.dec (fun h3 => ?_) (fun h3 => ?_)
  · refine WP.seq ?_
    refine WP.pure {} [] [4] [.bool false] .nil (by kernel_rfl) (fun b4 => ?_)
    refine thn_n ?_
    refine WP.ret ?_
    refine thn_r ?_
    refine bodyQ.of _ rfl [.bool false] ⟨rfl, trivial⟩ ?_
    exact ⟨_, rfl, Bp.of Bp.f (by exact ⟨fun h => h.elim, fun h => h3 (by have := congrArg List.length ((val_eq rs rt).1 h); rw [bl1, bl2] at this; omega)⟩), hp0.fr⟩
  · replace h3 := Classical.not_not.1 h3
    refine WP.skip ?_
    refine thn_n ?_
    refine WP.seq ?_
    refine WP.seq ?_
    refine WP.pure {} [] [0, 1, 12, 13] [.slice s.a s.n s.c, .slice t.a t.n t.c, .int .i64 ((s.n : Nat) : Int), .int .i64 0] .nil (by kernel_rfl) (fun b5 => ?_)
    refine thn_n ?_
    refine WP.block ?_
    refine WP.loop (fun mz_ e6 w7 => ∃ (k : Nat), mz_ = s.n - k ∧ (k ≤ s.n ∧ (bytesAt w s).take k = (bytesAt w t).take k) ∧ List.map e6 [0, 1, 12, 13] = [.slice s.a s.n s.c, .slice t.a t.n t.c, .int .i64 ((s.n : Nat) : Int), .int .i64 (k : Int)] ∧ Hp w Non [] w7) (s.n - (0)) ⟨0, rfl, ⟨by omega, rfl⟩, by kernel_rfl, hp0⟩ ?_
    rintro _ e6 w7 ⟨k, rfl, hI9, hE10, hp8⟩
    obtain ⟨b11, rfl⟩ := toMk hE10
    clear hE10
    obtain ⟨q1, q2⟩ := hI9
    refine WP.seq ?_
    refine WP.pure {} [] [0, 1, 12, 13, 14] [.slice s.a s.n s.c, .slice t.a t.n t.c, .int .i64 ((s.n : Nat) : Int), .int .i64 (k : Int), .bool (decide ((k : Int) < ((s.n : Nat) : Int)))] .nil (by kernel_rfl) (fun b12 => ?_)
    refine thn_n ?_
    refine WP.seq ?_
    refine WP.test (p := (k : Int) < ((s.n : Nat) : Int)) rfl Bp.dec (fun h13 => ?_) (fun h13 => ?_)
    · refine WP.skip ?_
      refine thn_n ?_
      refine WP.seq ?_
      refine WP.block ?_
      refine WP.seq ?_
      refine WP.pure {} [] [0, 1, 5, 12, 13] [.slice s.a s.n s.c, .slice t.a t.n t.c, .int .i64 (k : Int), .int .i64 ((s.n : Nat) : Int), .int .i64 (k : Int)] .nil (by kernel_rfl) (fun b14 => ?_)
      refine thn_n ?_
      refine WP.seq ?_
      have hp17 := hp8.drew
      refine WP.quiet (fun w15 => Hp w Non [] w15) (by kernel_rfl) hp17 ?_
      have hnehp17 : ∃ wz_, (fun w15 => Hp w Non [] w15) wz_ := ⟨_, hp17⟩
      have hy21 : ((bytesAt w s))[k]? = some (bytesAt w s)[k]! := get_bang (by first | (omega) | (simp only [List.length_append, List.length_cons, List.length_nil]; omega) | (simp only [List.length_take, List.length_append, List.length_cons, List.length_nil]; omega))
      have hy23 : ((bytesAt w t))[k]? = some (bytesAt w t)[k]! := get_bang (by first | (omega) | (simp only [List.length_append, List.length_cons, List.length_nil]; omega) | (simp only [List.length_take, List.length_append, List.length_cons, List.length_nil]; omega))
      refine QOPS.batch 9 {} [.int .u8 ((bytesAt w s)[k]!), .int .u8 ((bytesAt w t)[k]!)] [0, 1, 12, 13, 24] [.slice s.a s.n s.c, .slice t.a t.n t.c, .int .i64 ((s.n : Nat) : Int), .int .i64 (k : Int), .bool (decide (¬ (((bytesAt w s)[k]!) = ((bytesAt w t)[k]!))))] hnehp17 (fun w18 hp19 => QB.mk (.cons (show InB ((k : Int)) (s.n) from ⟨by omega, by omega⟩) (.cons ((SlR.at hs hp19).some (by omega)) (.cons (Ld.add0 (Ld.el1 (P := Try.prog) (t := 5) (SlR.at hs hp19).rd 1 (fun _ => rfl) hy21 (o := 0) (v := .int .u8 ((bytesAt w s)[k]!)) (by kernel_rfl))) (.cons (show InB ((k : Int)) (t.n) from ⟨by omega, by omega⟩) (.cons ((SlR.at ht hp19).some (by omega)) (.cons (Ld.add0 (Ld.el1 (P := Try.prog) (t := 5) (SlR.at ht hp19).rd 1 (fun _ => rfl) hy23 (o := 0) (v := .int .u8 ((bytesAt w t)[k]!)) (by kernel_rfl))) .nil)))))) (by kernel_rfl)) (fun b24 => ?_)
      refine QOPS.nil (fun w25 hp26 => ?_)
      refine thn_n ?_
      refine WP.test (p := ¬ (((bytesAt w s)[k]!) = ((bytesAt w t)[k]!))) rfl Bp.dec (fun h27 => ?_) (fun h27 => ?_)
      · refine WP.seq ?_
        refine WP.pure {} [] [4] [.bool false] .nil (by kernel_rfl) (fun b28 => ?_)
        refine thn_n ?_
        refine WP.ret ?_
        refine blk_r ?_
        refine thn_r ?_
        refine thn_r ?_
        refine blk_r ?_
        refine thn_r ?_
        refine bodyQ.of _ rfl [.bool false] ⟨rfl, trivial⟩ ?_
        exact ⟨_, rfl, Bp.of Bp.f (by exact ⟨fun h => h.elim, fun h => h27 (by rw [(val_eq rs rt).1 h])⟩), hp26.fr⟩
      · replace h27 := Classical.not_not.1 h27
        refine WP.skip ?_
        refine blk_n ?_
        refine thn_n ?_
        refine WP.pure {} [] [0, 1, 12, 13] [.slice s.a s.n s.c, .slice t.a t.n t.c, .int .i64 ((s.n : Nat) : Int), .int .i64 ((k : Int) + 1)] (.cons (show Rng .i64 ((k : Int) + 1) from Rng.i64 (by omega)) .nil) (by kernel_rfl) (fun b29 => ?_)
        refine thn_n ?_
        exact ⟨s.n - (k + 1), (by omega), k + 1, rfl, ⟨by omega, take_stp (by omega) (by omega) q2 h27⟩, by kernel_rfl, hp26⟩
    · refine WP.exit ?_
      refine thn_x ?_
      refine thn_x ?_
      refine blk_hit ?_
      refine thn_n ?_
      refine WP.seq ?_
      refine WP.pure {} [] [4] [.bool true] .nil (by kernel_rfl) (fun b30 => ?_)
      refine thn_n ?_
      refine WP.ret ?_
      refine bodyQ.of _ rfl [.bool true] ⟨rfl, trivial⟩ ?_
      exact ⟨_, rfl, Bp.of Bp.t (by exact ⟨fun _ => (val_eq rs rt).2 (take_all q2 (by omega) (by omega)), fun _ => trivial⟩), hp8.fr⟩

theorem top_same_at (w0 w : World) (hf : Fram Non w0 w) (s t : SlH) (hs : VB w0 s) (ht : VB w0 t) (rs : ∀ b ∈ bytesAt w0 s, 0 ≤ b ∧ b < 256) (rt : ∀ b ∈ bytesAt w0 t, 0 ≤ b ∧ b < 256) (hb : s.n ≤ 1048576) :
    Calls Try.prog 122 #[s.v, t.v] w (fun x w' => ∃ f_, x = .returned (.bool f_) ∧ Bp f_ (valAt w0 s = valAt w0 t) ∧ Fram Non w w') := by
  obtain ⟨h1, h2⟩ := hs.step hf
  obtain ⟨h3, h4⟩ := ht.step hf
  have e1 := hs.fram hf
  have e2 := ht.fram hf
  have := top_same s t w h1 h3 (by rw [e1]; exact rs) (by rw [e2]; exact rt) hb
  rw [h2, h4] at this
  exact this

theorem top_ahead (l : List GCall) (n : Nat) (hn : l.length = n) (a : Option Addr) (cp : Nat) (w : World) (hs : SlR w a n (l.flatMap GCall.cells)) (i j : Nat) (hi : i < n) (hj : j < n) :
    Calls Try.prog 100 #[.slice a n cp, .int .i64 (i : Int), .int .i64 (j : Int)] w (fun r_ w' => ∃ f_, r_ = .returned (.bool f_) ∧ Bp f_ (aheadT l i j) ∧ Fram Non w w') := by
  refine calls_of Try.func100 rfl 46 rfl (by simp) ?_
  have hp0 := Hp.init w
  have he0 : List.map (env0 [.slice a n cp, .int .i64 (i : Int), .int .i64 (j : Int)]) [0, 1, 2] = [.slice a n cp, .int .i64 (i : Int), .int .i64 (j : Int)] := by kernel_rfl
  obtain ⟨b0, he0⟩ := toMk he0
  rw [he0]
  clear he0
  refine WP.seq ?_
  refine WP.pure {} [] [0, 1, 2] [.slice a n cp, .int .i64 (i : Int), .int .i64 (j : Int)] .nil (by kernel_rfl) (fun b1 => ?_)
  refine thn_n ?_
  refine WP.seq ?_
  have hp2 := hp0.drew
  have hy4 : (l)[i]? = some l[i]! := get_bang (by first | (omega) | (simp only [List.length_append, List.length_cons, List.length_nil]; omega) | (simp only [List.length_take, List.length_append, List.length_cons, List.length_nil]; omega))
  have hy6 : (l)[j]? = some l[j]! := get_bang (by first | (omega) | (simp only [List.length_append, List.length_cons, List.length_nil]; omega) | (simp only [List.length_take, List.length_append, List.length_cons, List.length_nil]; omega))
  refine WP.tree (fun w7 => Ld Try.prog w7 41 ((adr a).add (i * 11)) (GCall.val (l[i]!)) ∧ Ld Try.prog w7 41 ((adr a).add (j * 11)) (GCall.val (l[j]!)) ∧ True) [] 12 (np_thn np_body) (by kernel_rfl) ?_
  refine HT.pre (l := [(0, true), (1, true), (2, true), (3, true), (4, true), (5, true), (6, true), (7, true)]) (n := 4) (by kernel_rfl) ?_
  refine HOPS.take 8 {} [GCall.val (l[i]!), GCall.val (l[j]!)] [12, 16] [GCall.val (l[i]!), GCall.val (l[j]!)] (by kernel_rfl) ⟨(show Ld Try.prog w.drew 41 ((adr a).add (i * 11)) (GCall.val (l[i]!)) from (Ld.add0 (Ld.elN (P := Try.prog) (t := 41) (hs.at hp2).rd 11 (fun _ => rfl) hy4 (o := 0) (cs := [.int .i64 (l[i]!.Client), .int .i64 (l[i]!.Op), .bool (l[i]!.Put), .string (l[i]!.Key), .slice (l[i]!.Value.a) (l[i]!.Value.n) (l[i]!.Value.c), .int .i64 (l[i]!.Status), .int .i64 (l[i]!.From), .int .i64 (l[i]!.To), .bool (l[i]!.Open), .int .i64 (l[i]!.Tag.Count), .int .i64 (l[i]!.Tag.Client)]) (by kernel_rfl)))), (show Ld Try.prog w.drew 41 ((adr a).add (j * 11)) (GCall.val (l[j]!)) from (Ld.add0 (Ld.elN (P := Try.prog) (t := 41) (hs.at hp2).rd 11 (fun _ => rfl) hy6 (o := 0) (cs := [.int .i64 (l[j]!.Client), .int .i64 (l[j]!.Op), .bool (l[j]!.Put), .string (l[j]!.Key), .slice (l[j]!.Value.a) (l[j]!.Value.n) (l[j]!.Value.c), .int .i64 (l[j]!.Status), .int .i64 (l[j]!.From), .int .i64 (l[j]!.To), .bool (l[j]!.Open), .int .i64 (l[j]!.Tag.Count), .int .i64 (l[j]!.Tag.Client)]) (by kernel_rfl)))), trivial⟩ (fun w8 hS9 => QB.mk (.cons (show InB ((i : Int)) (n) from ⟨by omega, by omega⟩) (.cons ((hs.at hp2).some (by omega)) (.cons (hS9.1) (.cons (show InB ((j : Int)) (n) from ⟨by omega, by omega⟩) (.cons ((hs.at hp2).some (by omega)) (.cons (hS9.2.1) .nil)))))) (by kernel_rfl)) (fun b10 => ?_)
  refine HOPS.nil (QN.n ?_)
  refine HT.br (n := 3) [8, 9] (by kernel_rfl) (by simp) ?_
  refine AllR.cons _ rfl ?_ ?_
  · refine (opStep.alloc hp2 [.int .i64 0, .int .i64 0, .bool false, .string ByteArray.empty, .slice none 0 0, .int .i64 0, .int .i64 0, .int .i64 0, .bool false, .int .i64 0, .int .i64 0] (by kernel_rfl) (fun g13 w11 hp12 => ?_))
    refine ⟨.inr ⟨(show Ld Try.prog w11 41 ((adr a).add (i * 11)) (GCall.val (l[i]!)) from (Ld.add0 (Ld.elN (P := Try.prog) (t := 41) (hs.at hp12).rd 11 (fun _ => rfl) hy4 (o := 0) (cs := [.int .i64 (l[i]!.Client), .int .i64 (l[i]!.Op), .bool (l[i]!.Put), .string (l[i]!.Key), .slice (l[i]!.Value.a) (l[i]!.Value.n) (l[i]!.Value.c), .int .i64 (l[i]!.Status), .int .i64 (l[i]!.From), .int .i64 (l[i]!.To), .bool (l[i]!.Open), .int .i64 (l[i]!.Tag.Count), .int .i64 (l[i]!.Tag.Client)]) (by kernel_rfl)))), (show Ld Try.prog w11 41 ((adr a).add (j * 11)) (GCall.val (l[j]!)) from (Ld.add0 (Ld.elN (P := Try.prog) (t := 41) (hs.at hp12).rd 11 (fun _ => rfl) hy6 (o := 0) (cs := [.int .i64 (l[j]!.Client), .int .i64 (l[j]!.Op), .bool (l[j]!.Put), .string (l[j]!.Key), .slice (l[j]!.Value.a) (l[j]!.Value.n) (l[j]!.Value.c), .int .i64 (l[j]!.Status), .int .i64 (l[j]!.From), .int .i64 (l[j]!.To), .bool (l[j]!.Open), .int .i64 (l[j]!.Tag.Count), .int .i64 (l[j]!.Tag.Client)]) (by kernel_rfl)))), trivial⟩, ?_⟩
    refine HT.br (n := 2) [9] (by kernel_rfl) (by simp) ?_
    refine AllR.cons _ rfl ?_ AllR.nil
    refine (opStep.alloc hp12 [.int .i64 0, .int .i64 0, .bool false, .string ByteArray.empty, .slice none 0 0, .int .i64 0, .int .i64 0, .int .i64 0, .bool false, .int .i64 0, .int .i64 0] (by kernel_rfl) (fun g16 w14 hp15 => ?_))
    refine ⟨.inr ⟨(show Ld Try.prog w14 41 ((adr a).add (i * 11)) (GCall.val (l[i]!)) from (Ld.add0 (Ld.elN (P := Try.prog) (t := 41) (hs.at hp15).rd 11 (fun _ => rfl) hy4 (o := 0) (cs := [.int .i64 (l[i]!.Client), .int .i64 (l[i]!.Op), .bool (l[i]!.Put), .string (l[i]!.Key), .slice (l[i]!.Value.a) (l[i]!.Value.n) (l[i]!.Value.c), .int .i64 (l[i]!.Status), .int .i64 (l[i]!.From), .int .i64 (l[i]!.To), .bool (l[i]!.Open), .int .i64 (l[i]!.Tag.Count), .int .i64 (l[i]!.Tag.Client)]) (by kernel_rfl)))), (show Ld Try.prog w14 41 ((adr a).add (j * 11)) (GCall.val (l[j]!)) from (Ld.add0 (Ld.elN (P := Try.prog) (t := 41) (hs.at hp15).rd 11 (fun _ => rfl) hy6 (o := 0) (cs := [.int .i64 (l[j]!.Client), .int .i64 (l[j]!.Op), .bool (l[j]!.Put), .string (l[j]!.Key), .slice (l[j]!.Value.a) (l[j]!.Value.n) (l[j]!.Value.c), .int .i64 (l[j]!.Status), .int .i64 (l[j]!.From), .int .i64 (l[j]!.To), .bool (l[j]!.Open), .int .i64 (l[j]!.Tag.Count), .int .i64 (l[j]!.Tag.Client)]) (by kernel_rfl)))), trivial⟩, ?_⟩
    refine HT.br (n := 1) [10] (by kernel_rfl) (by simp) ?_
    refine AllR.cons _ rfl ?_ AllR.nil
    refine (opStep.store1 hp15 rfl [.int .i64 (l[i]!.Client), .int .i64 (l[i]!.Op), .bool (l[i]!.Put), .string (l[i]!.Key), .slice (l[i]!.Value.a) (l[i]!.Value.n) (l[i]!.Value.c), .int .i64 (l[i]!.Status), .int .i64 (l[i]!.From), .int .i64 (l[i]!.To), .bool (l[i]!.Open), .int .i64 (l[i]!.Tag.Count), .int .i64 (l[i]!.Tag.Client)] [.int .i64 (l[i]!.Client), .int .i64 (l[i]!.Op), .bool (l[i]!.Put), .string (l[i]!.Key), .slice (l[i]!.Value.a) (l[i]!.Value.n) (l[i]!.Value.c), .int .i64 (l[i]!.Status), .int .i64 (l[i]!.From), .int .i64 (l[i]!.To), .bool (l[i]!.Open), .int .i64 (l[i]!.Tag.Count), .int .i64 (l[i]!.Tag.Client)] (by kernel_rfl) (fun w17 hp18 => ?_))
    refine ⟨.inr ⟨(show Ld Try.prog w17 41 ((adr a).add (i * 11)) (GCall.val (l[i]!)) from (Ld.add0 (Ld.elN (P := Try.prog) (t := 41) (hs.at hp18).rd 11 (fun _ => rfl) hy4 (o := 0) (cs := [.int .i64 (l[i]!.Client), .int .i64 (l[i]!.Op), .bool (l[i]!.Put), .string (l[i]!.Key), .slice (l[i]!.Value.a) (l[i]!.Value.n) (l[i]!.Value.c), .int .i64 (l[i]!.Status), .int .i64 (l[i]!.From), .int .i64 (l[i]!.To), .bool (l[i]!.Open), .int .i64 (l[i]!.Tag.Count), .int .i64 (l[i]!.Tag.Client)]) (by kernel_rfl)))), (show Ld Try.prog w17 41 ((adr a).add (j * 11)) (GCall.val (l[j]!)) from (Ld.add0 (Ld.elN (P := Try.prog) (t := 41) (hs.at hp18).rd 11 (fun _ => rfl) hy6 (o := 0) (cs := [.int .i64 (l[j]!.Client), .int .i64 (l[j]!.Op), .bool (l[j]!.Put), .string (l[j]!.Key), .slice (l[j]!.Value.a) (l[j]!.Value.n) (l[j]!.Value.c), .int .i64 (l[j]!.Status), .int .i64 (l[j]!.From), .int .i64 (l[j]!.To), .bool (l[j]!.Open), .int .i64 (l[j]!.Tag.Count), .int .i64 (l[j]!.Tag.Client)]) (by kernel_rfl)))), trivial⟩, ?_⟩
    refine HT.br (n := 0) [11] (by kernel_rfl) (by simp) ?_
    refine AllR.cons _ rfl ?_ AllR.nil
    refine (opStep.store0 hp18 rfl [.int .i64 (l[j]!.Client), .int .i64 (l[j]!.Op), .bool (l[j]!.Put), .string (l[j]!.Key), .slice (l[j]!.Value.a) (l[j]!.Value.n) (l[j]!.Value.c), .int .i64 (l[j]!.Status), .int .i64 (l[j]!.From), .int .i64 (l[j]!.To), .bool (l[j]!.Open), .int .i64 (l[j]!.Tag.Count), .int .i64 (l[j]!.Tag.Client)] [.int .i64 (l[j]!.Client), .int .i64 (l[j]!.Op), .bool (l[j]!.Put), .string (l[j]!.Key), .slice (l[j]!.Value.a) (l[j]!.Value.n) (l[j]!.Value.c), .int .i64 (l[j]!.Status), .int .i64 (l[j]!.From), .int .i64 (l[j]!.To), .bool (l[j]!.Open), .int .i64 (l[j]!.Tag.Count), .int .i64 (l[j]!.Tag.Client)] (by kernel_rfl) (fun w19 hp20 => ?_))
    refine ⟨.inr ⟨(show Ld Try.prog w19 41 ((adr a).add (i * 11)) (GCall.val (l[i]!)) from (Ld.add0 (Ld.elN (P := Try.prog) (t := 41) (hs.at hp20).rd 11 (fun _ => rfl) hy4 (o := 0) (cs := [.int .i64 (l[i]!.Client), .int .i64 (l[i]!.Op), .bool (l[i]!.Put), .string (l[i]!.Key), .slice (l[i]!.Value.a) (l[i]!.Value.n) (l[i]!.Value.c), .int .i64 (l[i]!.Status), .int .i64 (l[i]!.From), .int .i64 (l[i]!.To), .bool (l[i]!.Open), .int .i64 (l[i]!.Tag.Count), .int .i64 (l[i]!.Tag.Client)]) (by kernel_rfl)))), (show Ld Try.prog w19 41 ((adr a).add (j * 11)) (GCall.val (l[j]!)) from (Ld.add0 (Ld.elN (P := Try.prog) (t := 41) (hs.at hp20).rd 11 (fun _ => rfl) hy6 (o := 0) (cs := [.int .i64 (l[j]!.Client), .int .i64 (l[j]!.Op), .bool (l[j]!.Put), .string (l[j]!.Key), .slice (l[j]!.Value.a) (l[j]!.Value.n) (l[j]!.Value.c), .int .i64 (l[j]!.Status), .int .i64 (l[j]!.From), .int .i64 (l[j]!.To), .bool (l[j]!.Open), .int .i64 (l[j]!.Tag.Count), .int .i64 (l[j]!.Tag.Client)]) (by kernel_rfl)))), trivial⟩, ?_⟩
    refine HT.done (by kernel_rfl) ?_
    refine thn_n ?_
    refine WP.cut (fun e67 w68 => ∃ (x65 : Bool), (True) ∧ Bp x65 (((0 < (partT (l[i]!))) ∧ (0 < (partT (l[j]!))) ∧ ((l[i]!.Put) = true) ∧ (¬ ((l[i]!.Open) = true)) ∧ (0 ≤ (l[i]!.To)) ∧ ((l[i]!.To) < (l[j]!.From))) ∨ ((0 < (partT (l[i]!))) ∧ (0 < (partT (l[j]!))) ∧ (¬ ((l[i]!.Put) = true)) ∧ (0 ≤ (l[i]!.To)) ∧ ((l[i]!.To) < (l[j]!.From)))) ∧ List.map e67 [6] = [.bool x65] ∧ Hp w Non [Res.row g16 [.int .i64 (l[j]!.Client), .int .i64 (l[j]!.Op), .bool (l[j]!.Put), .string (l[j]!.Key), .slice (l[j]!.Value.a) (l[j]!.Value.n) (l[j]!.Value.c), .int .i64 (l[j]!.Status), .int .i64 (l[j]!.From), .int .i64 (l[j]!.To), .bool (l[j]!.Open), .int .i64 (l[j]!.Tag.Count), .int .i64 (l[j]!.Tag.Client)] 41, Res.row g13 [.int .i64 (l[i]!.Client), .int .i64 (l[i]!.Op), .bool (l[i]!.Put), .string (l[i]!.Key), .slice (l[i]!.Value.a) (l[i]!.Value.n) (l[i]!.Value.c), .int .i64 (l[i]!.Status), .int .i64 (l[i]!.From), .int .i64 (l[i]!.To), .bool (l[i]!.Open), .int .i64 (l[i]!.Tag.Count), .int .i64 (l[i]!.Tag.Client)] 41] w68) ?_ ?_
    · refine WP.region _ rfl (by kernel_rfl) ?_
      refine OPS.batch 1 {} [GCall.val (l[i]!)] [7, 8, 17] [.pointer (some ⟨g13, 0, none⟩), .pointer (some ⟨g16, 0, none⟩), GCall.val (l[i]!)] (.cons (show Ld Try.prog w19 41 ⟨g13, 0, none⟩ (GCall.val (l[i]!)) from Ld.rowN (cs := [.int .i64 (l[i]!.Client), .int .i64 (l[i]!.Op), .bool (l[i]!.Put), .string (l[i]!.Key), .slice (l[i]!.Value.a) (l[i]!.Value.n) (l[i]!.Value.c), .int .i64 (l[i]!.Status), .int .i64 (l[i]!.From), .int .i64 (l[i]!.To), .bool (l[i]!.Open), .int .i64 (l[i]!.Tag.Count), .int .i64 (l[i]!.Tag.Client)]) hp20.get1 (by kernel_rfl)) .nil) (by kernel_rfl) (fun b22 => ?_)
      refine OPS.cons (opStep.call (some 18) [GCall.val (l[i]!)] (by kernel_rfl) (top_part (l[i]!) _) ?_)
      rintro _ w25 ⟨rfl, hf26⟩
      refine ⟨_, rfl, ?_⟩
      have hp27 := hp20.step hf26
      refine OPS.batch 2 {} [] [7, 8, 20] [.pointer (some ⟨g13, 0, none⟩), .pointer (some ⟨g16, 0, none⟩), .bool (decide (0 < (partT (l[i]!))))] .nil (by kernel_rfl) (fun b28 => ?_)
      by_cases h29 : 0 < (partT (l[i]!))
      · refine OPS.batch 0 {} [] [7, 8, 20] [.pointer (some ⟨g13, 0, none⟩), .pointer (some ⟨g16, 0, none⟩), .bool (decide (0 < (partT (l[i]!))))] .nil (by kernel_rfl) (fun b30 => ?_)
        refine OPS.re [.pointer (some ⟨g13, 0, none⟩), .pointer (some ⟨g16, 0, none⟩), .bool true] (by rw [show (decide (0 < (partT (l[i]!)))) = true from Bp.dec.tt h29]) ?_
        refine OPS.batch 1 {} [GCall.val (l[j]!)] [7, 8, 20, 21] [.pointer (some ⟨g13, 0, none⟩), .pointer (some ⟨g16, 0, none⟩), .bool true, GCall.val (l[j]!)] (.cons (show Ld Try.prog w25 41 ⟨g16, 0, none⟩ (GCall.val (l[j]!)) from Ld.rowN (cs := [.int .i64 (l[j]!.Client), .int .i64 (l[j]!.Op), .bool (l[j]!.Put), .string (l[j]!.Key), .slice (l[j]!.Value.a) (l[j]!.Value.n) (l[j]!.Value.c), .int .i64 (l[j]!.Status), .int .i64 (l[j]!.From), .int .i64 (l[j]!.To), .bool (l[j]!.Open), .int .i64 (l[j]!.Tag.Count), .int .i64 (l[j]!.Tag.Client)]) hp27.get0 (by kernel_rfl)) .nil) (by kernel_rfl) (fun b31 => ?_)
        refine OPS.want (by kernel_rfl) ?_
        refine OPS.cons (opStep.call (some 22) [GCall.val (l[j]!)] (by kernel_rfl) (top_part (l[j]!) _) ?_)
        rintro _ w34 ⟨rfl, hf35⟩
        refine ⟨_, rfl, ?_⟩
        have hp36 := hp27.step hf35
        refine OPS.batch 3 { wraps := [24] } [] [7, 8, 25] [.pointer (some ⟨g13, 0, none⟩), .pointer (some ⟨g16, 0, none⟩), .bool (decide (0 < (partT (l[j]!))))] .nil (by kernel_rfl) (fun b37 => ?_)
        by_cases h38 : 0 < (partT (l[j]!))
        · refine OPS.batch 0 {} [] [7, 8, 25] [.pointer (some ⟨g13, 0, none⟩), .pointer (some ⟨g16, 0, none⟩), .bool (decide (0 < (partT (l[j]!))))] .nil (by kernel_rfl) (fun b39 => ?_)
          refine OPS.re [.pointer (some ⟨g13, 0, none⟩), .pointer (some ⟨g16, 0, none⟩), .bool true] (by rw [show (decide (0 < (partT (l[j]!)))) = true from Bp.dec.tt h38]) ?_
          refine OPS.batch 3 {} [.bool (l[i]!.Put)] [7, 8, 25, 28] [.pointer (some ⟨g13, 0, none⟩), .pointer (some ⟨g16, 0, none⟩), .bool true, .bool (l[i]!.Put)] (.cons (Ld.row1 (P := Try.prog) (t := 4) (o := 2) (v := .bool (l[i]!.Put)) hp36.get1 (by kernel_rfl)) .nil) (by kernel_rfl) (fun b40 => ?_)
          by_cases h41 : (l[i]!.Put) = true
          · refine OPS.batch 0 {} [] [7, 8, 25, 28] [.pointer (some ⟨g13, 0, none⟩), .pointer (some ⟨g16, 0, none⟩), .bool true, .bool (l[i]!.Put)] .nil (by kernel_rfl) (fun b42 => ?_)
            refine OPS.re [.pointer (some ⟨g13, 0, none⟩), .pointer (some ⟨g16, 0, none⟩), .bool true, .bool true] (by rw [show (l[i]!.Put) = true from Bp.var.tt h41]) ?_
            refine OPS.batch 6 { wraps := [31, 33] } [.bool (l[i]!.Open)] [7, 8, 34] [.pointer (some ⟨g13, 0, none⟩), .pointer (some ⟨g16, 0, none⟩), .bool (!(l[i]!.Open))] (.cons (Ld.row1 (P := Try.prog) (t := 4) (o := 8) (v := .bool (l[i]!.Open)) hp36.get1 (by kernel_rfl)) .nil) (by kernel_rfl) (fun b43 => ?_)
            by_cases h44 : (l[i]!.Open) = true
            · refine OPS.batch 0 {} [] [7, 8, 34] [.pointer (some ⟨g13, 0, none⟩), .pointer (some ⟨g16, 0, none⟩), .bool (!(l[i]!.Open))] .nil (by kernel_rfl) (fun b52 => ?_)
              refine OPS.re [.pointer (some ⟨g13, 0, none⟩), .pointer (some ⟨g16, 0, none⟩), .bool false] (by rw [show (!(l[i]!.Open)) = false from (Bp.not Bp.var).ff (fun k => k h44)]) ?_
              refine OPS.batch 12 { wraps := [38, 45] } [] [6] [.bool false] .nil (by kernel_rfl) (fun b53 => ?_)
              refine OPS.nil ?_
              refine thn_n ?_
              exact ⟨false, trivial, Bp.of Bp.f (by first | (simp only [h29, h38, h41, h44, iff_false, false_iff, iff_true, true_iff, Classical.not_not, and_true, true_and, and_false, false_and, or_true, true_or, or_false, false_or, not_true_eq_false, not_false_eq_true, and_self, or_self, iff_self]; done) | (simp [h29, h38, h41, h44]; done) | simp_all), by kernel_rfl, hp36⟩
            · refine OPS.batch 0 {} [] [7, 8, 34] [.pointer (some ⟨g13, 0, none⟩), .pointer (some ⟨g16, 0, none⟩), .bool (!(l[i]!.Open))] .nil (by kernel_rfl) (fun b45 => ?_)
              refine OPS.re [.pointer (some ⟨g13, 0, none⟩), .pointer (some ⟨g16, 0, none⟩), .bool true] (by rw [show (!(l[i]!.Open)) = true from (Bp.not Bp.var).tt h44]) ?_
              refine OPS.batch 5 { wraps := [38] } [.int .i64 (l[i]!.To)] [7, 8, 39] [.pointer (some ⟨g13, 0, none⟩), .pointer (some ⟨g16, 0, none⟩), .bool (decide (0 ≤ (l[i]!.To)))] (.cons (Ld.row1 (P := Try.prog) (t := 3) (o := 7) (v := .int .i64 (l[i]!.To)) hp36.get1 (by kernel_rfl)) .nil) (by kernel_rfl) (fun b46 => ?_)
              by_cases h47 : 0 ≤ (l[i]!.To)
              · refine OPS.batch 0 {} [] [7, 8, 39] [.pointer (some ⟨g13, 0, none⟩), .pointer (some ⟨g16, 0, none⟩), .bool (decide (0 ≤ (l[i]!.To)))] .nil (by kernel_rfl) (fun b48 => ?_)
                refine OPS.re [.pointer (some ⟨g13, 0, none⟩), .pointer (some ⟨g16, 0, none⟩), .bool true] (by rw [show (decide (0 ≤ (l[i]!.To))) = true from Bp.dec.tt h47]) ?_
                refine OPS.batch 7 { wraps := [45] } [.int .i64 (l[i]!.To), .int .i64 (l[j]!.From)] [6] [.bool (decide ((l[i]!.To) < (l[j]!.From)))] (.cons (Ld.row1 (P := Try.prog) (t := 3) (o := 7) (v := .int .i64 (l[i]!.To)) hp36.get1 (by kernel_rfl)) (.cons (Ld.row1 (P := Try.prog) (t := 3) (o := 6) (v := .int .i64 (l[j]!.From)) hp36.get0 (by kernel_rfl)) .nil)) (by kernel_rfl) (fun b49 => ?_)
                refine OPS.nil ?_
                refine thn_n ?_
                exact ⟨decide ((l[i]!.To) < (l[j]!.From)), trivial, Bp.of Bp.dec (by first | (simp only [h29, h38, h41, h44, h47, iff_false, false_iff, iff_true, true_iff, Classical.not_not, and_true, true_and, and_false, false_and, or_true, true_or, or_false, false_or, not_true_eq_false, not_false_eq_true, and_self, or_self, iff_self]; done) | (simp [h29, h38, h41, h44, h47]; done) | simp_all), by kernel_rfl, hp36⟩
              · refine OPS.batch 0 {} [] [7, 8, 39] [.pointer (some ⟨g13, 0, none⟩), .pointer (some ⟨g16, 0, none⟩), .bool (decide (0 ≤ (l[i]!.To)))] .nil (by kernel_rfl) (fun b50 => ?_)
                refine OPS.re [.pointer (some ⟨g13, 0, none⟩), .pointer (some ⟨g16, 0, none⟩), .bool false] (by rw [show (decide (0 ≤ (l[i]!.To))) = false from Bp.dec.ff h47]) ?_
                refine OPS.batch 7 { wraps := [45] } [] [6] [.bool false] .nil (by kernel_rfl) (fun b51 => ?_)
                refine OPS.nil ?_
                refine thn_n ?_
                exact ⟨false, trivial, Bp.of Bp.f (by first | (simp only [h29, h38, h41, h44, h47, iff_false, false_iff, iff_true, true_iff, Classical.not_not, and_true, true_and, and_false, false_and, or_true, true_or, or_false, false_or, not_true_eq_false, not_false_eq_true, and_self, or_self, iff_self]; done) | (simp [h29, h38, h41, h44, h47]; done) | simp_all), by kernel_rfl, hp36⟩
          · refine OPS.batch 0 {} [] [7, 8, 25, 28] [.pointer (some ⟨g13, 0, none⟩), .pointer (some ⟨g16, 0, none⟩), .bool true, .bool (l[i]!.Put)] .nil (by kernel_rfl) (fun b54 => ?_)
            refine OPS.re [.pointer (some ⟨g13, 0, none⟩), .pointer (some ⟨g16, 0, none⟩), .bool true, .bool false] (by rw [show (l[i]!.Put) = false from Bp.var.ff h41]) ?_
            refine OPS.batch 11 { wraps := [31, 33, 38] } [.int .i64 (l[i]!.To)] [7, 8, 39] [.pointer (some ⟨g13, 0, none⟩), .pointer (some ⟨g16, 0, none⟩), .bool (decide (0 ≤ (l[i]!.To)))] (.cons (Ld.row1 (P := Try.prog) (t := 3) (o := 7) (v := .int .i64 (l[i]!.To)) hp36.get1 (by kernel_rfl)) .nil) (by kernel_rfl) (fun b55 => ?_)
            by_cases h56 : 0 ≤ (l[i]!.To)
            · refine OPS.batch 0 {} [] [7, 8, 39] [.pointer (some ⟨g13, 0, none⟩), .pointer (some ⟨g16, 0, none⟩), .bool (decide (0 ≤ (l[i]!.To)))] .nil (by kernel_rfl) (fun b57 => ?_)
              refine OPS.re [.pointer (some ⟨g13, 0, none⟩), .pointer (some ⟨g16, 0, none⟩), .bool true] (by rw [show (decide (0 ≤ (l[i]!.To))) = true from Bp.dec.tt h56]) ?_
              refine OPS.batch 7 { wraps := [45] } [.int .i64 (l[i]!.To), .int .i64 (l[j]!.From)] [6] [.bool (decide ((l[i]!.To) < (l[j]!.From)))] (.cons (Ld.row1 (P := Try.prog) (t := 3) (o := 7) (v := .int .i64 (l[i]!.To)) hp36.get1 (by kernel_rfl)) (.cons (Ld.row1 (P := Try.prog) (t := 3) (o := 6) (v := .int .i64 (l[j]!.From)) hp36.get0 (by kernel_rfl)) .nil)) (by kernel_rfl) (fun b58 => ?_)
              refine OPS.nil ?_
              refine thn_n ?_
              exact ⟨decide ((l[i]!.To) < (l[j]!.From)), trivial, Bp.of Bp.dec (by first | (simp only [h29, h38, h41, h56, iff_false, false_iff, iff_true, true_iff, Classical.not_not, and_true, true_and, and_false, false_and, or_true, true_or, or_false, false_or, not_true_eq_false, not_false_eq_true, and_self, or_self, iff_self]; done) | (simp [h29, h38, h41, h56]; done) | simp_all), by kernel_rfl, hp36⟩
            · refine OPS.batch 0 {} [] [7, 8, 39] [.pointer (some ⟨g13, 0, none⟩), .pointer (some ⟨g16, 0, none⟩), .bool (decide (0 ≤ (l[i]!.To)))] .nil (by kernel_rfl) (fun b59 => ?_)
              refine OPS.re [.pointer (some ⟨g13, 0, none⟩), .pointer (some ⟨g16, 0, none⟩), .bool false] (by rw [show (decide (0 ≤ (l[i]!.To))) = false from Bp.dec.ff h56]) ?_
              refine OPS.batch 7 { wraps := [45] } [] [6] [.bool false] .nil (by kernel_rfl) (fun b60 => ?_)
              refine OPS.nil ?_
              refine thn_n ?_
              exact ⟨false, trivial, Bp.of Bp.f (by first | (simp only [h29, h38, h41, h56, iff_false, false_iff, iff_true, true_iff, Classical.not_not, and_true, true_and, and_false, false_and, or_true, true_or, or_false, false_or, not_true_eq_false, not_false_eq_true, and_self, or_self, iff_self]; done) | (simp [h29, h38, h41, h56]; done) | simp_all), by kernel_rfl, hp36⟩
        · refine OPS.batch 0 {} [] [7, 8, 25] [.pointer (some ⟨g13, 0, none⟩), .pointer (some ⟨g16, 0, none⟩), .bool (decide (0 < (partT (l[j]!))))] .nil (by kernel_rfl) (fun b61 => ?_)
          refine OPS.re [.pointer (some ⟨g13, 0, none⟩), .pointer (some ⟨g16, 0, none⟩), .bool false] (by rw [show (decide (0 < (partT (l[j]!)))) = false from Bp.dec.ff h38]) ?_
          refine OPS.batch 21 { wraps := [33, 38, 45] } [] [6] [.bool false] .nil (by kernel_rfl) (fun b62 => ?_)
          refine OPS.nil ?_
          refine thn_n ?_
          exact ⟨false, trivial, Bp.of Bp.f (by first | (simp only [h29, h38, iff_false, false_iff, iff_true, true_iff, Classical.not_not, and_true, true_and, and_false, false_and, or_true, true_or, or_false, false_or, not_true_eq_false, not_false_eq_true, and_self, or_self, iff_self]; done) | (simp [h29, h38]; done) | simp_all), by kernel_rfl, hp36⟩
      · refine OPS.batch 0 {} [] [7, 8, 20] [.pointer (some ⟨g13, 0, none⟩), .pointer (some ⟨g16, 0, none⟩), .bool (decide (0 < (partT (l[i]!))))] .nil (by kernel_rfl) (fun b63 => ?_)
        refine OPS.re [.pointer (some ⟨g13, 0, none⟩), .pointer (some ⟨g16, 0, none⟩), .bool false] (by rw [show (decide (0 < (partT (l[i]!)))) = false from Bp.dec.ff h29]) ?_
        refine OPS.batch 26 { wraps := [24, 33, 38, 45] } [] [6] [.bool false] .nil (by kernel_rfl) (fun b64 => ?_)
        refine OPS.nil ?_
        refine thn_n ?_
        exact ⟨false, trivial, Bp.of Bp.f (by first | (simp only [h29, iff_false, false_iff, iff_true, true_iff, Classical.not_not, and_true, true_and, and_false, false_and, or_true, true_or, or_false, false_or, not_true_eq_false, not_false_eq_true, and_self, or_self, iff_self]; done) | (simp [h29]; done) | simp_all), by kernel_rfl, hp27⟩
    rintro e67 w68 ⟨x65, hd70, hb66, hE71, hp69⟩
    obtain ⟨b72, rfl⟩ := toMk hE71
    clear hE71
    clear hd70
    refine WP.ret ?_
    refine bodyQ.of _ rfl [.bool x65] ⟨rfl, trivial⟩ ?_
    exact ⟨_, rfl, Bp.of hb66 (by simp only [aheadT]; rcases Bool.eq_false_or_eq_true l[i]!.Put with p | p <;> rcases Bool.eq_false_or_eq_true l[i]!.Open with q | q <;> simp only [p, q, iff_false, false_iff, iff_true, true_iff, Classical.not_not, and_true, true_and, and_false, false_and, or_true, true_or, or_false, false_or, not_true_eq_false, not_false_eq_true, and_self, or_self, Bool.false_eq_true] <;> omega), hp69.fr⟩
  refine AllR.cons _ rfl ?_ AllR.nil
  refine (opStep.alloc hp2 [.int .i64 0, .int .i64 0, .bool false, .string ByteArray.empty, .slice none 0 0, .int .i64 0, .int .i64 0, .int .i64 0, .bool false, .int .i64 0, .int .i64 0] (by kernel_rfl) (fun g75 w73 hp74 => ?_))
  refine ⟨.inr ⟨(show Ld Try.prog w73 41 ((adr a).add (i * 11)) (GCall.val (l[i]!)) from (Ld.add0 (Ld.elN (P := Try.prog) (t := 41) (hs.at hp74).rd 11 (fun _ => rfl) hy4 (o := 0) (cs := [.int .i64 (l[i]!.Client), .int .i64 (l[i]!.Op), .bool (l[i]!.Put), .string (l[i]!.Key), .slice (l[i]!.Value.a) (l[i]!.Value.n) (l[i]!.Value.c), .int .i64 (l[i]!.Status), .int .i64 (l[i]!.From), .int .i64 (l[i]!.To), .bool (l[i]!.Open), .int .i64 (l[i]!.Tag.Count), .int .i64 (l[i]!.Tag.Client)]) (by kernel_rfl)))), (show Ld Try.prog w73 41 ((adr a).add (j * 11)) (GCall.val (l[j]!)) from (Ld.add0 (Ld.elN (P := Try.prog) (t := 41) (hs.at hp74).rd 11 (fun _ => rfl) hy6 (o := 0) (cs := [.int .i64 (l[j]!.Client), .int .i64 (l[j]!.Op), .bool (l[j]!.Put), .string (l[j]!.Key), .slice (l[j]!.Value.a) (l[j]!.Value.n) (l[j]!.Value.c), .int .i64 (l[j]!.Status), .int .i64 (l[j]!.From), .int .i64 (l[j]!.To), .bool (l[j]!.Open), .int .i64 (l[j]!.Tag.Count), .int .i64 (l[j]!.Tag.Client)]) (by kernel_rfl)))), trivial⟩, ?_⟩
  refine HT.br (n := 2) [8] (by kernel_rfl) (by simp) ?_
  refine AllR.cons _ rfl ?_ AllR.nil
  refine (opStep.alloc hp74 [.int .i64 0, .int .i64 0, .bool false, .string ByteArray.empty, .slice none 0 0, .int .i64 0, .int .i64 0, .int .i64 0, .bool false, .int .i64 0, .int .i64 0] (by kernel_rfl) (fun g78 w76 hp77 => ?_))
  refine ⟨.inr ⟨(show Ld Try.prog w76 41 ((adr a).add (i * 11)) (GCall.val (l[i]!)) from (Ld.add0 (Ld.elN (P := Try.prog) (t := 41) (hs.at hp77).rd 11 (fun _ => rfl) hy4 (o := 0) (cs := [.int .i64 (l[i]!.Client), .int .i64 (l[i]!.Op), .bool (l[i]!.Put), .string (l[i]!.Key), .slice (l[i]!.Value.a) (l[i]!.Value.n) (l[i]!.Value.c), .int .i64 (l[i]!.Status), .int .i64 (l[i]!.From), .int .i64 (l[i]!.To), .bool (l[i]!.Open), .int .i64 (l[i]!.Tag.Count), .int .i64 (l[i]!.Tag.Client)]) (by kernel_rfl)))), (show Ld Try.prog w76 41 ((adr a).add (j * 11)) (GCall.val (l[j]!)) from (Ld.add0 (Ld.elN (P := Try.prog) (t := 41) (hs.at hp77).rd 11 (fun _ => rfl) hy6 (o := 0) (cs := [.int .i64 (l[j]!.Client), .int .i64 (l[j]!.Op), .bool (l[j]!.Put), .string (l[j]!.Key), .slice (l[j]!.Value.a) (l[j]!.Value.n) (l[j]!.Value.c), .int .i64 (l[j]!.Status), .int .i64 (l[j]!.From), .int .i64 (l[j]!.To), .bool (l[j]!.Open), .int .i64 (l[j]!.Tag.Count), .int .i64 (l[j]!.Tag.Client)]) (by kernel_rfl)))), trivial⟩, ?_⟩
  refine HT.br (n := 1) [10] (by kernel_rfl) (by simp) ?_
  refine AllR.cons _ rfl ?_ AllR.nil
  refine (opStep.store0 hp77 rfl [.int .i64 (l[i]!.Client), .int .i64 (l[i]!.Op), .bool (l[i]!.Put), .string (l[i]!.Key), .slice (l[i]!.Value.a) (l[i]!.Value.n) (l[i]!.Value.c), .int .i64 (l[i]!.Status), .int .i64 (l[i]!.From), .int .i64 (l[i]!.To), .bool (l[i]!.Open), .int .i64 (l[i]!.Tag.Count), .int .i64 (l[i]!.Tag.Client)] [.int .i64 (l[i]!.Client), .int .i64 (l[i]!.Op), .bool (l[i]!.Put), .string (l[i]!.Key), .slice (l[i]!.Value.a) (l[i]!.Value.n) (l[i]!.Value.c), .int .i64 (l[i]!.Status), .int .i64 (l[i]!.From), .int .i64 (l[i]!.To), .bool (l[i]!.Open), .int .i64 (l[i]!.Tag.Count), .int .i64 (l[i]!.Tag.Client)] (by kernel_rfl) (fun w79 hp80 => ?_))
  refine ⟨.inr ⟨(show Ld Try.prog w79 41 ((adr a).add (i * 11)) (GCall.val (l[i]!)) from (Ld.add0 (Ld.elN (P := Try.prog) (t := 41) (hs.at hp80).rd 11 (fun _ => rfl) hy4 (o := 0) (cs := [.int .i64 (l[i]!.Client), .int .i64 (l[i]!.Op), .bool (l[i]!.Put), .string (l[i]!.Key), .slice (l[i]!.Value.a) (l[i]!.Value.n) (l[i]!.Value.c), .int .i64 (l[i]!.Status), .int .i64 (l[i]!.From), .int .i64 (l[i]!.To), .bool (l[i]!.Open), .int .i64 (l[i]!.Tag.Count), .int .i64 (l[i]!.Tag.Client)]) (by kernel_rfl)))), (show Ld Try.prog w79 41 ((adr a).add (j * 11)) (GCall.val (l[j]!)) from (Ld.add0 (Ld.elN (P := Try.prog) (t := 41) (hs.at hp80).rd 11 (fun _ => rfl) hy6 (o := 0) (cs := [.int .i64 (l[j]!.Client), .int .i64 (l[j]!.Op), .bool (l[j]!.Put), .string (l[j]!.Key), .slice (l[j]!.Value.a) (l[j]!.Value.n) (l[j]!.Value.c), .int .i64 (l[j]!.Status), .int .i64 (l[j]!.From), .int .i64 (l[j]!.To), .bool (l[j]!.Open), .int .i64 (l[j]!.Tag.Count), .int .i64 (l[j]!.Tag.Client)]) (by kernel_rfl)))), trivial⟩, ?_⟩
  refine HT.br (n := 0) [11] (by kernel_rfl) (by simp) ?_
  refine AllR.cons _ rfl ?_ AllR.nil
  refine (opStep.store1 hp80 rfl [.int .i64 (l[j]!.Client), .int .i64 (l[j]!.Op), .bool (l[j]!.Put), .string (l[j]!.Key), .slice (l[j]!.Value.a) (l[j]!.Value.n) (l[j]!.Value.c), .int .i64 (l[j]!.Status), .int .i64 (l[j]!.From), .int .i64 (l[j]!.To), .bool (l[j]!.Open), .int .i64 (l[j]!.Tag.Count), .int .i64 (l[j]!.Tag.Client)] [.int .i64 (l[j]!.Client), .int .i64 (l[j]!.Op), .bool (l[j]!.Put), .string (l[j]!.Key), .slice (l[j]!.Value.a) (l[j]!.Value.n) (l[j]!.Value.c), .int .i64 (l[j]!.Status), .int .i64 (l[j]!.From), .int .i64 (l[j]!.To), .bool (l[j]!.Open), .int .i64 (l[j]!.Tag.Count), .int .i64 (l[j]!.Tag.Client)] (by kernel_rfl) (fun w81 hp82 => ?_))
  refine ⟨.inr ⟨(show Ld Try.prog w81 41 ((adr a).add (i * 11)) (GCall.val (l[i]!)) from (Ld.add0 (Ld.elN (P := Try.prog) (t := 41) (hs.at hp82).rd 11 (fun _ => rfl) hy4 (o := 0) (cs := [.int .i64 (l[i]!.Client), .int .i64 (l[i]!.Op), .bool (l[i]!.Put), .string (l[i]!.Key), .slice (l[i]!.Value.a) (l[i]!.Value.n) (l[i]!.Value.c), .int .i64 (l[i]!.Status), .int .i64 (l[i]!.From), .int .i64 (l[i]!.To), .bool (l[i]!.Open), .int .i64 (l[i]!.Tag.Count), .int .i64 (l[i]!.Tag.Client)]) (by kernel_rfl)))), (show Ld Try.prog w81 41 ((adr a).add (j * 11)) (GCall.val (l[j]!)) from (Ld.add0 (Ld.elN (P := Try.prog) (t := 41) (hs.at hp82).rd 11 (fun _ => rfl) hy6 (o := 0) (cs := [.int .i64 (l[j]!.Client), .int .i64 (l[j]!.Op), .bool (l[j]!.Put), .string (l[j]!.Key), .slice (l[j]!.Value.a) (l[j]!.Value.n) (l[j]!.Value.c), .int .i64 (l[j]!.Status), .int .i64 (l[j]!.From), .int .i64 (l[j]!.To), .bool (l[j]!.Open), .int .i64 (l[j]!.Tag.Count), .int .i64 (l[j]!.Tag.Client)]) (by kernel_rfl)))), trivial⟩, ?_⟩
  refine HT.done (by kernel_rfl) ?_
  refine thn_n ?_
  refine WP.cut (fun e129 w130 => ∃ (x127 : Bool), (True) ∧ Bp x127 (((0 < (partT (l[i]!))) ∧ (0 < (partT (l[j]!))) ∧ ((l[i]!.Put) = true) ∧ (¬ ((l[i]!.Open) = true)) ∧ (0 ≤ (l[i]!.To)) ∧ ((l[i]!.To) < (l[j]!.From))) ∨ ((0 < (partT (l[i]!))) ∧ (0 < (partT (l[j]!))) ∧ (¬ ((l[i]!.Put) = true)) ∧ (0 ≤ (l[i]!.To)) ∧ ((l[i]!.To) < (l[j]!.From)))) ∧ List.map e129 [6] = [.bool x127] ∧ Hp w Non [Res.row g78 [.int .i64 (l[i]!.Client), .int .i64 (l[i]!.Op), .bool (l[i]!.Put), .string (l[i]!.Key), .slice (l[i]!.Value.a) (l[i]!.Value.n) (l[i]!.Value.c), .int .i64 (l[i]!.Status), .int .i64 (l[i]!.From), .int .i64 (l[i]!.To), .bool (l[i]!.Open), .int .i64 (l[i]!.Tag.Count), .int .i64 (l[i]!.Tag.Client)] 41, Res.row g75 [.int .i64 (l[j]!.Client), .int .i64 (l[j]!.Op), .bool (l[j]!.Put), .string (l[j]!.Key), .slice (l[j]!.Value.a) (l[j]!.Value.n) (l[j]!.Value.c), .int .i64 (l[j]!.Status), .int .i64 (l[j]!.From), .int .i64 (l[j]!.To), .bool (l[j]!.Open), .int .i64 (l[j]!.Tag.Count), .int .i64 (l[j]!.Tag.Client)] 41] w130) ?_ ?_
  · refine WP.region _ rfl (by kernel_rfl) ?_
    refine OPS.batch 1 {} [GCall.val (l[i]!)] [7, 8, 17] [.pointer (some ⟨g78, 0, none⟩), .pointer (some ⟨g75, 0, none⟩), GCall.val (l[i]!)] (.cons (show Ld Try.prog w81 41 ⟨g78, 0, none⟩ (GCall.val (l[i]!)) from Ld.rowN (cs := [.int .i64 (l[i]!.Client), .int .i64 (l[i]!.Op), .bool (l[i]!.Put), .string (l[i]!.Key), .slice (l[i]!.Value.a) (l[i]!.Value.n) (l[i]!.Value.c), .int .i64 (l[i]!.Status), .int .i64 (l[i]!.From), .int .i64 (l[i]!.To), .bool (l[i]!.Open), .int .i64 (l[i]!.Tag.Count), .int .i64 (l[i]!.Tag.Client)]) hp82.get0 (by kernel_rfl)) .nil) (by kernel_rfl) (fun b84 => ?_)
    refine OPS.cons (opStep.call (some 18) [GCall.val (l[i]!)] (by kernel_rfl) (top_part (l[i]!) _) ?_)
    rintro _ w87 ⟨rfl, hf88⟩
    refine ⟨_, rfl, ?_⟩
    have hp89 := hp82.step hf88
    refine OPS.batch 2 {} [] [7, 8, 20] [.pointer (some ⟨g78, 0, none⟩), .pointer (some ⟨g75, 0, none⟩), .bool (decide (0 < (partT (l[i]!))))] .nil (by kernel_rfl) (fun b90 => ?_)
    by_cases h91 : 0 < (partT (l[i]!))
    · refine OPS.batch 0 {} [] [7, 8, 20] [.pointer (some ⟨g78, 0, none⟩), .pointer (some ⟨g75, 0, none⟩), .bool (decide (0 < (partT (l[i]!))))] .nil (by kernel_rfl) (fun b92 => ?_)
      refine OPS.re [.pointer (some ⟨g78, 0, none⟩), .pointer (some ⟨g75, 0, none⟩), .bool true] (by rw [show (decide (0 < (partT (l[i]!)))) = true from Bp.dec.tt h91]) ?_
      refine OPS.batch 1 {} [GCall.val (l[j]!)] [7, 8, 20, 21] [.pointer (some ⟨g78, 0, none⟩), .pointer (some ⟨g75, 0, none⟩), .bool true, GCall.val (l[j]!)] (.cons (show Ld Try.prog w87 41 ⟨g75, 0, none⟩ (GCall.val (l[j]!)) from Ld.rowN (cs := [.int .i64 (l[j]!.Client), .int .i64 (l[j]!.Op), .bool (l[j]!.Put), .string (l[j]!.Key), .slice (l[j]!.Value.a) (l[j]!.Value.n) (l[j]!.Value.c), .int .i64 (l[j]!.Status), .int .i64 (l[j]!.From), .int .i64 (l[j]!.To), .bool (l[j]!.Open), .int .i64 (l[j]!.Tag.Count), .int .i64 (l[j]!.Tag.Client)]) hp89.get1 (by kernel_rfl)) .nil) (by kernel_rfl) (fun b93 => ?_)
      refine OPS.want (by kernel_rfl) ?_
      refine OPS.cons (opStep.call (some 22) [GCall.val (l[j]!)] (by kernel_rfl) (top_part (l[j]!) _) ?_)
      rintro _ w96 ⟨rfl, hf97⟩
      refine ⟨_, rfl, ?_⟩
      have hp98 := hp89.step hf97
      refine OPS.batch 3 { wraps := [24] } [] [7, 8, 25] [.pointer (some ⟨g78, 0, none⟩), .pointer (some ⟨g75, 0, none⟩), .bool (decide (0 < (partT (l[j]!))))] .nil (by kernel_rfl) (fun b99 => ?_)
      by_cases h100 : 0 < (partT (l[j]!))
      · refine OPS.batch 0 {} [] [7, 8, 25] [.pointer (some ⟨g78, 0, none⟩), .pointer (some ⟨g75, 0, none⟩), .bool (decide (0 < (partT (l[j]!))))] .nil (by kernel_rfl) (fun b101 => ?_)
        refine OPS.re [.pointer (some ⟨g78, 0, none⟩), .pointer (some ⟨g75, 0, none⟩), .bool true] (by rw [show (decide (0 < (partT (l[j]!)))) = true from Bp.dec.tt h100]) ?_
        refine OPS.batch 3 {} [.bool (l[i]!.Put)] [7, 8, 25, 28] [.pointer (some ⟨g78, 0, none⟩), .pointer (some ⟨g75, 0, none⟩), .bool true, .bool (l[i]!.Put)] (.cons (Ld.row1 (P := Try.prog) (t := 4) (o := 2) (v := .bool (l[i]!.Put)) hp98.get0 (by kernel_rfl)) .nil) (by kernel_rfl) (fun b102 => ?_)
        by_cases h103 : (l[i]!.Put) = true
        · refine OPS.batch 0 {} [] [7, 8, 25, 28] [.pointer (some ⟨g78, 0, none⟩), .pointer (some ⟨g75, 0, none⟩), .bool true, .bool (l[i]!.Put)] .nil (by kernel_rfl) (fun b104 => ?_)
          refine OPS.re [.pointer (some ⟨g78, 0, none⟩), .pointer (some ⟨g75, 0, none⟩), .bool true, .bool true] (by rw [show (l[i]!.Put) = true from Bp.var.tt h103]) ?_
          refine OPS.batch 6 { wraps := [31, 33] } [.bool (l[i]!.Open)] [7, 8, 34] [.pointer (some ⟨g78, 0, none⟩), .pointer (some ⟨g75, 0, none⟩), .bool (!(l[i]!.Open))] (.cons (Ld.row1 (P := Try.prog) (t := 4) (o := 8) (v := .bool (l[i]!.Open)) hp98.get0 (by kernel_rfl)) .nil) (by kernel_rfl) (fun b105 => ?_)
          by_cases h106 : (l[i]!.Open) = true
          · refine OPS.batch 0 {} [] [7, 8, 34] [.pointer (some ⟨g78, 0, none⟩), .pointer (some ⟨g75, 0, none⟩), .bool (!(l[i]!.Open))] .nil (by kernel_rfl) (fun b114 => ?_)
            refine OPS.re [.pointer (some ⟨g78, 0, none⟩), .pointer (some ⟨g75, 0, none⟩), .bool false] (by rw [show (!(l[i]!.Open)) = false from (Bp.not Bp.var).ff (fun k => k h106)]) ?_
            refine OPS.batch 12 { wraps := [38, 45] } [] [6] [.bool false] .nil (by kernel_rfl) (fun b115 => ?_)
            refine OPS.nil ?_
            refine thn_n ?_
            exact ⟨false, trivial, Bp.of Bp.f (by first | (simp only [h91, h100, h103, h106, iff_false, false_iff, iff_true, true_iff, Classical.not_not, and_true, true_and, and_false, false_and, or_true, true_or, or_false, false_or, not_true_eq_false, not_false_eq_true, and_self, or_self, iff_self]; done) | (simp [h91, h100, h103, h106]; done) | simp_all), by kernel_rfl, hp98⟩
          · refine OPS.batch 0 {} [] [7, 8, 34] [.pointer (some ⟨g78, 0, none⟩), .pointer (some ⟨g75, 0, none⟩), .bool (!(l[i]!.Open))] .nil (by kernel_rfl) (fun b107 => ?_)
            refine OPS.re [.pointer (some ⟨g78, 0, none⟩), .pointer (some ⟨g75, 0, none⟩), .bool true] (by rw [show (!(l[i]!.Open)) = true from (Bp.not Bp.var).tt h106]) ?_
            refine OPS.batch 5 { wraps := [38] } [.int .i64 (l[i]!.To)] [7, 8, 39] [.pointer (some ⟨g78, 0, none⟩), .pointer (some ⟨g75, 0, none⟩), .bool (decide (0 ≤ (l[i]!.To)))] (.cons (Ld.row1 (P := Try.prog) (t := 3) (o := 7) (v := .int .i64 (l[i]!.To)) hp98.get0 (by kernel_rfl)) .nil) (by kernel_rfl) (fun b108 => ?_)
            by_cases h109 : 0 ≤ (l[i]!.To)
            · refine OPS.batch 0 {} [] [7, 8, 39] [.pointer (some ⟨g78, 0, none⟩), .pointer (some ⟨g75, 0, none⟩), .bool (decide (0 ≤ (l[i]!.To)))] .nil (by kernel_rfl) (fun b110 => ?_)
              refine OPS.re [.pointer (some ⟨g78, 0, none⟩), .pointer (some ⟨g75, 0, none⟩), .bool true] (by rw [show (decide (0 ≤ (l[i]!.To))) = true from Bp.dec.tt h109]) ?_
              refine OPS.batch 7 { wraps := [45] } [.int .i64 (l[i]!.To), .int .i64 (l[j]!.From)] [6] [.bool (decide ((l[i]!.To) < (l[j]!.From)))] (.cons (Ld.row1 (P := Try.prog) (t := 3) (o := 7) (v := .int .i64 (l[i]!.To)) hp98.get0 (by kernel_rfl)) (.cons (Ld.row1 (P := Try.prog) (t := 3) (o := 6) (v := .int .i64 (l[j]!.From)) hp98.get1 (by kernel_rfl)) .nil)) (by kernel_rfl) (fun b111 => ?_)
              refine OPS.nil ?_
              refine thn_n ?_
              exact ⟨decide ((l[i]!.To) < (l[j]!.From)), trivial, Bp.of Bp.dec (by first | (simp only [h91, h100, h103, h106, h109, iff_false, false_iff, iff_true, true_iff, Classical.not_not, and_true, true_and, and_false, false_and, or_true, true_or, or_false, false_or, not_true_eq_false, not_false_eq_true, and_self, or_self, iff_self]; done) | (simp [h91, h100, h103, h106, h109]; done) | simp_all), by kernel_rfl, hp98⟩
            · refine OPS.batch 0 {} [] [7, 8, 39] [.pointer (some ⟨g78, 0, none⟩), .pointer (some ⟨g75, 0, none⟩), .bool (decide (0 ≤ (l[i]!.To)))] .nil (by kernel_rfl) (fun b112 => ?_)
              refine OPS.re [.pointer (some ⟨g78, 0, none⟩), .pointer (some ⟨g75, 0, none⟩), .bool false] (by rw [show (decide (0 ≤ (l[i]!.To))) = false from Bp.dec.ff h109]) ?_
              refine OPS.batch 7 { wraps := [45] } [] [6] [.bool false] .nil (by kernel_rfl) (fun b113 => ?_)
              refine OPS.nil ?_
              refine thn_n ?_
              exact ⟨false, trivial, Bp.of Bp.f (by first | (simp only [h91, h100, h103, h106, h109, iff_false, false_iff, iff_true, true_iff, Classical.not_not, and_true, true_and, and_false, false_and, or_true, true_or, or_false, false_or, not_true_eq_false, not_false_eq_true, and_self, or_self, iff_self]; done) | (simp [h91, h100, h103, h106, h109]; done) | simp_all), by kernel_rfl, hp98⟩
        · refine OPS.batch 0 {} [] [7, 8, 25, 28] [.pointer (some ⟨g78, 0, none⟩), .pointer (some ⟨g75, 0, none⟩), .bool true, .bool (l[i]!.Put)] .nil (by kernel_rfl) (fun b116 => ?_)
          refine OPS.re [.pointer (some ⟨g78, 0, none⟩), .pointer (some ⟨g75, 0, none⟩), .bool true, .bool false] (by rw [show (l[i]!.Put) = false from Bp.var.ff h103]) ?_
          refine OPS.batch 11 { wraps := [31, 33, 38] } [.int .i64 (l[i]!.To)] [7, 8, 39] [.pointer (some ⟨g78, 0, none⟩), .pointer (some ⟨g75, 0, none⟩), .bool (decide (0 ≤ (l[i]!.To)))] (.cons (Ld.row1 (P := Try.prog) (t := 3) (o := 7) (v := .int .i64 (l[i]!.To)) hp98.get0 (by kernel_rfl)) .nil) (by kernel_rfl) (fun b117 => ?_)
          by_cases h118 : 0 ≤ (l[i]!.To)
          · refine OPS.batch 0 {} [] [7, 8, 39] [.pointer (some ⟨g78, 0, none⟩), .pointer (some ⟨g75, 0, none⟩), .bool (decide (0 ≤ (l[i]!.To)))] .nil (by kernel_rfl) (fun b119 => ?_)
            refine OPS.re [.pointer (some ⟨g78, 0, none⟩), .pointer (some ⟨g75, 0, none⟩), .bool true] (by rw [show (decide (0 ≤ (l[i]!.To))) = true from Bp.dec.tt h118]) ?_
            refine OPS.batch 7 { wraps := [45] } [.int .i64 (l[i]!.To), .int .i64 (l[j]!.From)] [6] [.bool (decide ((l[i]!.To) < (l[j]!.From)))] (.cons (Ld.row1 (P := Try.prog) (t := 3) (o := 7) (v := .int .i64 (l[i]!.To)) hp98.get0 (by kernel_rfl)) (.cons (Ld.row1 (P := Try.prog) (t := 3) (o := 6) (v := .int .i64 (l[j]!.From)) hp98.get1 (by kernel_rfl)) .nil)) (by kernel_rfl) (fun b120 => ?_)
            refine OPS.nil ?_
            refine thn_n ?_
            exact ⟨decide ((l[i]!.To) < (l[j]!.From)), trivial, Bp.of Bp.dec (by first | (simp only [h91, h100, h103, h118, iff_false, false_iff, iff_true, true_iff, Classical.not_not, and_true, true_and, and_false, false_and, or_true, true_or, or_false, false_or, not_true_eq_false, not_false_eq_true, and_self, or_self, iff_self]; done) | (simp [h91, h100, h103, h118]; done) | simp_all), by kernel_rfl, hp98⟩
          · refine OPS.batch 0 {} [] [7, 8, 39] [.pointer (some ⟨g78, 0, none⟩), .pointer (some ⟨g75, 0, none⟩), .bool (decide (0 ≤ (l[i]!.To)))] .nil (by kernel_rfl) (fun b121 => ?_)
            refine OPS.re [.pointer (some ⟨g78, 0, none⟩), .pointer (some ⟨g75, 0, none⟩), .bool false] (by rw [show (decide (0 ≤ (l[i]!.To))) = false from Bp.dec.ff h118]) ?_
            refine OPS.batch 7 { wraps := [45] } [] [6] [.bool false] .nil (by kernel_rfl) (fun b122 => ?_)
            refine OPS.nil ?_
            refine thn_n ?_
            exact ⟨false, trivial, Bp.of Bp.f (by first | (simp only [h91, h100, h103, h118, iff_false, false_iff, iff_true, true_iff, Classical.not_not, and_true, true_and, and_false, false_and, or_true, true_or, or_false, false_or, not_true_eq_false, not_false_eq_true, and_self, or_self, iff_self]; done) | (simp [h91, h100, h103, h118]; done) | simp_all), by kernel_rfl, hp98⟩
      · refine OPS.batch 0 {} [] [7, 8, 25] [.pointer (some ⟨g78, 0, none⟩), .pointer (some ⟨g75, 0, none⟩), .bool (decide (0 < (partT (l[j]!))))] .nil (by kernel_rfl) (fun b123 => ?_)
        refine OPS.re [.pointer (some ⟨g78, 0, none⟩), .pointer (some ⟨g75, 0, none⟩), .bool false] (by rw [show (decide (0 < (partT (l[j]!)))) = false from Bp.dec.ff h100]) ?_
        refine OPS.batch 21 { wraps := [33, 38, 45] } [] [6] [.bool false] .nil (by kernel_rfl) (fun b124 => ?_)
        refine OPS.nil ?_
        refine thn_n ?_
        exact ⟨false, trivial, Bp.of Bp.f (by first | (simp only [h91, h100, iff_false, false_iff, iff_true, true_iff, Classical.not_not, and_true, true_and, and_false, false_and, or_true, true_or, or_false, false_or, not_true_eq_false, not_false_eq_true, and_self, or_self, iff_self]; done) | (simp [h91, h100]; done) | simp_all), by kernel_rfl, hp98⟩
    · refine OPS.batch 0 {} [] [7, 8, 20] [.pointer (some ⟨g78, 0, none⟩), .pointer (some ⟨g75, 0, none⟩), .bool (decide (0 < (partT (l[i]!))))] .nil (by kernel_rfl) (fun b125 => ?_)
      refine OPS.re [.pointer (some ⟨g78, 0, none⟩), .pointer (some ⟨g75, 0, none⟩), .bool false] (by rw [show (decide (0 < (partT (l[i]!)))) = false from Bp.dec.ff h91]) ?_
      refine OPS.batch 26 { wraps := [24, 33, 38, 45] } [] [6] [.bool false] .nil (by kernel_rfl) (fun b126 => ?_)
      refine OPS.nil ?_
      refine thn_n ?_
      exact ⟨false, trivial, Bp.of Bp.f (by first | (simp only [h91, iff_false, false_iff, iff_true, true_iff, Classical.not_not, and_true, true_and, and_false, false_and, or_true, true_or, or_false, false_or, not_true_eq_false, not_false_eq_true, and_self, or_self, iff_self]; done) | (simp [h91]; done) | simp_all), by kernel_rfl, hp89⟩
  rintro e129 w130 ⟨x127, hd132, hb128, hE133, hp131⟩
  obtain ⟨b134, rfl⟩ := toMk hE133
  clear hE133
  clear hd132
  refine WP.ret ?_
  refine bodyQ.of _ rfl [.bool x127] ⟨rfl, trivial⟩ ?_
  exact ⟨_, rfl, Bp.of hb128 (by simp only [aheadT]; rcases Bool.eq_false_or_eq_true l[i]!.Put with p | p <;> rcases Bool.eq_false_or_eq_true l[i]!.Open with q | q <;> simp only [p, q, iff_false, false_iff, iff_true, true_iff, Classical.not_not, and_true, true_and, and_false, false_and, or_true, true_or, or_false, false_or, not_true_eq_false, not_false_eq_true, and_self, or_self, Bool.false_eq_true] <;> omega), hp131.fr⟩

theorem top_fits (l : List GCall) (n : Nat) (hn : l.length = n) (a : Option Addr) (cp : Nat) (w : World) (hs : SlR w a n (l.flatMap GCall.cells)) (hv : ∀ x ∈ l, VB w x.Value) (hr : ByR w l) (hvn : ∀ x ∈ l, x.Value.n ≤ 1048576) (hll : l.length ≤ 1048576) (last : Int) (i : Nat) (hi : i < n) (hl : last < (n : Int)) :
    Calls Try.prog 101 #[.slice a n cp, .int .i64 last, .int .i64 (i : Int)] w (fun r_ w' => ∃ f_, r_ = .returned (.bool f_) ∧ Bp f_ (fitT (valAt w) l last i) ∧ Fram Non w w') := by
  refine calls_of Try.func101 rfl 31 rfl (by simp) ?_
  have hp0 := Hp.init w
  have he0 : List.map (env0 [.slice a n cp, .int .i64 last, .int .i64 (i : Int)]) [0, 1, 2] = [.slice a n cp, .int .i64 last, .int .i64 (i : Int)] := by kernel_rfl
  obtain ⟨b0, he0⟩ := toMk he0
  rw [he0]
  clear he0
  refine WP.seq ?_
  refine WP.pure {} [] [0, 1, 2] [.slice a n cp, .int .i64 last, .int .i64 (i : Int)] .nil (by kernel_rfl) (fun b1 => ?_)
  refine thn_n ?_
  refine WP.seq ?_
  refine WP.region _ rfl (by kernel_rfl) ?_
  have hy5 : (l)[i]? = some l[i]! := get_bang (by first | (omega) | (simp only [List.length_append, List.length_cons, List.length_nil]; omega) | (simp only [List.length_take, List.length_append, List.length_cons, List.length_nil]; omega))
  refine OPS.batch 4 {} [GCall.val (l[i]!)] [0, 1, 11] [.slice a n cp, .int .i64 last, GCall.val (l[i]!)] (.cons (show InB ((i : Int)) (n) from ⟨by omega, by omega⟩) (.cons ((hs.at hp0).some (by omega)) (.cons (Ld.add0 (Ld.elN (P := Try.prog) (t := 41) (hs.at hp0).rd 11 (fun _ => rfl) hy5 (o := 0) (cs := [.int .i64 (l[i]!.Client), .int .i64 (l[i]!.Op), .bool (l[i]!.Put), .string (l[i]!.Key), .slice (l[i]!.Value.a) (l[i]!.Value.n) (l[i]!.Value.c), .int .i64 (l[i]!.Status), .int .i64 (l[i]!.From), .int .i64 (l[i]!.To), .bool (l[i]!.Open), .int .i64 (l[i]!.Tag.Count), .int .i64 (l[i]!.Tag.Client)]) (by kernel_rfl))) .nil))) (by kernel_rfl) (fun b6 => ?_)
  refine OPS.cons (opStep.alloc hp0 [.int .i64 0, .int .i64 0, .bool false, .string ByteArray.empty, .slice none 0 0, .int .i64 0, .int .i64 0, .int .i64 0, .bool false, .int .i64 0, .int .i64 0] (by kernel_rfl) (fun g9 w7 hp8 => ?_))
  refine OPS.cons (opStep.store0 hp8 rfl [.int .i64 (l[i]!.Client), .int .i64 (l[i]!.Op), .bool (l[i]!.Put), .string (l[i]!.Key), .slice (l[i]!.Value.a) (l[i]!.Value.n) (l[i]!.Value.c), .int .i64 (l[i]!.Status), .int .i64 (l[i]!.From), .int .i64 (l[i]!.To), .bool (l[i]!.Open), .int .i64 (l[i]!.Tag.Count), .int .i64 (l[i]!.Tag.Client)] [.int .i64 (l[i]!.Client), .int .i64 (l[i]!.Op), .bool (l[i]!.Put), .string (l[i]!.Key), .slice (l[i]!.Value.a) (l[i]!.Value.n) (l[i]!.Value.c), .int .i64 (l[i]!.Status), .int .i64 (l[i]!.From), .int .i64 (l[i]!.To), .bool (l[i]!.Open), .int .i64 (l[i]!.Tag.Count), .int .i64 (l[i]!.Tag.Client)] (by kernel_rfl) (fun w10 hp11 => ?_))
  refine OPS.nil ?_
  refine thn_n ?_
  refine WP.seq ?_
  refine WP.seq ?_
  refine WP.pure {} [.bool (l[i]!.Put)] [0, 1, 7, 13] [.slice a n cp, .int .i64 last, .pointer (some ⟨g9, 0, none⟩), .bool (l[i]!.Put)] (.cons (Ld.row1 (P := Try.prog) (t := 4) (o := 2) (v := .bool (l[i]!.Put)) hp11.get0 (by kernel_rfl)) .nil) (by kernel_rfl) (fun b12 => ?_)
  refine thn_n ?_
  refine WP.test (p := (l[i]!.Put) = true) rfl Bp.var (fun h13 => ?_) (fun h13 => ?_)
  · refine WP.seq ?_
    refine WP.pure {} [] [6] [.bool true] .nil (by kernel_rfl) (fun b14 => ?_)
    refine thn_n ?_
    refine WP.ret ?_
    refine thn_r ?_
    refine bodyQ.of _ rfl [.bool true] ⟨rfl, trivial⟩ ?_
    exact ⟨_, rfl, Bp.of Bp.t (by exact ⟨fun _ => .inl h13, fun _ => trivial⟩), hp11.fr⟩
  · refine WP.skip ?_
    refine thn_n ?_
    refine WP.seq ?_
    refine WP.seq ?_
    refine WP.pure {} [.int .i64 (l[i]!.Status)] [0, 1, 7, 16] [.slice a n cp, .int .i64 last, .pointer (some ⟨g9, 0, none⟩), .bool (decide ((l[i]!.Status) = 76))] (.cons (Ld.row1 (P := Try.prog) (t := 27) (o := 5) (v := .int .i64 (l[i]!.Status)) hp11.get0 (by kernel_rfl)) .nil) (by kernel_rfl) (fun b15 => ?_)
    refine thn_n ?_
    refine WP.test (p := (l[i]!.Status) = 76) rfl Bp.dec (fun h16 => ?_) (fun h16 => ?_)
    · refine WP.seq ?_
      refine WP.pure {} [] [6] [.bool (decide (last < 0))] .nil (by kernel_rfl) (fun b17 => ?_)
      refine thn_n ?_
      refine WP.ret ?_
      refine thn_r ?_
      refine bodyQ.of _ rfl [.bool (decide (last < 0))] ⟨rfl, trivial⟩ ?_
      exact ⟨_, rfl, Bp.of Bp.dec (by simp only [fitT, explP]; rw [if_pos h16]; exact ⟨.inr, fun h => h.resolve_left h13⟩), hp11.fr⟩
    · refine WP.skip ?_
      refine thn_n ?_
      refine WP.cut (fun e47 w48 => ∃ (x45 : Bool), (True) ∧ Bp x45 ((0 ≤ last) ∧ (valAt w l[(last : Int).toNat]!.Value = valAt w l[i]!.Value)) ∧ List.map e47 [6] = [.bool x45] ∧ Hp w Non [Res.row g9 [.int .i64 (l[i]!.Client), .int .i64 (l[i]!.Op), .bool (l[i]!.Put), .string (l[i]!.Key), .slice (l[i]!.Value.a) (l[i]!.Value.n) (l[i]!.Value.c), .int .i64 (l[i]!.Status), .int .i64 (l[i]!.From), .int .i64 (l[i]!.To), .bool (l[i]!.Open), .int .i64 (l[i]!.Tag.Count), .int .i64 (l[i]!.Tag.Client)] 41] w48) ?_ ?_
      · have hp21 := hp11.drew
        refine WP.quiet (fun w19 => Hp w Non [Res.row g9 [.int .i64 (l[i]!.Client), .int .i64 (l[i]!.Op), .bool (l[i]!.Put), .string (l[i]!.Key), .slice (l[i]!.Value.a) (l[i]!.Value.n) (l[i]!.Value.c), .int .i64 (l[i]!.Status), .int .i64 (l[i]!.From), .int .i64 (l[i]!.To), .bool (l[i]!.Open), .int .i64 (l[i]!.Tag.Count), .int .i64 (l[i]!.Tag.Client)] 41] w19) (by kernel_rfl) hp21 ?_
        have hnehp21 : ∃ wz_, (fun w19 => Hp w Non [Res.row g9 [.int .i64 (l[i]!.Client), .int .i64 (l[i]!.Op), .bool (l[i]!.Put), .string (l[i]!.Key), .slice (l[i]!.Value.a) (l[i]!.Value.n) (l[i]!.Value.c), .int .i64 (l[i]!.Status), .int .i64 (l[i]!.From), .int .i64 (l[i]!.To), .bool (l[i]!.Open), .int .i64 (l[i]!.Tag.Count), .int .i64 (l[i]!.Tag.Client)] 41] w19) wz_ := ⟨_, hp21⟩
        refine QOPS.batch 3 {} [] [0, 1, 7, 21] [.slice a n cp, .int .i64 last, .pointer (some ⟨g9, 0, none⟩), .bool (decide (0 ≤ last))] hnehp21 (fun w22 hp23 => QB.mk .nil (by kernel_rfl)) (fun b24 => ?_)
        by_cases h25 : 0 ≤ last
        · refine QOPS.batch 0 {} [] [0, 1, 7, 21] [.slice a n cp, .int .i64 last, .pointer (some ⟨g9, 0, none⟩), .bool (decide (0 ≤ last))] hnehp21 (fun _ _ => QB.mk .nil (by kernel_rfl)) (fun b26 => ?_)
          refine QOPS.re [.slice a n cp, .int .i64 last, .pointer (some ⟨g9, 0, none⟩), .bool true] (by rw [show (decide (0 ≤ last)) = true from Bp.dec.tt h25]) ?_
          have hy30 : (l)[(last : Int).toNat]? = some l[(last : Int).toNat]! := get_bang (by first | (omega) | (simp only [List.length_append, List.length_cons, List.length_nil]; omega) | (simp only [List.length_take, List.length_append, List.length_cons, List.length_nil]; omega))
          refine QOPS.batch 7 {} [.slice (l[(last : Int).toNat]!.Value.a) (l[(last : Int).toNat]!.Value.n) (l[(last : Int).toNat]!.Value.c), .slice (l[i]!.Value.a) (l[i]!.Value.n) (l[i]!.Value.c)] [21, 26, 28] [.bool true, .slice (l[(last : Int).toNat]!.Value.a) (l[(last : Int).toNat]!.Value.n) (l[(last : Int).toNat]!.Value.c), .slice (l[i]!.Value.a) (l[i]!.Value.n) (l[i]!.Value.c)] hnehp21 (fun w27 hp28 => QB.mk (.cons (show InB (last) (n) from ⟨by omega, by omega⟩) (.cons ((hs.at hp28).some (by omega)) (.cons (Ld.el1 (P := Try.prog) (t := 39) (hs.at hp28).rd 11 (fun _ => rfl) hy30 (o := 4) (v := .slice (l[(last : Int).toNat]!.Value.a) (l[(last : Int).toNat]!.Value.n) (l[(last : Int).toNat]!.Value.c)) (by kernel_rfl)) (.cons (Ld.row1 (P := Try.prog) (t := 39) (o := 4) (v := .slice (l[i]!.Value.a) (l[i]!.Value.n) (l[i]!.Value.c)) hp28.get0 (by kernel_rfl)) .nil)))) (by kernel_rfl)) (fun b31 => ?_)
          refine QOPS.call (some 29) [.slice (l[(last : Int).toNat]!.Value.a) (l[(last : Int).toNat]!.Value.n) (l[(last : Int).toNat]!.Value.c), .slice (l[i]!.Value.a) (l[i]!.Value.n) (l[i]!.Value.c)] (by kernel_rfl) (fun w32 hp33 => (top_same_at w _ hp33.fr l[(last : Int).toNat]!.Value l[i]!.Value (hv l[(last : Int).toNat]! (List.mem_of_getElem? hy30)) (hv l[i]! (List.mem_of_getElem? hy5)) (hr _ (List.mem_of_getElem? (get_bang (l := l) (i := (last : Int).toNat) (by omega)))) (hr _ (List.mem_of_getElem? (get_bang (l := l) (i := i) (by omega)))) (hvn _ (List.mem_of_getElem? (get_bang (l := l) (i := (last : Int).toNat) (by omega))))).mono fun _ _ h => by obtain ⟨b, h1, h2, h3⟩ := h; exact ⟨by rw [h1, h2.eq_bo], hp33.step h3⟩) ?_
          refine QOPS.batch 2 { wraps := [30] } [] [6] [.bool (bo (valAt w l[(last : Int).toNat]!.Value = valAt w l[i]!.Value))] hnehp21 (fun w34 hp35 => QB.mk .nil (by kernel_rfl)) (fun b36 => ?_)
          refine QOPS.nil (fun w37 hp38 => ?_)
          refine thn_n ?_
          exact ⟨bo (valAt w l[(last : Int).toNat]!.Value = valAt w l[i]!.Value), trivial, Bp.of Bp.bo (by first | (simp only [h25, iff_false, false_iff, iff_true, true_iff, Classical.not_not, and_true, true_and, and_false, false_and, or_true, true_or, or_false, false_or, not_true_eq_false, not_false_eq_true, and_self, or_self, iff_self]; done) | (simp [h25]; done) | simp_all), by kernel_rfl, hp38⟩
        · refine QOPS.batch 0 {} [] [0, 1, 7, 21] [.slice a n cp, .int .i64 last, .pointer (some ⟨g9, 0, none⟩), .bool (decide (0 ≤ last))] hnehp21 (fun _ _ => QB.mk .nil (by kernel_rfl)) (fun b39 => ?_)
          refine QOPS.re [.slice a n cp, .int .i64 last, .pointer (some ⟨g9, 0, none⟩), .bool false] (by rw [show (decide (0 ≤ last)) = false from Bp.dec.ff h25]) ?_
          refine QOPS.batch 10 { wraps := [30] } [] [6] [.bool false] hnehp21 (fun w40 hp41 => QB.mk .nil (by kernel_rfl)) (fun b42 => ?_)
          refine QOPS.nil (fun w43 hp44 => ?_)
          refine thn_n ?_
          exact ⟨false, trivial, Bp.of Bp.f (by first | (simp only [h25, iff_false, false_iff, iff_true, true_iff, Classical.not_not, and_true, true_and, and_false, false_and, or_true, true_or, or_false, false_or, not_true_eq_false, not_false_eq_true, and_self, or_self, iff_self]; done) | (simp [h25]; done) | simp_all), by kernel_rfl, hp44⟩
      rintro e47 w48 ⟨x45, hd50, hb46, hE51, hp49⟩
      obtain ⟨b52, rfl⟩ := toMk hE51
      clear hE51
      clear hd50
      refine WP.ret ?_
      refine bodyQ.of _ rfl [.bool x45] ⟨rfl, trivial⟩ ?_
      exact ⟨_, rfl, Bp.of hb46 (by simp only [fitT, explP]; rw [if_neg h16]; exact ⟨fun q => .inr ⟨q.1, _, get_bang (by omega), q.2⟩, fun q => by rcases q with q | ⟨q1, y, q2, q3⟩; exact absurd q h13; (rw [get_bang (by omega)] at q2; cases q2; exact ⟨q1, q3⟩)⟩), hp49.fr⟩

theorem top_wanted (l : List GCall) (n : Nat) (hn : l.length = n) (a : Option Addr) (cp : Nat) (w : World) (hs : SlR w a n (l.flatMap GCall.cells)) (hv : ∀ x ∈ l, VB w x.Value) (hr : ByR w l) (hvn : ∀ x ∈ l, x.Value.n ≤ 1048576) (hll : l.length ≤ 1048576) (inn : List Bool) (ai : Option Addr) (ni ci : Nat) (hi : SlR w ai ni (inn.flatMap (fun (y : Bool) => [Go.Value.bool y]))) (hil : inn.length = l.length) (hin : ni = l.length) (i : Nat) (hi2 : i < n) :
    Calls Try.prog 121 #[.slice a n cp, .slice ai ni ci, .int .i64 (i : Int)] w (fun r_ w' => ∃ f_, r_ = .returned (.bool f_) ∧ Bp f_ (wantT (valAt w) l inn i) ∧ Fram Non w w') := by
  refine calls_of Try.func121 rfl 53 rfl (by simp) ?_
  have hp0 := Hp.init w
  have he0 : List.map (env0 [.slice a n cp, .slice ai ni ci, .int .i64 (i : Int)]) [0, 1, 2] = [.slice a n cp, .slice ai ni ci, .int .i64 (i : Int)] := by kernel_rfl
  obtain ⟨b0, he0⟩ := toMk he0
  rw [he0]
  clear he0
  refine WP.seq ?_
  refine WP.pure {} [] [0, 1, 2] [.slice a n cp, .slice ai ni ci, .int .i64 (i : Int)] .nil (by kernel_rfl) (fun b1 => ?_)
  refine thn_n ?_
  refine WP.seq ?_
  refine WP.seq ?_
  refine WP.region _ rfl (by kernel_rfl) ?_
  have hy5 : (l)[i]? = some l[i]! := get_bang (by first | (omega) | (simp only [List.length_append, List.length_cons, List.length_nil]; omega) | (simp only [List.length_take, List.length_append, List.length_cons, List.length_nil]; omega))
  refine OPS.batch 4 {} [GCall.val (l[i]!)] [0, 1, 2, 12] [.slice a n cp, .slice ai ni ci, .int .i64 (i : Int), GCall.val (l[i]!)] (.cons (show InB ((i : Int)) (n) from ⟨by omega, by omega⟩) (.cons ((hs.at hp0).some (by omega)) (.cons (Ld.add0 (Ld.elN (P := Try.prog) (t := 41) (hs.at hp0).rd 11 (fun _ => rfl) hy5 (o := 0) (cs := [.int .i64 (l[i]!.Client), .int .i64 (l[i]!.Op), .bool (l[i]!.Put), .string (l[i]!.Key), .slice (l[i]!.Value.a) (l[i]!.Value.n) (l[i]!.Value.c), .int .i64 (l[i]!.Status), .int .i64 (l[i]!.From), .int .i64 (l[i]!.To), .bool (l[i]!.Open), .int .i64 (l[i]!.Tag.Count), .int .i64 (l[i]!.Tag.Client)]) (by kernel_rfl))) .nil))) (by kernel_rfl) (fun b6 => ?_)
  refine OPS.cons (opStep.call (some 13) [GCall.val (l[i]!)] (by kernel_rfl) (top_part (l[i]!) _) ?_)
  rintro _ w9 ⟨rfl, hf10⟩
  refine ⟨_, rfl, ?_⟩
  have hp11 := hp0.step hf10
  refine OPS.batch 1 {} [] [0, 1, 2, 14] [.slice a n cp, .slice ai ni ci, .int .i64 (i : Int), .bool (decide (¬ ((partT (l[i]!)) = 1)))] .nil (by kernel_rfl) (fun b12 => ?_)
  refine OPS.nil ?_
  refine thn_n ?_
  refine WP.test (p := ¬ ((partT (l[i]!)) = 1)) rfl Bp.dec (fun h13 => ?_) (fun h13 => ?_)
  · refine WP.seq ?_
    refine WP.pure {} [] [6] [.bool true] .nil (by kernel_rfl) (fun b14 => ?_)
    refine thn_n ?_
    refine WP.ret ?_
    refine thn_r ?_
    refine bodyQ.of _ rfl [.bool true] ⟨rfl, trivial⟩ ?_
    exact ⟨_, rfl, Bp.of Bp.t (by exact ⟨fun _ => .inl h13, fun _ => trivial⟩), hp11.fr⟩
  · replace h13 := Classical.not_not.1 h13
    refine WP.skip ?_
    refine thn_n ?_
    refine WP.seq ?_
    refine WP.seq ?_
    refine WP.pure {} [] [0, 1, 2, 15, 16, 17] [.slice a n cp, .slice ai ni ci, .int .i64 (i : Int), .slice a n cp, .int .i64 ((n : Nat) : Int), .int .i64 0] .nil (by kernel_rfl) (fun b15 => ?_)
    refine thn_n ?_
    refine WP.block ?_
    refine WP.loop (fun mz_ e16 w17 => ∃ (k : Nat), mz_ = l.length - k ∧ (k ≤ l.length ∧ ∀ j, j < k → ¬ (¬ inn[j]! = true ∧ ¬ l[j]!.Put = true ∧ partT l[j]! = 2 ∧ l[j]!.Status = 0 ∧ valAt w l[j]!.Value = valAt w l[i]!.Value)) ∧ List.map e16 [0, 1, 2, 15, 16, 17] = [.slice a n cp, .slice ai ni ci, .int .i64 (i : Int), .slice a n cp, .int .i64 ((n : Nat) : Int), .int .i64 (k : Int)] ∧ Hp w Non [] w17) (l.length - (0)) ⟨0, rfl, ⟨by omega, fun j hj => by omega⟩, by kernel_rfl, hp11⟩ ?_
    rintro _ e16 w17 ⟨k, rfl, hI19, hE20, hp18⟩
    obtain ⟨b21, rfl⟩ := toMk hE20
    clear hE20
    obtain ⟨q1, q2⟩ := hI19
    refine WP.seq ?_
    refine WP.pure {} [] [0, 1, 2, 15, 16, 17, 18] [.slice a n cp, .slice ai ni ci, .int .i64 (i : Int), .slice a n cp, .int .i64 ((n : Nat) : Int), .int .i64 (k : Int), .bool (decide ((k : Int) < ((n : Nat) : Int)))] .nil (by kernel_rfl) (fun b22 => ?_)
    refine thn_n ?_
    refine WP.seq ?_
    refine WP.test (p := (k : Int) < ((n : Nat) : Int)) rfl Bp.dec (fun h23 => ?_) (fun h23 => ?_)
    · refine WP.skip ?_
      refine thn_n ?_
      refine WP.seq ?_
      refine WP.block ?_
      refine WP.seq ?_
      refine WP.region _ rfl (by kernel_rfl) ?_
      have hy27 : (l)[k]? = some l[k]! := get_bang (by first | (omega) | (simp only [List.length_append, List.length_cons, List.length_nil]; omega) | (simp only [List.length_take, List.length_append, List.length_cons, List.length_nil]; omega))
      refine OPS.batch 3 {} [GCall.val (l[k]!)] [0, 1, 2, 15, 16, 17, 19, 21] [.slice a n cp, .slice ai ni ci, .int .i64 (i : Int), .slice a n cp, .int .i64 ((n : Nat) : Int), .int .i64 (k : Int), .int .i64 (k : Int), GCall.val (l[k]!)] (.cons (show InB ((k : Int)) (n) from ⟨by omega, by omega⟩) (.cons ((hs.at hp18).some (by omega)) (.cons (Ld.add0 (Ld.elN (P := Try.prog) (t := 41) (hs.at hp18).rd 11 (fun _ => rfl) hy27 (o := 0) (cs := [.int .i64 (l[k]!.Client), .int .i64 (l[k]!.Op), .bool (l[k]!.Put), .string (l[k]!.Key), .slice (l[k]!.Value.a) (l[k]!.Value.n) (l[k]!.Value.c), .int .i64 (l[k]!.Status), .int .i64 (l[k]!.From), .int .i64 (l[k]!.To), .bool (l[k]!.Open), .int .i64 (l[k]!.Tag.Count), .int .i64 (l[k]!.Tag.Client)]) (by kernel_rfl))) .nil))) (by kernel_rfl) (fun b28 => ?_)
      refine OPS.cons (opStep.alloc hp18 [.int .i64 0, .int .i64 0, .bool false, .string ByteArray.empty, .slice none 0 0, .int .i64 0, .int .i64 0, .int .i64 0, .bool false, .int .i64 0, .int .i64 0] (by kernel_rfl) (fun g31 w29 hp30 => ?_))
      refine OPS.batch 1 {} [] [0, 1, 2, 7, 8, 15, 16, 17, 21] [.slice a n cp, .slice ai ni ci, .int .i64 (i : Int), .int .i64 (k : Int), .pointer (some ⟨g31, 0, none⟩), .slice a n cp, .int .i64 ((n : Nat) : Int), .int .i64 (k : Int), GCall.val (l[k]!)] .nil (by kernel_rfl) (fun b32 => ?_)
      refine OPS.cons (opStep.store0 hp30 rfl [.int .i64 (l[k]!.Client), .int .i64 (l[k]!.Op), .bool (l[k]!.Put), .string (l[k]!.Key), .slice (l[k]!.Value.a) (l[k]!.Value.n) (l[k]!.Value.c), .int .i64 (l[k]!.Status), .int .i64 (l[k]!.From), .int .i64 (l[k]!.To), .bool (l[k]!.Open), .int .i64 (l[k]!.Tag.Count), .int .i64 (l[k]!.Tag.Client)] [.int .i64 (l[k]!.Client), .int .i64 (l[k]!.Op), .bool (l[k]!.Put), .string (l[k]!.Key), .slice (l[k]!.Value.a) (l[k]!.Value.n) (l[k]!.Value.c), .int .i64 (l[k]!.Status), .int .i64 (l[k]!.From), .int .i64 (l[k]!.To), .bool (l[k]!.Open), .int .i64 (l[k]!.Tag.Count), .int .i64 (l[k]!.Tag.Client)] (by kernel_rfl) (fun w33 hp34 => ?_))
      refine OPS.nil ?_
      refine thn_n ?_
      refine WP.cut (fun e104 w105 => ∃ (x102 : Bool), (True) ∧ Bp x102 ((¬ ((inn[k]!) = true)) ∧ (¬ ((l[k]!.Put) = true)) ∧ ((partT (l[k]!)) = 2) ∧ ((l[k]!.Status) = 0) ∧ (valAt w l[k]!.Value = valAt w l[i]!.Value)) ∧ List.map e104 [0, 1, 2, 15, 16, 17, 51] = [.slice a n cp, .slice ai ni ci, .int .i64 (i : Int), .slice a n cp, .int .i64 ((n : Nat) : Int), .int .i64 (k : Int), .bool x102] ∧ Hp w Non [Res.row g31 [.int .i64 (l[k]!.Client), .int .i64 (l[k]!.Op), .bool (l[k]!.Put), .string (l[k]!.Key), .slice (l[k]!.Value.a) (l[k]!.Value.n) (l[k]!.Value.c), .int .i64 (l[k]!.Status), .int .i64 (l[k]!.From), .int .i64 (l[k]!.To), .bool (l[k]!.Open), .int .i64 (l[k]!.Tag.Count), .int .i64 (l[k]!.Tag.Client)] 41] w105) ?_ ?_
      · have hp38 := hp34.drew
        refine WP.quiet (fun w36 => Hp w Non [Res.row g31 [.int .i64 (l[k]!.Client), .int .i64 (l[k]!.Op), .bool (l[k]!.Put), .string (l[k]!.Key), .slice (l[k]!.Value.a) (l[k]!.Value.n) (l[k]!.Value.c), .int .i64 (l[k]!.Status), .int .i64 (l[k]!.From), .int .i64 (l[k]!.To), .bool (l[k]!.Open), .int .i64 (l[k]!.Tag.Count), .int .i64 (l[k]!.Tag.Client)] 41] w36) (by kernel_rfl) hp38 ?_
        have hnehp38 : ∃ wz_, (fun w36 => Hp w Non [Res.row g31 [.int .i64 (l[k]!.Client), .int .i64 (l[k]!.Op), .bool (l[k]!.Put), .string (l[k]!.Key), .slice (l[k]!.Value.a) (l[k]!.Value.n) (l[k]!.Value.c), .int .i64 (l[k]!.Status), .int .i64 (l[k]!.From), .int .i64 (l[k]!.To), .bool (l[k]!.Open), .int .i64 (l[k]!.Tag.Count), .int .i64 (l[k]!.Tag.Client)] 41] w36) wz_ := ⟨_, hp38⟩
        have hy42 : (inn)[k]? = some inn[k]! := get_bang (by first | (omega) | (simp only [List.length_append, List.length_cons, List.length_nil]; omega) | (simp only [List.length_take, List.length_append, List.length_cons, List.length_nil]; omega))
        refine QOPS.batch 6 {} [.bool (inn[k]!)] [0, 1, 2, 8, 15, 16, 17, 27] [.slice a n cp, .slice ai ni ci, .int .i64 (i : Int), .pointer (some ⟨g31, 0, none⟩), .slice a n cp, .int .i64 ((n : Nat) : Int), .int .i64 (k : Int), .bool (!(inn[k]!))] hnehp38 (fun w39 hp40 => QB.mk (.cons (show InB ((k : Int)) (ni) from ⟨by omega, by omega⟩) (.cons ((hi.at hp40).some (by omega)) (.cons (Ld.add0 (Ld.el1 (P := Try.prog) (t := 4) (hi.at hp40).rd 1 (fun _ => rfl) hy42 (o := 0) (v := .bool (inn[k]!)) (by kernel_rfl))) .nil))) (by kernel_rfl)) (fun b43 => ?_)
        by_cases h44 : (inn[k]!) = true
        · refine QOPS.batch 0 {} [] [0, 1, 2, 8, 15, 16, 17, 27] [.slice a n cp, .slice ai ni ci, .int .i64 (i : Int), .pointer (some ⟨g31, 0, none⟩), .slice a n cp, .int .i64 ((n : Nat) : Int), .int .i64 (k : Int), .bool (!(inn[k]!))] hnehp38 (fun _ _ => QB.mk .nil (by kernel_rfl)) (fun b96 => ?_)
          refine QOPS.re [.slice a n cp, .slice ai ni ci, .int .i64 (i : Int), .pointer (some ⟨g31, 0, none⟩), .slice a n cp, .int .i64 ((n : Nat) : Int), .int .i64 (k : Int), .bool false] (by rw [show (!(inn[k]!)) = false from (Bp.not Bp.var).ff (fun k => k h44)]) ?_
          refine QOPS.batch 24 { wraps := [31, 36, 41, 51] } [] [0, 1, 2, 15, 16, 17, 51] [.slice a n cp, .slice ai ni ci, .int .i64 (i : Int), .slice a n cp, .int .i64 ((n : Nat) : Int), .int .i64 (k : Int), .bool false] hnehp38 (fun w97 hp98 => QB.mk .nil (by kernel_rfl)) (fun b99 => ?_)
          refine QOPS.nil (fun w100 hp101 => ?_)
          refine thn_n ?_
          exact ⟨false, trivial, Bp.of Bp.f (by first | (simp only [h44, iff_false, false_iff, iff_true, true_iff, Classical.not_not, and_true, true_and, and_false, false_and, or_true, true_or, or_false, false_or, not_true_eq_false, not_false_eq_true, and_self, or_self, iff_self]; done) | (simp [h44]; done) | simp_all), by kernel_rfl, hp101⟩
        · refine QOPS.batch 0 {} [] [0, 1, 2, 8, 15, 16, 17, 27] [.slice a n cp, .slice ai ni ci, .int .i64 (i : Int), .pointer (some ⟨g31, 0, none⟩), .slice a n cp, .int .i64 ((n : Nat) : Int), .int .i64 (k : Int), .bool (!(inn[k]!))] hnehp38 (fun _ _ => QB.mk .nil (by kernel_rfl)) (fun b45 => ?_)
          refine QOPS.re [.slice a n cp, .slice ai ni ci, .int .i64 (i : Int), .pointer (some ⟨g31, 0, none⟩), .slice a n cp, .int .i64 ((n : Nat) : Int), .int .i64 (k : Int), .bool true] (by rw [show (!(inn[k]!)) = true from (Bp.not Bp.var).tt h44]) ?_
          refine QOPS.batch 5 { wraps := [31] } [.bool (l[k]!.Put)] [0, 1, 2, 8, 15, 16, 17, 32] [.slice a n cp, .slice ai ni ci, .int .i64 (i : Int), .pointer (some ⟨g31, 0, none⟩), .slice a n cp, .int .i64 ((n : Nat) : Int), .int .i64 (k : Int), .bool (!(l[k]!.Put))] hnehp38 (fun w46 hp47 => QB.mk (.cons (Ld.row1 (P := Try.prog) (t := 4) (o := 2) (v := .bool (l[k]!.Put)) hp47.get0 (by kernel_rfl)) .nil) (by kernel_rfl)) (fun b48 => ?_)
          by_cases h49 : (l[k]!.Put) = true
          · refine QOPS.batch 0 {} [] [0, 1, 2, 8, 15, 16, 17, 32] [.slice a n cp, .slice ai ni ci, .int .i64 (i : Int), .pointer (some ⟨g31, 0, none⟩), .slice a n cp, .int .i64 ((n : Nat) : Int), .int .i64 (k : Int), .bool (!(l[k]!.Put))] hnehp38 (fun _ _ => QB.mk .nil (by kernel_rfl)) (fun b90 => ?_)
            refine QOPS.re [.slice a n cp, .slice ai ni ci, .int .i64 (i : Int), .pointer (some ⟨g31, 0, none⟩), .slice a n cp, .int .i64 ((n : Nat) : Int), .int .i64 (k : Int), .bool false] (by rw [show (!(l[k]!.Put)) = false from (Bp.not Bp.var).ff (fun k => k h49)]) ?_
            refine QOPS.batch 19 { wraps := [36, 41, 51] } [] [0, 1, 2, 15, 16, 17, 51] [.slice a n cp, .slice ai ni ci, .int .i64 (i : Int), .slice a n cp, .int .i64 ((n : Nat) : Int), .int .i64 (k : Int), .bool false] hnehp38 (fun w91 hp92 => QB.mk .nil (by kernel_rfl)) (fun b93 => ?_)
            refine QOPS.nil (fun w94 hp95 => ?_)
            refine thn_n ?_
            exact ⟨false, trivial, Bp.of Bp.f (by first | (simp only [h44, h49, iff_false, false_iff, iff_true, true_iff, Classical.not_not, and_true, true_and, and_false, false_and, or_true, true_or, or_false, false_or, not_true_eq_false, not_false_eq_true, and_self, or_self, iff_self]; done) | (simp [h44, h49]; done) | simp_all), by kernel_rfl, hp95⟩
          · refine QOPS.batch 0 {} [] [0, 1, 2, 8, 15, 16, 17, 32] [.slice a n cp, .slice ai ni ci, .int .i64 (i : Int), .pointer (some ⟨g31, 0, none⟩), .slice a n cp, .int .i64 ((n : Nat) : Int), .int .i64 (k : Int), .bool (!(l[k]!.Put))] hnehp38 (fun _ _ => QB.mk .nil (by kernel_rfl)) (fun b50 => ?_)
            refine QOPS.re [.slice a n cp, .slice ai ni ci, .int .i64 (i : Int), .pointer (some ⟨g31, 0, none⟩), .slice a n cp, .int .i64 ((n : Nat) : Int), .int .i64 (k : Int), .bool true] (by rw [show (!(l[k]!.Put)) = true from (Bp.not Bp.var).tt h49]) ?_
            refine QOPS.batch 1 {} [GCall.val (l[k]!)] [0, 1, 2, 8, 15, 16, 17, 32, 33] [.slice a n cp, .slice ai ni ci, .int .i64 (i : Int), .pointer (some ⟨g31, 0, none⟩), .slice a n cp, .int .i64 ((n : Nat) : Int), .int .i64 (k : Int), .bool true, GCall.val (l[k]!)] hnehp38 (fun w51 hp52 => QB.mk (.cons (show Ld Try.prog w51 41 ⟨g31, 0, none⟩ (GCall.val (l[k]!)) from Ld.rowN (cs := [.int .i64 (l[k]!.Client), .int .i64 (l[k]!.Op), .bool (l[k]!.Put), .string (l[k]!.Key), .slice (l[k]!.Value.a) (l[k]!.Value.n) (l[k]!.Value.c), .int .i64 (l[k]!.Status), .int .i64 (l[k]!.From), .int .i64 (l[k]!.To), .bool (l[k]!.Open), .int .i64 (l[k]!.Tag.Count), .int .i64 (l[k]!.Tag.Client)]) hp52.get0 (by kernel_rfl)) .nil) (by kernel_rfl)) (fun b53 => ?_)
            refine QOPS.call (some 34) [GCall.val (l[k]!)] (by kernel_rfl) (fun w54 hp55 => (top_part (l[k]!) _).mono fun _ _ h => ⟨h.1, hp55.step h.2⟩) ?_
            refine QOPS.batch 3 { wraps := [36] } [] [0, 1, 2, 8, 15, 16, 17, 37] [.slice a n cp, .slice ai ni ci, .int .i64 (i : Int), .pointer (some ⟨g31, 0, none⟩), .slice a n cp, .int .i64 ((n : Nat) : Int), .int .i64 (k : Int), .bool (decide ((partT (l[k]!)) = 2))] hnehp38 (fun w56 hp57 => QB.mk .nil (by kernel_rfl)) (fun b58 => ?_)
            by_cases h59 : (partT (l[k]!)) = 2
            · refine QOPS.batch 0 {} [] [0, 1, 2, 8, 15, 16, 17, 37] [.slice a n cp, .slice ai ni ci, .int .i64 (i : Int), .pointer (some ⟨g31, 0, none⟩), .slice a n cp, .int .i64 ((n : Nat) : Int), .int .i64 (k : Int), .bool (decide ((partT (l[k]!)) = 2))] hnehp38 (fun _ _ => QB.mk .nil (by kernel_rfl)) (fun b60 => ?_)
              refine QOPS.re [.slice a n cp, .slice ai ni ci, .int .i64 (i : Int), .pointer (some ⟨g31, 0, none⟩), .slice a n cp, .int .i64 ((n : Nat) : Int), .int .i64 (k : Int), .bool true] (by rw [show (decide ((partT (l[k]!)) = 2)) = true from Bp.dec.tt h59]) ?_
              refine QOPS.batch 5 { wraps := [41] } [.int .i64 (l[k]!.Status)] [0, 1, 2, 8, 15, 16, 17, 42] [.slice a n cp, .slice ai ni ci, .int .i64 (i : Int), .pointer (some ⟨g31, 0, none⟩), .slice a n cp, .int .i64 ((n : Nat) : Int), .int .i64 (k : Int), .bool (decide ((l[k]!.Status) = 0))] hnehp38 (fun w61 hp62 => QB.mk (.cons (Ld.row1 (P := Try.prog) (t := 27) (o := 5) (v := .int .i64 (l[k]!.Status)) hp62.get0 (by kernel_rfl)) .nil) (by kernel_rfl)) (fun b63 => ?_)
              by_cases h64 : (l[k]!.Status) = 0
              · refine QOPS.batch 0 {} [] [0, 1, 2, 8, 15, 16, 17, 42] [.slice a n cp, .slice ai ni ci, .int .i64 (i : Int), .pointer (some ⟨g31, 0, none⟩), .slice a n cp, .int .i64 ((n : Nat) : Int), .int .i64 (k : Int), .bool (decide ((l[k]!.Status) = 0))] hnehp38 (fun _ _ => QB.mk .nil (by kernel_rfl)) (fun b65 => ?_)
                refine QOPS.re [.slice a n cp, .slice ai ni ci, .int .i64 (i : Int), .pointer (some ⟨g31, 0, none⟩), .slice a n cp, .int .i64 ((n : Nat) : Int), .int .i64 (k : Int), .bool true] (by rw [show (decide ((l[k]!.Status) = 0)) = true from Bp.dec.tt h64]) ?_
                have hy69 : (l)[i]? = some l[i]! := get_bang (by first | (omega) | (simp only [List.length_append, List.length_cons, List.length_nil]; omega) | (simp only [List.length_take, List.length_append, List.length_cons, List.length_nil]; omega))
                refine QOPS.batch 7 {} [.slice (l[k]!.Value.a) (l[k]!.Value.n) (l[k]!.Value.c), .slice (l[i]!.Value.a) (l[i]!.Value.n) (l[i]!.Value.c)] [0, 1, 2, 15, 16, 17, 42, 44, 49] [.slice a n cp, .slice ai ni ci, .int .i64 (i : Int), .slice a n cp, .int .i64 ((n : Nat) : Int), .int .i64 (k : Int), .bool true, .slice (l[k]!.Value.a) (l[k]!.Value.n) (l[k]!.Value.c), .slice (l[i]!.Value.a) (l[i]!.Value.n) (l[i]!.Value.c)] hnehp38 (fun w66 hp67 => QB.mk (.cons (Ld.row1 (P := Try.prog) (t := 39) (o := 4) (v := .slice (l[k]!.Value.a) (l[k]!.Value.n) (l[k]!.Value.c)) hp67.get0 (by kernel_rfl)) (.cons (show InB ((i : Int)) (n) from ⟨by omega, by omega⟩) (.cons ((hs.at hp67).some (by omega)) (.cons (Ld.el1 (P := Try.prog) (t := 39) (hs.at hp67).rd 11 (fun _ => rfl) hy69 (o := 4) (v := .slice (l[i]!.Value.a) (l[i]!.Value.n) (l[i]!.Value.c)) (by kernel_rfl)) .nil)))) (by kernel_rfl)) (fun b70 => ?_)
                refine QOPS.call (some 50) [.slice (l[k]!.Value.a) (l[k]!.Value.n) (l[k]!.Value.c), .slice (l[i]!.Value.a) (l[i]!.Value.n) (l[i]!.Value.c)] (by kernel_rfl) (fun w71 hp72 => (top_same_at w _ hp72.fr l[k]!.Value l[i]!.Value (hv l[k]! (List.mem_of_getElem? hy27)) (hv l[i]! (List.mem_of_getElem? hy69)) (hr _ (List.mem_of_getElem? (get_bang (l := l) (i := k) (by omega)))) (hr _ (List.mem_of_getElem? (get_bang (l := l) (i := i) (by omega)))) (hvn _ (List.mem_of_getElem? (get_bang (l := l) (i := k) (by omega))))).mono fun _ _ h => by obtain ⟨b, h1, h2, h3⟩ := h; exact ⟨by rw [h1, h2.eq_bo], hp72.step h3⟩) ?_
                refine QOPS.batch 1 { wraps := [51] } [] [0, 1, 2, 15, 16, 17, 51] [.slice a n cp, .slice ai ni ci, .int .i64 (i : Int), .slice a n cp, .int .i64 ((n : Nat) : Int), .int .i64 (k : Int), .bool (bo (valAt w l[k]!.Value = valAt w l[i]!.Value))] hnehp38 (fun w73 hp74 => QB.mk .nil (by kernel_rfl)) (fun b75 => ?_)
                refine QOPS.nil (fun w76 hp77 => ?_)
                refine thn_n ?_
                exact ⟨bo (valAt w l[k]!.Value = valAt w l[i]!.Value), trivial, Bp.of Bp.bo (by first | (simp only [h44, h49, h59, h64, iff_false, false_iff, iff_true, true_iff, Classical.not_not, and_true, true_and, and_false, false_and, or_true, true_or, or_false, false_or, not_true_eq_false, not_false_eq_true, and_self, or_self, iff_self]; done) | (simp [h44, h49, h59, h64]; done) | simp_all), by kernel_rfl, hp77⟩
              · refine QOPS.batch 0 {} [] [0, 1, 2, 8, 15, 16, 17, 42] [.slice a n cp, .slice ai ni ci, .int .i64 (i : Int), .pointer (some ⟨g31, 0, none⟩), .slice a n cp, .int .i64 ((n : Nat) : Int), .int .i64 (k : Int), .bool (decide ((l[k]!.Status) = 0))] hnehp38 (fun _ _ => QB.mk .nil (by kernel_rfl)) (fun b78 => ?_)
                refine QOPS.re [.slice a n cp, .slice ai ni ci, .int .i64 (i : Int), .pointer (some ⟨g31, 0, none⟩), .slice a n cp, .int .i64 ((n : Nat) : Int), .int .i64 (k : Int), .bool false] (by rw [show (decide ((l[k]!.Status) = 0)) = false from Bp.dec.ff h64]) ?_
                refine QOPS.batch 9 { wraps := [51] } [] [0, 1, 2, 15, 16, 17, 51] [.slice a n cp, .slice ai ni ci, .int .i64 (i : Int), .slice a n cp, .int .i64 ((n : Nat) : Int), .int .i64 (k : Int), .bool false] hnehp38 (fun w79 hp80 => QB.mk .nil (by kernel_rfl)) (fun b81 => ?_)
                refine QOPS.nil (fun w82 hp83 => ?_)
                refine thn_n ?_
                exact ⟨false, trivial, Bp.of Bp.f (by first | (simp only [h44, h49, h59, h64, iff_false, false_iff, iff_true, true_iff, Classical.not_not, and_true, true_and, and_false, false_and, or_true, true_or, or_false, false_or, not_true_eq_false, not_false_eq_true, and_self, or_self, iff_self]; done) | (simp [h44, h49, h59, h64]; done) | simp_all), by kernel_rfl, hp83⟩
            · refine QOPS.batch 0 {} [] [0, 1, 2, 8, 15, 16, 17, 37] [.slice a n cp, .slice ai ni ci, .int .i64 (i : Int), .pointer (some ⟨g31, 0, none⟩), .slice a n cp, .int .i64 ((n : Nat) : Int), .int .i64 (k : Int), .bool (decide ((partT (l[k]!)) = 2))] hnehp38 (fun _ _ => QB.mk .nil (by kernel_rfl)) (fun b84 => ?_)
              refine QOPS.re [.slice a n cp, .slice ai ni ci, .int .i64 (i : Int), .pointer (some ⟨g31, 0, none⟩), .slice a n cp, .int .i64 ((n : Nat) : Int), .int .i64 (k : Int), .bool false] (by rw [show (decide ((partT (l[k]!)) = 2)) = false from Bp.dec.ff h59]) ?_
              refine QOPS.batch 14 { wraps := [41, 51] } [] [0, 1, 2, 15, 16, 17, 51] [.slice a n cp, .slice ai ni ci, .int .i64 (i : Int), .slice a n cp, .int .i64 ((n : Nat) : Int), .int .i64 (k : Int), .bool false] hnehp38 (fun w85 hp86 => QB.mk .nil (by kernel_rfl)) (fun b87 => ?_)
              refine QOPS.nil (fun w88 hp89 => ?_)
              refine thn_n ?_
              exact ⟨false, trivial, Bp.of Bp.f (by first | (simp only [h44, h49, h59, iff_false, false_iff, iff_true, true_iff, Classical.not_not, and_true, true_and, and_false, false_and, or_true, true_or, or_false, false_or, not_true_eq_false, not_false_eq_true, and_self, or_self, iff_self]; done) | (simp [h44, h49, h59]; done) | simp_all), by kernel_rfl, hp89⟩
      rintro e104 w105 ⟨x102, hd107, hb103, hE108, hp106⟩
      obtain ⟨b109, rfl⟩ := toMk hE108
      clear hE108
      clear hd107
      refine WP.test (p := (¬ ((inn[k]!) = true)) ∧ (¬ ((l[k]!.Put) = true)) ∧ ((partT (l[k]!)) = 2) ∧ ((l[k]!.Status) = 0) ∧ (valAt w l[k]!.Value = valAt w l[i]!.Value)) rfl hb103 (fun h110 => ?_) (fun h110 => ?_)
      · refine WP.seq ?_
        refine WP.pure {} [] [6] [.bool true] .nil (by kernel_rfl) (fun b111 => ?_)
        refine thn_n ?_
        refine WP.ret ?_
        refine blk_r ?_
        refine thn_r ?_
        refine thn_r ?_
        refine blk_r ?_
        refine thn_r ?_
        refine bodyQ.of _ rfl [.bool true] ⟨rfl, trivial⟩ ?_
        exact ⟨_, rfl, Bp.of Bp.t (by exact ⟨fun _ => .inr ⟨k, by omega, by simp_all⟩, fun _ => trivial⟩), hp106.fr⟩
      · refine WP.skip ?_
        refine blk_n ?_
        refine thn_n ?_
        refine WP.pure {} [] [0, 1, 2, 15, 16, 17] [.slice a n cp, .slice ai ni ci, .int .i64 (i : Int), .slice a n cp, .int .i64 ((n : Nat) : Int), .int .i64 ((k : Int) + 1)] (.cons (show Rng .i64 ((k : Int) + 1) from Rng.i64 (by omega)) .nil) (by kernel_rfl) (fun b112 => ?_)
        refine thn_n ?_
        exact ⟨l.length - (k + 1), (by omega), k + 1, rfl, ⟨by omega, fun j hj hb => by rcases Nat.lt_or_ge j k with q | q; exact q2 j q hb; (obtain rfl : j = k := by omega); obtain ⟨b1, b2, b3, b4, b5⟩ := hb; simp_all⟩, by kernel_rfl, (hp106.sub (.cons _ (.slnil)))⟩
    · refine WP.exit ?_
      refine thn_x ?_
      refine thn_x ?_
      refine blk_hit ?_
      refine thn_n ?_
      refine WP.seq ?_
      refine WP.pure {} [] [6] [.bool false] .nil (by kernel_rfl) (fun b113 => ?_)
      refine thn_n ?_
      refine WP.ret ?_
      refine bodyQ.of _ rfl [.bool false] ⟨rfl, trivial⟩ ?_
      exact ⟨_, rfl, Bp.of Bp.f (by exact ⟨fun h => h.elim, fun h => by rcases h with h | ⟨j, hj, hb⟩; exact h h13; exact q2 j (by omega) hb⟩), hp18.fr⟩

end Go.Proofs.Ythdkbbpiaeaojaa.K
