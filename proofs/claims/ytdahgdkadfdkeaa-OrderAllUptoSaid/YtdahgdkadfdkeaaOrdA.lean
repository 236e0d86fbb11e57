/- The walks of OrdA: what each function computes. -/
import Derived.Test.YtdahgdkadfdkeaaProg
import Derived.Test.YtdahgdkadfdkeaaCoreO
import Derived.Test.YtdahgdkadfdkeaaOrdM
import Derived.Test.YtdahgdkadfdkeaaCoreV
import Derived.Test.YtdahgdkadfdkeaaCoreT
import Derived.Test.YtdahgdkadfdkeaaCoreS
namespace Go.Proofs.Ytdahgdkadfdkeaa.K
open Go Go.Proofs Go.RowKit
set_option linter.unusedVariables false
set_option linter.unusedSimpArgs false
set_option maxRecDepth 20000
set_option maxHeartbeats 4000000

theorem o_due (c : GCall) (w : World) :
    Calls Try.prog 100 #[GCall.val c] w (fun r_ w' => ∃ f_, r_ = .returned (.bool f_) ∧ Bp f_ (dueP c) ∧ Fram Non w w') := by
  refine calls_of Try.func100 rfl 21 rfl (by simp) ?_
  have hp0 := Hp.init w
  have he0 : List.map (env0 [GCall.val c]) [0] = [GCall.val c] := by kernel_rfl
  obtain ⟨b0, he0⟩ := toMk he0
  rw [he0]
  clear he0
  refine WP.seq ?_
  refine WP.region _ rfl (by kernel_rfl) ?_
  refine OPS.cons (opStep.box hp0 [.int .i64 c.Client, .int .i64 c.Op, .bool c.Put, .string c.Key, .slice c.Value.a c.Value.n c.Value.c, .int .i64 c.Status, .int .i64 c.From, .int .i64 c.To, .bool c.Open, .int .i64 c.Tag.Count, .int .i64 c.Tag.Client] (by kernel_rfl) (fun g3 w1 hp2 => ?_))
  refine OPS.batch 1 {} [] [1] [.pointer (some ⟨g3, 0, none⟩)] .nil (by kernel_rfl) (fun b4 => ?_)
  refine OPS.nil ?_
  refine thn_n ?_
  refine WP.seq ?_
  refine WP.seq ?_
  refine WP.pure {} [.bool c.Put] [1, 4] [.pointer (some ⟨g3, 0, none⟩), .bool c.Put] (.cons (Ld.row1 (P := Try.prog) (t := 4) (o := 2) (v := .bool c.Put) hp2.get0 (by kernel_rfl)) .nil) (by kernel_rfl) (fun b5 => ?_)
  refine thn_n ?_
  refine WP.test (p := c.Put = true) rfl Bp.var (fun h6 => ?_) (fun h6 => ?_)
  · refine WP.seq ?_
    refine WP.pure {} [.bool c.Open] [2] [.bool (!c.Open)] (.cons (Ld.row1 (P := Try.prog) (t := 4) (o := 8) (v := .bool c.Open) hp2.get0 (by kernel_rfl)) .nil) (by kernel_rfl) (fun b7 => ?_)
    refine thn_n ?_
    refine WP.ret ?_
    refine thn_r ?_
    refine bodyQ.of _ rfl [.bool (!c.Open)] ⟨rfl, trivial⟩ ?_
    exact ⟨_, rfl, Bp.of (Bp.not Bp.var) (by simp only [dueP]; first | grind | (simp_all; done) | (simp_all; grind)), hp2.fr⟩
  · refine WP.skip ?_
    refine thn_n ?_
    refine WP.cut (fun e22 w23 => ∃ (x20 : Bool), (True) ∧ Bp x20 (((0 ≤ c.To) ∧ (c.Status = 0)) ∨ ((0 ≤ c.To) ∧ (¬ (c.Status = 0)) ∧ (c.Status = 76))) ∧ List.map e22 [2] = [.bool x20] ∧ Hp w Non [Res.row g3 [.int .i64 c.Client, .int .i64 c.Op, .bool c.Put, .string c.Key, .slice c.Value.a c.Value.n c.Value.c, .int .i64 c.Status, .int .i64 c.From, .int .i64 c.To, .bool c.Open, .int .i64 c.Tag.Count, .int .i64 c.Tag.Client] 73] w23) ?_ ?_
    · refine WP.region _ rfl (by kernel_rfl) ?_
      refine OPS.batch 4 {} [.int .i64 c.To] [1, 11] [.pointer (some ⟨g3, 0, none⟩), .bool (decide (0 ≤ c.To))] (.cons (Ld.row1 (P := Try.prog) (t := 3) (o := 7) (v := .int .i64 c.To) hp2.get0 (by kernel_rfl)) .nil) (by kernel_rfl) (fun b9 => ?_)
      by_cases h10 : 0 ≤ c.To
      · refine OPS.batch 0 {} [] [1, 11] [.pointer (some ⟨g3, 0, none⟩), .bool (decide (0 ≤ c.To))] .nil (by kernel_rfl) (fun b11 => ?_)
        refine OPS.re [.pointer (some ⟨g3, 0, none⟩), .bool true] (by rw [show (decide (0 ≤ c.To)) = true from Bp.dec.tt h10]) ?_
        refine OPS.batch 4 {} [.int .i64 c.Status] [1, 11, 15] [.pointer (some ⟨g3, 0, none⟩), .bool true, .bool (decide (c.Status = 0))] (.cons (Ld.row1 (P := Try.prog) (t := 25) (o := 5) (v := .int .i64 c.Status) hp2.get0 (by kernel_rfl)) .nil) (by kernel_rfl) (fun b12 => ?_)
        by_cases h13 : c.Status = 0
        · refine OPS.batch 0 {} [] [1, 11, 15] [.pointer (some ⟨g3, 0, none⟩), .bool true, .bool (decide (c.Status = 0))] .nil (by kernel_rfl) (fun b14 => ?_)
          refine OPS.re [.pointer (some ⟨g3, 0, none⟩), .bool true, .bool true] (by rw [show (decide (c.Status = 0)) = true from Bp.dec.tt h13]) ?_
          refine OPS.batch 6 { wraps := [19, 20] } [] [2] [.bool true] .nil (by kernel_rfl) (fun b15 => ?_)
          refine OPS.nil ?_
          refine thn_n ?_
          exact ⟨true, trivial, Bp.of Bp.t (by first | (simp only [h10, h13, iff_false, false_iff, iff_true, true_iff, Classical.not_not, and_true, true_and, and_false, false_and, or_true, true_or, or_false, false_or, not_true_eq_false, not_false_eq_true, and_self, or_self, iff_self]; done) | (simp [h10, h13]; done) | grind | (simp_all; done)), by kernel_rfl, hp2⟩
        · refine OPS.batch 0 {} [] [1, 11, 15] [.pointer (some ⟨g3, 0, none⟩), .bool true, .bool (decide (c.Status = 0))] .nil (by kernel_rfl) (fun b16 => ?_)
          refine OPS.re [.pointer (some ⟨g3, 0, none⟩), .bool true, .bool false] (by rw [show (decide (c.Status = 0)) = false from Bp.dec.ff h13]) ?_
          refine OPS.batch 6 { wraps := [19, 20] } [.int .i64 c.Status] [2] [.bool (decide (c.Status = 76))] (.cons (Ld.row1 (P := Try.prog) (t := 25) (o := 5) (v := .int .i64 c.Status) hp2.get0 (by kernel_rfl)) .nil) (by kernel_rfl) (fun b17 => ?_)
          refine OPS.nil ?_
          refine thn_n ?_
          exact ⟨decide (c.Status = 76), trivial, Bp.of Bp.dec (by first | (simp only [h10, h13, iff_false, false_iff, iff_true, true_iff, Classical.not_not, and_true, true_and, and_false, false_and, or_true, true_or, or_false, false_or, not_true_eq_false, not_false_eq_true, and_self, or_self, iff_self]; done) | (simp [h10, h13]; done) | grind | (simp_all; done)), by kernel_rfl, hp2⟩
      · refine OPS.batch 0 {} [] [1, 11] [.pointer (some ⟨g3, 0, none⟩), .bool (decide (0 ≤ c.To))] .nil (by kernel_rfl) (fun b18 => ?_)
        refine OPS.re [.pointer (some ⟨g3, 0, none⟩), .bool false] (by rw [show (decide (0 ≤ c.To)) = false from Bp.dec.ff h10]) ?_
        refine OPS.batch 10 { wraps := [20] } [] [2] [.bool false] .nil (by kernel_rfl) (fun b19 => ?_)
        refine OPS.nil ?_
        refine thn_n ?_
        exact ⟨false, trivial, Bp.of Bp.f (by first | (simp only [h10, iff_false, false_iff, iff_true, true_iff, Classical.not_not, and_true, true_and, and_false, false_and, or_true, true_or, or_false, false_or, not_true_eq_false, not_false_eq_true, and_self, or_self, iff_self]; done) | (simp [h10]; done) | grind | (simp_all; done)), by kernel_rfl, hp2⟩
    rintro e22 w23 ⟨x20, hd25, hb21, hE26, hp24⟩
    obtain ⟨b27, rfl⟩ := toMk hE26
    clear hE26
    clear hd25
    refine WP.ret ?_
    refine bodyQ.of _ rfl [.bool x20] ⟨rfl, trivial⟩ ?_
    exact ⟨_, rfl, Bp.of hb21 (by simp only [dueP]; first | grind | (simp_all; done) | (simp_all; grind)), hp24.fr⟩

theorem o_fit (l : List GCall) (a : Option Addr) (n c : Nat) (w : World) (hn : n = l.length) (hb : l.length ≤ 8796093022207) (hs : SlR w a n (l.flatMap GCall.cells)) :
    Calls Try.prog 70 #[.slice a n c] w (fun r_ w' => ∃ f_, r_ = .returned (.bool f_) ∧ Bp f_ (fitP l) ∧ Fram Non w w') := by
  refine calls_of Try.func70 rfl 63 rfl (by simp) ?_
  have hp0 := Hp.init w
  have he0 : List.map (env0 [.slice a n c]) [0] = [.slice a n c] := by kernel_rfl
  obtain ⟨b0, he0⟩ := toMk he0
  rw [he0]
  clear he0
  refine WP.seq ?_
  refine WP.pure {} [] [0] [.slice a n c] .nil (by kernel_rfl) (fun b1 => ?_)
  refine thn_n ?_
  refine WP.seq ?_
  refine WP.seq ?_
  refine WP.pure {} [] [0, 6, 7, 8] [.slice a n c, .slice a n c, .int .i64 ((n : Nat) : Int), .int .i64 0] .nil (by kernel_rfl) (fun b2 => ?_)
  refine thn_n ?_
  refine WP.block ?_
  refine WP.loop (fun mz_ e3 w4 => ∃ (k : Nat), mz_ = l.length - k ∧ (k ≤ l.length ∧ ∀ i, i < k → fitC l[0]!.Key l[i]!) ∧ List.map e3 [0, 6, 7, 8] = [.slice a n c, .slice a n c, .int .i64 ((n : Nat) : Int), .int .i64 (k : Int)] ∧ Hp w Non [] w4) (l.length - (0)) ⟨0, rfl, ⟨by omega, fun i hi => by omega⟩, by kernel_rfl, hp0⟩ ?_
  rintro _ e3 w4 ⟨k, rfl, hI6, hE7, hp5⟩
  obtain ⟨b8, rfl⟩ := toMk hE7
  clear hE7
  obtain ⟨pa, pb⟩ := hI6
  refine WP.seq ?_
  refine WP.pure {} [] [0, 6, 7, 8, 9] [.slice a n c, .slice a n c, .int .i64 ((n : Nat) : Int), .int .i64 (k : Int), .bool (decide ((k : Int) < ((n : Nat) : Int)))] .nil (by kernel_rfl) (fun b9 => ?_)
  refine thn_n ?_
  refine WP.seq ?_
  refine WP.test (p := (k : Int) < ((n : Nat) : Int)) rfl Bp.dec (fun h10 => ?_) (fun h10 => ?_)
  · refine WP.skip ?_
    refine thn_n ?_
    refine WP.seq ?_
    refine WP.block ?_
    refine WP.seq ?_
    refine WP.region _ rfl (by kernel_rfl) ?_
    have hy14 : (l)[k]? = some l[k]! := get_bang (by first | (omega) | (simp only [List.length_append, List.length_cons, List.length_nil]; omega) | (simp only [List.length_take, List.length_append, List.length_cons, List.length_nil]; omega))
    refine OPS.batch 2 {} [GCall.val (l[k]!)] [0, 6, 7, 8, 11] [.slice a n c, .slice a n c, .int .i64 ((n : Nat) : Int), .int .i64 (k : Int), GCall.val (l[k]!)] (.cons (show InB ((k : Int)) (n) from ⟨by omega, by omega⟩) (.cons ((hs.at hp5).some (by omega)) (.cons (Ld.add0 (Ld.elN (P := Try.prog) (t := 73) (hs.at hp5).rd 11 (fun _ => rfl) hy14 (o := 0) (cs := [.int .i64 (l[k]!.Client), .int .i64 (l[k]!.Op), .bool (l[k]!.Put), .string (l[k]!.Key), .slice (l[k]!.Value.a) (l[k]!.Value.n) (l[k]!.Value.c), .int .i64 (l[k]!.Status), .int .i64 (l[k]!.From), .int .i64 (l[k]!.To), .bool (l[k]!.Open), .int .i64 (l[k]!.Tag.Count), .int .i64 (l[k]!.Tag.Client)]) (by kernel_rfl))) .nil))) (by kernel_rfl) (fun b15 => ?_)
    refine OPS.cons (opStep.alloc hp5 [.int .i64 0, .int .i64 0, .bool false, .string ByteArray.empty, .slice none 0 0, .int .i64 0, .int .i64 0, .int .i64 0, .bool false, .int .i64 0, .int .i64 0] (by kernel_rfl) (fun g18 w16 hp17 => ?_))
    refine OPS.cons (opStep.store0 hp17 rfl [.int .i64 (l[k]!.Client), .int .i64 (l[k]!.Op), .bool (l[k]!.Put), .string (l[k]!.Key), .slice (l[k]!.Value.a) (l[k]!.Value.n) (l[k]!.Value.c), .int .i64 (l[k]!.Status), .int .i64 (l[k]!.From), .int .i64 (l[k]!.To), .bool (l[k]!.Open), .int .i64 (l[k]!.Tag.Count), .int .i64 (l[k]!.Tag.Client)] [.int .i64 (l[k]!.Client), .int .i64 (l[k]!.Op), .bool (l[k]!.Put), .string (l[k]!.Key), .slice (l[k]!.Value.a) (l[k]!.Value.n) (l[k]!.Value.c), .int .i64 (l[k]!.Status), .int .i64 (l[k]!.From), .int .i64 (l[k]!.To), .bool (l[k]!.Open), .int .i64 (l[k]!.Tag.Count), .int .i64 (l[k]!.Tag.Client)] (by kernel_rfl) (fun w19 hp20 => ?_))
    refine OPS.nil ?_
    refine thn_n ?_
    refine WP.seq ?_
    refine WP.region _ rfl (by kernel_rfl) ?_
    refine OPS.batch 3 {} [.bool (l[k]!.Put)] [0, 4, 6, 7, 8, 14] [.slice a n c, .pointer (some ⟨g18, 0, none⟩), .slice a n c, .int .i64 ((n : Nat) : Int), .int .i64 (k : Int), .bool (l[k]!.Put)] (.cons (Ld.row1 (P := Try.prog) (t := 4) (o := 2) (v := .bool (l[k]!.Put)) hp20.get0 (by kernel_rfl)) .nil) (by kernel_rfl) (fun b21 => ?_)
    by_cases h22 : (l[k]!.Put) = true
    · refine OPS.batch 0 {} [] [0, 4, 6, 7, 8, 14] [.slice a n c, .pointer (some ⟨g18, 0, none⟩), .slice a n c, .int .i64 ((n : Nat) : Int), .int .i64 (k : Int), .bool (l[k]!.Put)] .nil (by kernel_rfl) (fun b23 => ?_)
      refine OPS.re [.slice a n c, .pointer (some ⟨g18, 0, none⟩), .slice a n c, .int .i64 ((n : Nat) : Int), .int .i64 (k : Int), .bool true] (by rw [show (l[k]!.Put) = true from Bp.var.tt h22]) ?_
      refine OPS.batch 4 {} [.int .i64 (l[k]!.To)] [0, 4, 6, 7, 8, 14, 18] [.slice a n c, .pointer (some ⟨g18, 0, none⟩), .slice a n c, .int .i64 ((n : Nat) : Int), .int .i64 (k : Int), .bool true, .bool (decide ((l[k]!.To) = (-1)))] (.cons (Ld.row1 (P := Try.prog) (t := 3) (o := 7) (v := .int .i64 (l[k]!.To)) hp20.get0 (by kernel_rfl)) .nil) (by kernel_rfl) (fun b24 => ?_)
      by_cases h25 : (l[k]!.To) = (-1)
      · refine OPS.batch 0 {} [] [0, 4, 6, 7, 8, 14, 18] [.slice a n c, .pointer (some ⟨g18, 0, none⟩), .slice a n c, .int .i64 ((n : Nat) : Int), .int .i64 (k : Int), .bool true, .bool (decide ((l[k]!.To) = (-1)))] .nil (by kernel_rfl) (fun b26 => ?_)
        refine OPS.re [.slice a n c, .pointer (some ⟨g18, 0, none⟩), .slice a n c, .int .i64 ((n : Nat) : Int), .int .i64 (k : Int), .bool true, .bool true] (by rw [show (decide ((l[k]!.To) = (-1))) = true from Bp.dec.tt h25]) ?_
        refine OPS.batch 6 { wraps := [22, 23] } [] [0, 4, 5, 6, 7, 8] [.slice a n c, .pointer (some ⟨g18, 0, none⟩), .bool true, .slice a n c, .int .i64 ((n : Nat) : Int), .int .i64 (k : Int)] .nil (by kernel_rfl) (fun b27 => ?_)
        refine OPS.nil ?_
        refine thn_n ?_
        refine WP.cut (fun e107 w108 => ∃ (x105 : Bool), (True) ∧ Bp x105 (((¬ ((l[k]!.Key) = (l[0]!.Key)))) ∨ (((l[k]!.Key) = (l[0]!.Key)) ∧ ((l[k]!.From) < 0)) ∨ (((l[k]!.Key) = (l[0]!.Key)) ∧ (¬ ((l[k]!.From) < 0)) ∧ (¬ ((l[k]!.To) = (-1))) ∧ ((l[k]!.To) ≤ (l[k]!.From))) ∨ (((l[k]!.Key) = (l[0]!.Key)) ∧ (¬ ((l[k]!.From) < 0)) ∧ (¬ ((l[k]!.To) = (-1))) ∧ (¬ ((l[k]!.To) ≤ (l[k]!.From))) ∧ (¬ ((((l[k]!.Open) = true) ↔ (True))))) ∨ (((l[k]!.Key) = (l[0]!.Key)) ∧ (¬ ((l[k]!.From) < 0)) ∧ (¬ ((l[k]!.To) = (-1))) ∧ (¬ ((l[k]!.To) ≤ (l[k]!.From))) ∧ (((l[k]!.Open) = true) ↔ (True)) ∧ (¬ ((l[k]!.To) = (-1)))) ∨ (((l[k]!.Key) = (l[0]!.Key)) ∧ (¬ ((l[k]!.From) < 0)) ∧ ((l[k]!.To) = (-1)) ∧ (¬ ((((l[k]!.Open) = true) ↔ (True))))) ∨ (((l[k]!.Key) = (l[0]!.Key)) ∧ (¬ ((l[k]!.From) < 0)) ∧ ((l[k]!.To) = (-1)) ∧ (((l[k]!.Open) = true) ↔ (True)) ∧ (¬ ((l[k]!.To) = (-1))))) ∧ List.map e107 [0, 6, 7, 8, 61] = [.slice a n c, .slice a n c, .int .i64 ((n : Nat) : Int), .int .i64 (k : Int), .bool x105] ∧ Hp w Non [Res.row g18 [.int .i64 (l[k]!.Client), .int .i64 (l[k]!.Op), .bool (l[k]!.Put), .string (l[k]!.Key), .slice (l[k]!.Value.a) (l[k]!.Value.n) (l[k]!.Value.c), .int .i64 (l[k]!.Status), .int .i64 (l[k]!.From), .int .i64 (l[k]!.To), .bool (l[k]!.Open), .int .i64 (l[k]!.Tag.Count), .int .i64 (l[k]!.Tag.Client)] 73] w108) ?_ ?_
        · have hp31 := hp20.drew
          refine WP.quiet (fun w29 => Hp w Non [Res.row g18 [.int .i64 (l[k]!.Client), .int .i64 (l[k]!.Op), .bool (l[k]!.Put), .string (l[k]!.Key), .slice (l[k]!.Value.a) (l[k]!.Value.n) (l[k]!.Value.c), .int .i64 (l[k]!.Status), .int .i64 (l[k]!.From), .int .i64 (l[k]!.To), .bool (l[k]!.Open), .int .i64 (l[k]!.Tag.Count), .int .i64 (l[k]!.Tag.Client)] 73] w29) (by kernel_rfl) hp31 ?_
          have hnehp31 : ∃ wz_, (fun w29 => Hp w Non [Res.row g18 [.int .i64 (l[k]!.Client), .int .i64 (l[k]!.Op), .bool (l[k]!.Put), .string (l[k]!.Key), .slice (l[k]!.Value.a) (l[k]!.Value.n) (l[k]!.Value.c), .int .i64 (l[k]!.Status), .int .i64 (l[k]!.From), .int .i64 (l[k]!.To), .bool (l[k]!.Open), .int .i64 (l[k]!.Tag.Count), .int .i64 (l[k]!.Tag.Client)] 73] w29) wz_ := ⟨_, hp31⟩
          have hy35 : (l)[0]? = some l[0]! := get_bang (by first | (omega) | (simp only [List.length_append, List.length_cons, List.length_nil]; omega) | (simp only [List.length_take, List.length_append, List.length_cons, List.length_nil]; omega))
          refine QOPS.batch 8 {} [.string (l[k]!.Key), .string (l[0]!.Key)] [0, 4, 5, 6, 7, 8, 31] [.slice a n c, .pointer (some ⟨g18, 0, none⟩), .bool true, .slice a n c, .int .i64 ((n : Nat) : Int), .int .i64 (k : Int), .bool (decide (¬ ((l[k]!.Key) = (l[0]!.Key))))] hnehp31 (fun w32 hp33 => QB.mk (.cons (Ld.row1 (P := Try.prog) (t := 9) (o := 3) (v := .string (l[k]!.Key)) hp33.get0 (by kernel_rfl)) (.cons (show InB (0) (n) from ⟨by omega, by omega⟩) (.cons ((hs.at hp33).some (by omega)) (.cons (Ld.el1 (P := Try.prog) (t := 9) (hs.at hp33).rd 11 (fun _ => rfl) hy35 (o := 3) (v := .string (l[0]!.Key)) (by kernel_rfl)) .nil)))) (by kernel_rfl)) (fun b36 => ?_)
          by_cases h37 : (l[k]!.Key) = (l[0]!.Key)
          · refine QOPS.batch 0 {} [] [0, 4, 5, 6, 7, 8, 31] [.slice a n c, .pointer (some ⟨g18, 0, none⟩), .bool true, .slice a n c, .int .i64 ((n : Nat) : Int), .int .i64 (k : Int), .bool (decide (¬ ((l[k]!.Key) = (l[0]!.Key))))] hnehp31 (fun _ _ => QB.mk .nil (by kernel_rfl)) (fun b44 => ?_)
            refine QOPS.re [.slice a n c, .pointer (some ⟨g18, 0, none⟩), .bool true, .slice a n c, .int .i64 ((n : Nat) : Int), .int .i64 (k : Int), .bool false] (by rw [show (decide (¬ ((l[k]!.Key) = (l[0]!.Key)))) = false from Bp.dec.ff (fun k => k h37)]) ?_
            refine QOPS.batch 5 { wraps := [35] } [.int .i64 (l[k]!.From)] [0, 4, 5, 6, 7, 8, 36] [.slice a n c, .pointer (some ⟨g18, 0, none⟩), .bool true, .slice a n c, .int .i64 ((n : Nat) : Int), .int .i64 (k : Int), .bool (decide ((l[k]!.From) < 0))] hnehp31 (fun w45 hp46 => QB.mk (.cons (Ld.row1 (P := Try.prog) (t := 3) (o := 6) (v := .int .i64 (l[k]!.From)) hp46.get0 (by kernel_rfl)) .nil) (by kernel_rfl)) (fun b47 => ?_)
            by_cases h48 : (l[k]!.From) < 0
            · refine QOPS.batch 0 {} [] [0, 4, 5, 6, 7, 8, 36] [.slice a n c, .pointer (some ⟨g18, 0, none⟩), .bool true, .slice a n c, .int .i64 ((n : Nat) : Int), .int .i64 (k : Int), .bool (decide ((l[k]!.From) < 0))] hnehp31 (fun _ _ => QB.mk .nil (by kernel_rfl)) (fun b49 => ?_)
              refine QOPS.re [.slice a n c, .pointer (some ⟨g18, 0, none⟩), .bool true, .slice a n c, .int .i64 ((n : Nat) : Int), .int .i64 (k : Int), .bool true] (by rw [show (decide ((l[k]!.From) < 0)) = true from Bp.dec.tt h48]) ?_
              refine QOPS.batch 25 { wraps := [47, 53, 61] } [] [0, 6, 7, 8, 61] [.slice a n c, .slice a n c, .int .i64 ((n : Nat) : Int), .int .i64 (k : Int), .bool true] hnehp31 (fun w50 hp51 => QB.mk .nil (by kernel_rfl)) (fun b52 => ?_)
              refine QOPS.nil (fun w53 hp54 => ?_)
              refine thn_n ?_
              exact ⟨true, trivial, Bp.of Bp.t (by first | (simp only [h37, h48, iff_false, false_iff, iff_true, true_iff, Classical.not_not, and_true, true_and, and_false, false_and, or_true, true_or, or_false, false_or, not_true_eq_false, not_false_eq_true, and_self, or_self, iff_self]; done) | (simp [h37, h48]; done) | grind | (simp_all; done)), by kernel_rfl, hp54⟩
            · refine QOPS.batch 0 {} [] [0, 4, 5, 6, 7, 8, 36] [.slice a n c, .pointer (some ⟨g18, 0, none⟩), .bool true, .slice a n c, .int .i64 ((n : Nat) : Int), .int .i64 (k : Int), .bool (decide ((l[k]!.From) < 0))] hnehp31 (fun _ _ => QB.mk .nil (by kernel_rfl)) (fun b55 => ?_)
              refine QOPS.re [.slice a n c, .pointer (some ⟨g18, 0, none⟩), .bool true, .slice a n c, .int .i64 ((n : Nat) : Int), .int .i64 (k : Int), .bool false] (by rw [show (decide ((l[k]!.From) < 0)) = false from Bp.dec.ff h48]) ?_
              refine QOPS.batch 4 {} [.int .i64 (l[k]!.To)] [0, 4, 5, 6, 7, 8, 36, 40] [.slice a n c, .pointer (some ⟨g18, 0, none⟩), .bool true, .slice a n c, .int .i64 ((n : Nat) : Int), .int .i64 (k : Int), .bool false, .bool (decide (¬ ((l[k]!.To) = (-1))))] hnehp31 (fun w56 hp57 => QB.mk (.cons (Ld.row1 (P := Try.prog) (t := 3) (o := 7) (v := .int .i64 (l[k]!.To)) hp57.get0 (by kernel_rfl)) .nil) (by kernel_rfl)) (fun b58 => ?_)
              by_cases h59 : (l[k]!.To) = (-1)
              · refine QOPS.batch 0 {} [] [0, 4, 5, 6, 7, 8, 36, 40] [.slice a n c, .pointer (some ⟨g18, 0, none⟩), .bool true, .slice a n c, .int .i64 ((n : Nat) : Int), .int .i64 (k : Int), .bool false, .bool (decide (¬ ((l[k]!.To) = (-1))))] hnehp31 (fun _ _ => QB.mk .nil (by kernel_rfl)) (fun b88 => ?_)
                refine QOPS.re [.slice a n c, .pointer (some ⟨g18, 0, none⟩), .bool true, .slice a n c, .int .i64 ((n : Nat) : Int), .int .i64 (k : Int), .bool false, .bool false] (by rw [show (decide (¬ ((l[k]!.To) = (-1)))) = false from Bp.dec.ff (fun k => k h59)]) ?_
                refine QOPS.batch 14 { wraps := [46, 47, 53] } [.bool (l[k]!.Open)] [0, 4, 5, 6, 7, 8, 54] [.slice a n c, .pointer (some ⟨g18, 0, none⟩), .bool true, .slice a n c, .int .i64 ((n : Nat) : Int), .int .i64 (k : Int), .bool (!((l[k]!.Open) == true))] hnehp31 (fun w89 hp90 => QB.mk (.cons (Ld.row1 (P := Try.prog) (t := 4) (o := 8) (v := .bool (l[k]!.Open)) hp90.get0 (by kernel_rfl)) .nil) (by kernel_rfl)) (fun b91 => ?_)
                by_cases h92 : (((l[k]!.Open) = true) ↔ (True))
                · refine QOPS.batch 0 {} [] [0, 4, 5, 6, 7, 8, 54] [.slice a n c, .pointer (some ⟨g18, 0, none⟩), .bool true, .slice a n c, .int .i64 ((n : Nat) : Int), .int .i64 (k : Int), .bool (!((l[k]!.Open) == true))] hnehp31 (fun _ _ => QB.mk .nil (by kernel_rfl)) (fun b99 => ?_)
                  refine QOPS.re [.slice a n c, .pointer (some ⟨g18, 0, none⟩), .bool true, .slice a n c, .int .i64 ((n : Nat) : Int), .int .i64 (k : Int), .bool false] (by rw [show (!((l[k]!.Open) == true)) = false from (Bp.not (Bp.beq Bp.var Bp.t)).ff (fun k => k h92)]) ?_
                  refine QOPS.batch 7 { wraps := [60, 61] } [.int .i64 (l[k]!.To)] [0, 6, 7, 8, 61] [.slice a n c, .slice a n c, .int .i64 ((n : Nat) : Int), .int .i64 (k : Int), .bool (decide (¬ ((l[k]!.To) = (-1))))] hnehp31 (fun w100 hp101 => QB.mk (.cons (Ld.row1 (P := Try.prog) (t := 3) (o := 7) (v := .int .i64 (l[k]!.To)) hp101.get0 (by kernel_rfl)) .nil) (by kernel_rfl)) (fun b102 => ?_)
                  refine QOPS.nil (fun w103 hp104 => ?_)
                  refine thn_n ?_
                  exact ⟨decide (¬ ((l[k]!.To) = (-1))), trivial, Bp.of Bp.dec (by first | (simp only [h37, h48, h59, h92, iff_false, false_iff, iff_true, true_iff, Classical.not_not, and_true, true_and, and_false, false_and, or_true, true_or, or_false, false_or, not_true_eq_false, not_false_eq_true, and_self, or_self, iff_self]; done) | (simp [h37, h48, h59, h92]; done) | grind | (simp_all; done)), by kernel_rfl, hp104⟩
                · refine QOPS.batch 0 {} [] [0, 4, 5, 6, 7, 8, 54] [.slice a n c, .pointer (some ⟨g18, 0, none⟩), .bool true, .slice a n c, .int .i64 ((n : Nat) : Int), .int .i64 (k : Int), .bool (!((l[k]!.Open) == true))] hnehp31 (fun _ _ => QB.mk .nil (by kernel_rfl)) (fun b93 => ?_)
                  refine QOPS.re [.slice a n c, .pointer (some ⟨g18, 0, none⟩), .bool true, .slice a n c, .int .i64 ((n : Nat) : Int), .int .i64 (k : Int), .bool true] (by rw [show (!((l[k]!.Open) == true)) = true from (Bp.not (Bp.beq Bp.var Bp.t)).tt h92]) ?_
                  refine QOPS.batch 7 { wraps := [61] } [] [0, 6, 7, 8, 61] [.slice a n c, .slice a n c, .int .i64 ((n : Nat) : Int), .int .i64 (k : Int), .bool true] hnehp31 (fun w94 hp95 => QB.mk .nil (by kernel_rfl)) (fun b96 => ?_)
                  refine QOPS.nil (fun w97 hp98 => ?_)
                  refine thn_n ?_
                  exact ⟨true, trivial, Bp.of Bp.t (by first | (simp only [h37, h48, h59, h92, iff_false, false_iff, iff_true, true_iff, Classical.not_not, and_true, true_and, and_false, false_and, or_true, true_or, or_false, false_or, not_true_eq_false, not_false_eq_true, and_self, or_self, iff_self]; done) | (simp [h37, h48, h59, h92]; done) | grind | (simp_all; done)), by kernel_rfl, hp98⟩
              · refine QOPS.batch 0 {} [] [0, 4, 5, 6, 7, 8, 36, 40] [.slice a n c, .pointer (some ⟨g18, 0, none⟩), .bool true, .slice a n c, .int .i64 ((n : Nat) : Int), .int .i64 (k : Int), .bool false, .bool (decide (¬ ((l[k]!.To) = (-1))))] hnehp31 (fun _ _ => QB.mk .nil (by kernel_rfl)) (fun b60 => ?_)
                refine QOPS.re [.slice a n c, .pointer (some ⟨g18, 0, none⟩), .bool true, .slice a n c, .int .i64 ((n : Nat) : Int), .int .i64 (k : Int), .bool false, .bool true] (by rw [show (decide (¬ ((l[k]!.To) = (-1)))) = true from Bp.dec.tt h59]) ?_
                refine QOPS.batch 8 { wraps := [46, 47] } [.int .i64 (l[k]!.To), .int .i64 (l[k]!.From)] [0, 4, 5, 6, 7, 8, 48] [.slice a n c, .pointer (some ⟨g18, 0, none⟩), .bool true, .slice a n c, .int .i64 ((n : Nat) : Int), .int .i64 (k : Int), .bool (decide ((l[k]!.To) ≤ (l[k]!.From)))] hnehp31 (fun w61 hp62 => QB.mk (.cons (Ld.row1 (P := Try.prog) (t := 3) (o := 7) (v := .int .i64 (l[k]!.To)) hp62.get0 (by kernel_rfl)) (.cons (Ld.row1 (P := Try.prog) (t := 3) (o := 6) (v := .int .i64 (l[k]!.From)) hp62.get0 (by kernel_rfl)) .nil)) (by kernel_rfl)) (fun b63 => ?_)
                by_cases h64 : (l[k]!.To) ≤ (l[k]!.From)
                · refine QOPS.batch 0 {} [] [0, 4, 5, 6, 7, 8, 48] [.slice a n c, .pointer (some ⟨g18, 0, none⟩), .bool true, .slice a n c, .int .i64 ((n : Nat) : Int), .int .i64 (k : Int), .bool (decide ((l[k]!.To) ≤ (l[k]!.From)))] hnehp31 (fun _ _ => QB.mk .nil (by kernel_rfl)) (fun b65 => ?_)
                  refine QOPS.re [.slice a n c, .pointer (some ⟨g18, 0, none⟩), .bool true, .slice a n c, .int .i64 ((n : Nat) : Int), .int .i64 (k : Int), .bool true] (by rw [show (decide ((l[k]!.To) ≤ (l[k]!.From))) = true from Bp.dec.tt h64]) ?_
                  refine QOPS.batch 13 { wraps := [53, 61] } [] [0, 6, 7, 8, 61] [.slice a n c, .slice a n c, .int .i64 ((n : Nat) : Int), .int .i64 (k : Int), .bool true] hnehp31 (fun w66 hp67 => QB.mk .nil (by kernel_rfl)) (fun b68 => ?_)
                  refine QOPS.nil (fun w69 hp70 => ?_)
                  refine thn_n ?_
                  exact ⟨true, trivial, Bp.of Bp.t (by first | (simp only [h37, h48, h59, h64, iff_false, false_iff, iff_true, true_iff, Classical.not_not, and_true, true_and, and_false, false_and, or_true, true_or, or_false, false_or, not_true_eq_false, not_false_eq_true, and_self, or_self, iff_self]; done) | (simp [h37, h48, h59, h64]; done) | grind | (simp_all; done)), by kernel_rfl, hp70⟩
                · refine QOPS.batch 0 {} [] [0, 4, 5, 6, 7, 8, 48] [.slice a n c, .pointer (some ⟨g18, 0, none⟩), .bool true, .slice a n c, .int .i64 ((n : Nat) : Int), .int .i64 (k : Int), .bool (decide ((l[k]!.To) ≤ (l[k]!.From)))] hnehp31 (fun _ _ => QB.mk .nil (by kernel_rfl)) (fun b71 => ?_)
                  refine QOPS.re [.slice a n c, .pointer (some ⟨g18, 0, none⟩), .bool true, .slice a n c, .int .i64 ((n : Nat) : Int), .int .i64 (k : Int), .bool false] (by rw [show (decide ((l[k]!.To) ≤ (l[k]!.From))) = false from Bp.dec.ff h64]) ?_
                  refine QOPS.batch 6 { wraps := [53] } [.bool (l[k]!.Open)] [0, 4, 5, 6, 7, 8, 54] [.slice a n c, .pointer (some ⟨g18, 0, none⟩), .bool true, .slice a n c, .int .i64 ((n : Nat) : Int), .int .i64 (k : Int), .bool (!((l[k]!.Open) == true))] hnehp31 (fun w72 hp73 => QB.mk (.cons (Ld.row1 (P := Try.prog) (t := 4) (o := 8) (v := .bool (l[k]!.Open)) hp73.get0 (by kernel_rfl)) .nil) (by kernel_rfl)) (fun b74 => ?_)
                  by_cases h75 : (((l[k]!.Open) = true) ↔ (True))
                  · refine QOPS.batch 0 {} [] [0, 4, 5, 6, 7, 8, 54] [.slice a n c, .pointer (some ⟨g18, 0, none⟩), .bool true, .slice a n c, .int .i64 ((n : Nat) : Int), .int .i64 (k : Int), .bool (!((l[k]!.Open) == true))] hnehp31 (fun _ _ => QB.mk .nil (by kernel_rfl)) (fun b82 => ?_)
                    refine QOPS.re [.slice a n c, .pointer (some ⟨g18, 0, none⟩), .bool true, .slice a n c, .int .i64 ((n : Nat) : Int), .int .i64 (k : Int), .bool false] (by rw [show (!((l[k]!.Open) == true)) = false from (Bp.not (Bp.beq Bp.var Bp.t)).ff (fun k => k h75)]) ?_
                    refine QOPS.batch 7 { wraps := [60, 61] } [.int .i64 (l[k]!.To)] [0, 6, 7, 8, 61] [.slice a n c, .slice a n c, .int .i64 ((n : Nat) : Int), .int .i64 (k : Int), .bool (decide (¬ ((l[k]!.To) = (-1))))] hnehp31 (fun w83 hp84 => QB.mk (.cons (Ld.row1 (P := Try.prog) (t := 3) (o := 7) (v := .int .i64 (l[k]!.To)) hp84.get0 (by kernel_rfl)) .nil) (by kernel_rfl)) (fun b85 => ?_)
                    refine QOPS.nil (fun w86 hp87 => ?_)
                    refine thn_n ?_
                    exact ⟨decide (¬ ((l[k]!.To) = (-1))), trivial, Bp.of Bp.dec (by first | (simp only [h37, h48, h59, h64, h75, iff_false, false_iff, iff_true, true_iff, Classical.not_not, and_true, true_and, and_false, false_and, or_true, true_or, or_false, false_or, not_true_eq_false, not_false_eq_true, and_self, or_self, iff_self]; done) | (simp [h37, h48, h59, h64, h75]; done) | grind | (simp_all; done)), by kernel_rfl, hp87⟩
                  · refine QOPS.batch 0 {} [] [0, 4, 5, 6, 7, 8, 54] [.slice a n c, .pointer (some ⟨g18, 0, none⟩), .bool true, .slice a n c, .int .i64 ((n : Nat) : Int), .int .i64 (k : Int), .bool (!((l[k]!.Open) == true))] hnehp31 (fun _ _ => QB.mk .nil (by kernel_rfl)) (fun b76 => ?_)
                    refine QOPS.re [.slice a n c, .pointer (some ⟨g18, 0, none⟩), .bool true, .slice a n c, .int .i64 ((n : Nat) : Int), .int .i64 (k : Int), .bool true] (by rw [show (!((l[k]!.Open) == true)) = true from (Bp.not (Bp.beq Bp.var Bp.t)).tt h75]) ?_
                    refine QOPS.batch 7 { wraps := [61] } [] [0, 6, 7, 8, 61] [.slice a n c, .slice a n c, .int .i64 ((n : Nat) : Int), .int .i64 (k : Int), .bool true] hnehp31 (fun w77 hp78 => QB.mk .nil (by kernel_rfl)) (fun b79 => ?_)
                    refine QOPS.nil (fun w80 hp81 => ?_)
                    refine thn_n ?_
                    exact ⟨true, trivial, Bp.of Bp.t (by first | (simp only [h37, h48, h59, h64, h75, iff_false, false_iff, iff_true, true_iff, Classical.not_not, and_true, true_and, and_false, false_and, or_true, true_or, or_false, false_or, not_true_eq_false, not_false_eq_true, and_self, or_self, iff_self]; done) | (simp [h37, h48, h59, h64, h75]; done) | grind | (simp_all; done)), by kernel_rfl, hp81⟩
          · refine QOPS.batch 0 {} [] [0, 4, 5, 6, 7, 8, 31] [.slice a n c, .pointer (some ⟨g18, 0, none⟩), .bool true, .slice a n c, .int .i64 ((n : Nat) : Int), .int .i64 (k : Int), .bool (decide (¬ ((l[k]!.Key) = (l[0]!.Key))))] hnehp31 (fun _ _ => QB.mk .nil (by kernel_rfl)) (fun b38 => ?_)
            refine QOPS.re [.slice a n c, .pointer (some ⟨g18, 0, none⟩), .bool true, .slice a n c, .int .i64 ((n : Nat) : Int), .int .i64 (k : Int), .bool true] (by rw [show (decide (¬ ((l[k]!.Key) = (l[0]!.Key)))) = true from Bp.dec.tt h37]) ?_
            refine QOPS.batch 30 { wraps := [35, 47, 53, 61] } [] [0, 6, 7, 8, 61] [.slice a n c, .slice a n c, .int .i64 ((n : Nat) : Int), .int .i64 (k : Int), .bool true] hnehp31 (fun w39 hp40 => QB.mk .nil (by kernel_rfl)) (fun b41 => ?_)
            refine QOPS.nil (fun w42 hp43 => ?_)
            refine thn_n ?_
            exact ⟨true, trivial, Bp.of Bp.t (by first | (simp only [h37, iff_false, false_iff, iff_true, true_iff, Classical.not_not, and_true, true_and, and_false, false_and, or_true, true_or, or_false, false_or, not_true_eq_false, not_false_eq_true, and_self, or_self, iff_self]; done) | (simp [h37]; done) | grind | (simp_all; done)), by kernel_rfl, hp43⟩
        rintro e107 w108 ⟨x105, hd110, hb106, hE111, hp109⟩
        obtain ⟨b112, rfl⟩ := toMk hE111
        clear hE111
        clear hd110
        refine WP.test (p := ((¬ ((l[k]!.Key) = (l[0]!.Key)))) ∨ (((l[k]!.Key) = (l[0]!.Key)) ∧ ((l[k]!.From) < 0)) ∨ (((l[k]!.Key) = (l[0]!.Key)) ∧ (¬ ((l[k]!.From) < 0)) ∧ (¬ ((l[k]!.To) = (-1))) ∧ ((l[k]!.To) ≤ (l[k]!.From))) ∨ (((l[k]!.Key) = (l[0]!.Key)) ∧ (¬ ((l[k]!.From) < 0)) ∧ (¬ ((l[k]!.To) = (-1))) ∧ (¬ ((l[k]!.To) ≤ (l[k]!.From))) ∧ (¬ ((((l[k]!.Open) = true) ↔ (True))))) ∨ (((l[k]!.Key) = (l[0]!.Key)) ∧ (¬ ((l[k]!.From) < 0)) ∧ (¬ ((l[k]!.To) = (-1))) ∧ (¬ ((l[k]!.To) ≤ (l[k]!.From))) ∧ (((l[k]!.Open) = true) ↔ (True)) ∧ (¬ ((l[k]!.To) = (-1)))) ∨ (((l[k]!.Key) = (l[0]!.Key)) ∧ (¬ ((l[k]!.From) < 0)) ∧ ((l[k]!.To) = (-1)) ∧ (¬ ((((l[k]!.Open) = true) ↔ (True))))) ∨ (((l[k]!.Key) = (l[0]!.Key)) ∧ (¬ ((l[k]!.From) < 0)) ∧ ((l[k]!.To) = (-1)) ∧ (((l[k]!.Open) = true) ↔ (True)) ∧ (¬ ((l[k]!.To) = (-1))))) rfl hb106 (fun h113 => ?_) (fun h113 => ?_)
        · refine WP.seq ?_
          refine WP.pure {} [] [2] [.bool false] .nil (by kernel_rfl) (fun b114 => ?_)
          refine thn_n ?_
          refine WP.ret ?_
          refine blk_r ?_
          refine thn_r ?_
          refine thn_r ?_
          refine blk_r ?_
          refine thn_r ?_
          refine bodyQ.of _ rfl [.bool false] ⟨rfl, trivial⟩ ?_
          exact ⟨_, rfl, Bp.of Bp.f (by simp only [false_iff]; intro q; have q_ := q k (by omega); simp only [fitC, openP] at q_; have h_ := h113; grind), hp109.fr⟩
        · refine WP.skip ?_
          refine blk_n ?_
          refine thn_n ?_
          refine WP.pure {} [] [0, 6, 7, 8] [.slice a n c, .slice a n c, .int .i64 ((n : Nat) : Int), .int .i64 ((k : Int) + 1)] (.cons (show Rng .i64 ((k : Int) + 1) from Rng.i64 (by omega)) .nil) (by kernel_rfl) (fun b115 => ?_)
          refine thn_n ?_
          exact ⟨l.length - (k + 1), (by omega), k + 1, rfl, ⟨by omega, fun i hi => by by_cases e : i = k; subst e; exact (by simp only [fitC, openP]; have h_ := h113; grind); exact pb i (by omega)⟩, by kernel_rfl, (hp109.sub (.cons _ (.slnil)))⟩
      · refine OPS.batch 0 {} [] [0, 4, 6, 7, 8, 14, 18] [.slice a n c, .pointer (some ⟨g18, 0, none⟩), .slice a n c, .int .i64 ((n : Nat) : Int), .int .i64 (k : Int), .bool true, .bool (decide ((l[k]!.To) = (-1)))] .nil (by kernel_rfl) (fun b116 => ?_)
        refine OPS.re [.slice a n c, .pointer (some ⟨g18, 0, none⟩), .slice a n c, .int .i64 ((n : Nat) : Int), .int .i64 (k : Int), .bool true, .bool false] (by rw [show (decide ((l[k]!.To) = (-1))) = false from Bp.dec.ff h25]) ?_
        refine OPS.batch 6 { wraps := [22, 23] } [.int .i64 (l[k]!.Status)] [0, 4, 5, 6, 7, 8] [.slice a n c, .pointer (some ⟨g18, 0, none⟩), .bool (decide (¬ ((l[k]!.Status) = 0))), .slice a n c, .int .i64 ((n : Nat) : Int), .int .i64 (k : Int)] (.cons (Ld.row1 (P := Try.prog) (t := 25) (o := 5) (v := .int .i64 (l[k]!.Status)) hp20.get0 (by kernel_rfl)) .nil) (by kernel_rfl) (fun b117 => ?_)
        refine OPS.nil ?_
        refine thn_n ?_
        refine WP.cut (fun e219 w220 => ∃ (x217 : Bool), (True) ∧ Bp x217 (((¬ ((l[k]!.Key) = (l[0]!.Key)))) ∨ (((l[k]!.Key) = (l[0]!.Key)) ∧ ((l[k]!.From) < 0)) ∨ (((l[k]!.Key) = (l[0]!.Key)) ∧ (¬ ((l[k]!.From) < 0)) ∧ (¬ ((l[k]!.To) = (-1))) ∧ ((l[k]!.To) ≤ (l[k]!.From))) ∨ (((l[k]!.Key) = (l[0]!.Key)) ∧ (¬ ((l[k]!.From) < 0)) ∧ (¬ ((l[k]!.To) = (-1))) ∧ (¬ ((l[k]!.To) ≤ (l[k]!.From))) ∧ (¬ ((((l[k]!.Open) = true) ↔ (¬ ((l[k]!.Status) = 0)))))) ∨ (((l[k]!.Key) = (l[0]!.Key)) ∧ (¬ ((l[k]!.From) < 0)) ∧ (¬ ((l[k]!.To) = (-1))) ∧ (¬ ((l[k]!.To) ≤ (l[k]!.From))) ∧ (((l[k]!.Open) = true) ↔ (¬ ((l[k]!.Status) = 0))) ∧ (¬ ((l[k]!.Status) = 0)) ∧ (¬ ((l[k]!.To) = (-1)))) ∨ (((l[k]!.Key) = (l[0]!.Key)) ∧ (¬ ((l[k]!.From) < 0)) ∧ ((l[k]!.To) = (-1)) ∧ (¬ ((((l[k]!.Open) = true) ↔ (¬ ((l[k]!.Status) = 0)))))) ∨ (((l[k]!.Key) = (l[0]!.Key)) ∧ (¬ ((l[k]!.From) < 0)) ∧ ((l[k]!.To) = (-1)) ∧ (((l[k]!.Open) = true) ↔ (¬ ((l[k]!.Status) = 0))) ∧ (¬ ((l[k]!.Status) = 0)) ∧ (¬ ((l[k]!.To) = (-1))))) ∧ List.map e219 [0, 6, 7, 8, 61] = [.slice a n c, .slice a n c, .int .i64 ((n : Nat) : Int), .int .i64 (k : Int), .bool x217] ∧ Hp w Non [Res.row g18 [.int .i64 (l[k]!.Client), .int .i64 (l[k]!.Op), .bool (l[k]!.Put), .string (l[k]!.Key), .slice (l[k]!.Value.a) (l[k]!.Value.n) (l[k]!.Value.c), .int .i64 (l[k]!.Status), .int .i64 (l[k]!.From), .int .i64 (l[k]!.To), .bool (l[k]!.Open), .int .i64 (l[k]!.Tag.Count), .int .i64 (l[k]!.Tag.Client)] 73] w220) ?_ ?_
        · have hp121 := hp20.drew
          refine WP.quiet (fun w119 => Hp w Non [Res.row g18 [.int .i64 (l[k]!.Client), .int .i64 (l[k]!.Op), .bool (l[k]!.Put), .string (l[k]!.Key), .slice (l[k]!.Value.a) (l[k]!.Value.n) (l[k]!.Value.c), .int .i64 (l[k]!.Status), .int .i64 (l[k]!.From), .int .i64 (l[k]!.To), .bool (l[k]!.Open), .int .i64 (l[k]!.Tag.Count), .int .i64 (l[k]!.Tag.Client)] 73] w119) (by kernel_rfl) hp121 ?_
          have hnehp121 : ∃ wz_, (fun w119 => Hp w Non [Res.row g18 [.int .i64 (l[k]!.Client), .int .i64 (l[k]!.Op), .bool (l[k]!.Put), .string (l[k]!.Key), .slice (l[k]!.Value.a) (l[k]!.Value.n) (l[k]!.Value.c), .int .i64 (l[k]!.Status), .int .i64 (l[k]!.From), .int .i64 (l[k]!.To), .bool (l[k]!.Open), .int .i64 (l[k]!.Tag.Count), .int .i64 (l[k]!.Tag.Client)] 73] w119) wz_ := ⟨_, hp121⟩
          have hy125 : (l)[0]? = some l[0]! := get_bang (by first | (omega) | (simp only [List.length_append, List.length_cons, List.length_nil]; omega) | (simp only [List.length_take, List.length_append, List.length_cons, List.length_nil]; omega))
          refine QOPS.batch 8 {} [.string (l[k]!.Key), .string (l[0]!.Key)] [0, 4, 5, 6, 7, 8, 31] [.slice a n c, .pointer (some ⟨g18, 0, none⟩), .bool (decide (¬ ((l[k]!.Status) = 0))), .slice a n c, .int .i64 ((n : Nat) : Int), .int .i64 (k : Int), .bool (decide (¬ ((l[k]!.Key) = (l[0]!.Key))))] hnehp121 (fun w122 hp123 => QB.mk (.cons (Ld.row1 (P := Try.prog) (t := 9) (o := 3) (v := .string (l[k]!.Key)) hp123.get0 (by kernel_rfl)) (.cons (show InB (0) (n) from ⟨by omega, by omega⟩) (.cons ((hs.at hp123).some (by omega)) (.cons (Ld.el1 (P := Try.prog) (t := 9) (hs.at hp123).rd 11 (fun _ => rfl) hy125 (o := 3) (v := .string (l[0]!.Key)) (by kernel_rfl)) .nil)))) (by kernel_rfl)) (fun b126 => ?_)
          by_cases h127 : (l[k]!.Key) = (l[0]!.Key)
          · refine QOPS.batch 0 {} [] [0, 4, 5, 6, 7, 8, 31] [.slice a n c, .pointer (some ⟨g18, 0, none⟩), .bool (decide (¬ ((l[k]!.Status) = 0))), .slice a n c, .int .i64 ((n : Nat) : Int), .int .i64 (k : Int), .bool (decide (¬ ((l[k]!.Key) = (l[0]!.Key))))] hnehp121 (fun _ _ => QB.mk .nil (by kernel_rfl)) (fun b134 => ?_)
            refine QOPS.re [.slice a n c, .pointer (some ⟨g18, 0, none⟩), .bool (decide (¬ ((l[k]!.Status) = 0))), .slice a n c, .int .i64 ((n : Nat) : Int), .int .i64 (k : Int), .bool false] (by rw [show (decide (¬ ((l[k]!.Key) = (l[0]!.Key)))) = false from Bp.dec.ff (fun k => k h127)]) ?_
            refine QOPS.batch 5 { wraps := [35] } [.int .i64 (l[k]!.From)] [0, 4, 5, 6, 7, 8, 36] [.slice a n c, .pointer (some ⟨g18, 0, none⟩), .bool (decide (¬ ((l[k]!.Status) = 0))), .slice a n c, .int .i64 ((n : Nat) : Int), .int .i64 (k : Int), .bool (decide ((l[k]!.From) < 0))] hnehp121 (fun w135 hp136 => QB.mk (.cons (Ld.row1 (P := Try.prog) (t := 3) (o := 6) (v := .int .i64 (l[k]!.From)) hp136.get0 (by kernel_rfl)) .nil) (by kernel_rfl)) (fun b137 => ?_)
            by_cases h138 : (l[k]!.From) < 0
            · refine QOPS.batch 0 {} [] [0, 4, 5, 6, 7, 8, 36] [.slice a n c, .pointer (some ⟨g18, 0, none⟩), .bool (decide (¬ ((l[k]!.Status) = 0))), .slice a n c, .int .i64 ((n : Nat) : Int), .int .i64 (k : Int), .bool (decide ((l[k]!.From) < 0))] hnehp121 (fun _ _ => QB.mk .nil (by kernel_rfl)) (fun b139 => ?_)
              refine QOPS.re [.slice a n c, .pointer (some ⟨g18, 0, none⟩), .bool (decide (¬ ((l[k]!.Status) = 0))), .slice a n c, .int .i64 ((n : Nat) : Int), .int .i64 (k : Int), .bool true] (by rw [show (decide ((l[k]!.From) < 0)) = true from Bp.dec.tt h138]) ?_
              refine QOPS.batch 25 { wraps := [47, 53, 61] } [] [0, 6, 7, 8, 61] [.slice a n c, .slice a n c, .int .i64 ((n : Nat) : Int), .int .i64 (k : Int), .bool true] hnehp121 (fun w140 hp141 => QB.mk .nil (by kernel_rfl)) (fun b142 => ?_)
              refine QOPS.nil (fun w143 hp144 => ?_)
              refine thn_n ?_
              exact ⟨true, trivial, Bp.of Bp.t (by first | (simp only [h127, h138, iff_false, false_iff, iff_true, true_iff, Classical.not_not, and_true, true_and, and_false, false_and, or_true, true_or, or_false, false_or, not_true_eq_false, not_false_eq_true, and_self, or_self, iff_self]; done) | (simp [h127, h138]; done) | grind | (simp_all; done)), by kernel_rfl, hp144⟩
            · refine QOPS.batch 0 {} [] [0, 4, 5, 6, 7, 8, 36] [.slice a n c, .pointer (some ⟨g18, 0, none⟩), .bool (decide (¬ ((l[k]!.Status) = 0))), .slice a n c, .int .i64 ((n : Nat) : Int), .int .i64 (k : Int), .bool (decide ((l[k]!.From) < 0))] hnehp121 (fun _ _ => QB.mk .nil (by kernel_rfl)) (fun b145 => ?_)
              refine QOPS.re [.slice a n c, .pointer (some ⟨g18, 0, none⟩), .bool (decide (¬ ((l[k]!.Status) = 0))), .slice a n c, .int .i64 ((n : Nat) : Int), .int .i64 (k : Int), .bool false] (by rw [show (decide ((l[k]!.From) < 0)) = false from Bp.dec.ff h138]) ?_
              refine QOPS.batch 4 {} [.int .i64 (l[k]!.To)] [0, 4, 5, 6, 7, 8, 36, 40] [.slice a n c, .pointer (some ⟨g18, 0, none⟩), .bool (decide (¬ ((l[k]!.Status) = 0))), .slice a n c, .int .i64 ((n : Nat) : Int), .int .i64 (k : Int), .bool false, .bool (decide (¬ ((l[k]!.To) = (-1))))] hnehp121 (fun w146 hp147 => QB.mk (.cons (Ld.row1 (P := Try.prog) (t := 3) (o := 7) (v := .int .i64 (l[k]!.To)) hp147.get0 (by kernel_rfl)) .nil) (by kernel_rfl)) (fun b148 => ?_)
              by_cases h149 : (l[k]!.To) = (-1)
              · refine QOPS.batch 0 {} [] [0, 4, 5, 6, 7, 8, 36, 40] [.slice a n c, .pointer (some ⟨g18, 0, none⟩), .bool (decide (¬ ((l[k]!.Status) = 0))), .slice a n c, .int .i64 ((n : Nat) : Int), .int .i64 (k : Int), .bool false, .bool (decide (¬ ((l[k]!.To) = (-1))))] hnehp121 (fun _ _ => QB.mk .nil (by kernel_rfl)) (fun b189 => ?_)
                refine QOPS.re [.slice a n c, .pointer (some ⟨g18, 0, none⟩), .bool (decide (¬ ((l[k]!.Status) = 0))), .slice a n c, .int .i64 ((n : Nat) : Int), .int .i64 (k : Int), .bool false, .bool false] (by rw [show (decide (¬ ((l[k]!.To) = (-1)))) = false from Bp.dec.ff (fun k => k h149)]) ?_
                refine QOPS.batch 14 { wraps := [46, 47, 53] } [.bool (l[k]!.Open)] [0, 4, 5, 6, 7, 8, 54] [.slice a n c, .pointer (some ⟨g18, 0, none⟩), .bool (decide (¬ ((l[k]!.Status) = 0))), .slice a n c, .int .i64 ((n : Nat) : Int), .int .i64 (k : Int), .bool (!((l[k]!.Open) == (decide (¬ ((l[k]!.Status) = 0)))))] hnehp121 (fun w190 hp191 => QB.mk (.cons (Ld.row1 (P := Try.prog) (t := 4) (o := 8) (v := .bool (l[k]!.Open)) hp191.get0 (by kernel_rfl)) .nil) (by kernel_rfl)) (fun b192 => ?_)
                by_cases h193 : (((l[k]!.Open) = true) ↔ (¬ ((l[k]!.Status) = 0)))
                · refine QOPS.batch 0 {} [] [0, 4, 5, 6, 7, 8, 54] [.slice a n c, .pointer (some ⟨g18, 0, none⟩), .bool (decide (¬ ((l[k]!.Status) = 0))), .slice a n c, .int .i64 ((n : Nat) : Int), .int .i64 (k : Int), .bool (!((l[k]!.Open) == (decide (¬ ((l[k]!.Status) = 0)))))] hnehp121 (fun _ _ => QB.mk .nil (by kernel_rfl)) (fun b200 => ?_)
                  refine QOPS.re [.slice a n c, .pointer (some ⟨g18, 0, none⟩), .bool (decide (¬ ((l[k]!.Status) = 0))), .slice a n c, .int .i64 ((n : Nat) : Int), .int .i64 (k : Int), .bool false] (by rw [show (!((l[k]!.Open) == (decide (¬ ((l[k]!.Status) = 0))))) = false from (Bp.not (Bp.beq Bp.var Bp.dec)).ff (fun k => k h193)]) ?_
                  refine QOPS.batch 2 {} [] [0, 4, 6, 7, 8, 54, 56] [.slice a n c, .pointer (some ⟨g18, 0, none⟩), .slice a n c, .int .i64 ((n : Nat) : Int), .int .i64 (k : Int), .bool false, .bool (decide (¬ ((l[k]!.Status) = 0)))] hnehp121 (fun w201 hp202 => QB.mk .nil (by kernel_rfl)) (fun b203 => ?_)
                  by_cases h204 : (l[k]!.Status) = 0
                  · refine QOPS.batch 0 {} [] [0, 4, 6, 7, 8, 54, 56] [.slice a n c, .pointer (some ⟨g18, 0, none⟩), .slice a n c, .int .i64 ((n : Nat) : Int), .int .i64 (k : Int), .bool false, .bool (decide (¬ ((l[k]!.Status) = 0)))] hnehp121 (fun _ _ => QB.mk .nil (by kernel_rfl)) (fun b211 => ?_)
                    refine QOPS.re [.slice a n c, .pointer (some ⟨g18, 0, none⟩), .slice a n c, .int .i64 ((n : Nat) : Int), .int .i64 (k : Int), .bool false, .bool false] (by rw [show (decide (¬ ((l[k]!.Status) = 0))) = false from Bp.dec.ff (fun k => k h204)]) ?_
                    refine QOPS.batch 5 { wraps := [60, 61] } [] [0, 6, 7, 8, 61] [.slice a n c, .slice a n c, .int .i64 ((n : Nat) : Int), .int .i64 (k : Int), .bool false] hnehp121 (fun w212 hp213 => QB.mk .nil (by kernel_rfl)) (fun b214 => ?_)
                    refine QOPS.nil (fun w215 hp216 => ?_)
                    refine thn_n ?_
                    exact ⟨false, trivial, Bp.of Bp.f (by first | (simp only [h127, h138, h149, h193, h204, iff_false, false_iff, iff_true, true_iff, Classical.not_not, and_true, true_and, and_false, false_and, or_true, true_or, or_false, false_or, not_true_eq_false, not_false_eq_true, and_self, or_self, iff_self]; done) | (simp [h127, h138, h149, h193, h204]; done) | grind | (simp_all; done)), by kernel_rfl, hp216⟩
                  · refine QOPS.batch 0 {} [] [0, 4, 6, 7, 8, 54, 56] [.slice a n c, .pointer (some ⟨g18, 0, none⟩), .slice a n c, .int .i64 ((n : Nat) : Int), .int .i64 (k : Int), .bool false, .bool (decide (¬ ((l[k]!.Status) = 0)))] hnehp121 (fun _ _ => QB.mk .nil (by kernel_rfl)) (fun b205 => ?_)
                    refine QOPS.re [.slice a n c, .pointer (some ⟨g18, 0, none⟩), .slice a n c, .int .i64 ((n : Nat) : Int), .int .i64 (k : Int), .bool false, .bool true] (by rw [show (decide (¬ ((l[k]!.Status) = 0))) = true from Bp.dec.tt h204]) ?_
                    refine QOPS.batch 5 { wraps := [60, 61] } [.int .i64 (l[k]!.To)] [0, 6, 7, 8, 61] [.slice a n c, .slice a n c, .int .i64 ((n : Nat) : Int), .int .i64 (k : Int), .bool (decide (¬ ((l[k]!.To) = (-1))))] hnehp121 (fun w206 hp207 => QB.mk (.cons (Ld.row1 (P := Try.prog) (t := 3) (o := 7) (v := .int .i64 (l[k]!.To)) hp207.get0 (by kernel_rfl)) .nil) (by kernel_rfl)) (fun b208 => ?_)
                    refine QOPS.nil (fun w209 hp210 => ?_)
                    refine thn_n ?_
                    exact ⟨decide (¬ ((l[k]!.To) = (-1))), trivial, Bp.of Bp.dec (by first | (simp only [h127, h138, h149, h193, h204, iff_false, false_iff, iff_true, true_iff, Classical.not_not, and_true, true_and, and_false, false_and, or_true, true_or, or_false, false_or, not_true_eq_false, not_false_eq_true, and_self, or_self, iff_self]; done) | (simp [h127, h138, h149, h193, h204]; done) | grind | (simp_all; done)), by kernel_rfl, hp210⟩
                · refine QOPS.batch 0 {} [] [0, 4, 5, 6, 7, 8, 54] [.slice a n c, .pointer (some ⟨g18, 0, none⟩), .bool (decide (¬ ((l[k]!.Status) = 0))), .slice a n c, .int .i64 ((n : Nat) : Int), .int .i64 (k : Int), .bool (!((l[k]!.Open) == (decide (¬ ((l[k]!.Status) = 0)))))] hnehp121 (fun _ _ => QB.mk .nil (by kernel_rfl)) (fun b194 => ?_)
                  refine QOPS.re [.slice a n c, .pointer (some ⟨g18, 0, none⟩), .bool (decide (¬ ((l[k]!.Status) = 0))), .slice a n c, .int .i64 ((n : Nat) : Int), .int .i64 (k : Int), .bool true] (by rw [show (!((l[k]!.Open) == (decide (¬ ((l[k]!.Status) = 0))))) = true from (Bp.not (Bp.beq Bp.var Bp.dec)).tt h193]) ?_
                  refine QOPS.batch 7 { wraps := [61] } [] [0, 6, 7, 8, 61] [.slice a n c, .slice a n c, .int .i64 ((n : Nat) : Int), .int .i64 (k : Int), .bool true] hnehp121 (fun w195 hp196 => QB.mk .nil (by kernel_rfl)) (fun b197 => ?_)
                  refine QOPS.nil (fun w198 hp199 => ?_)
                  refine thn_n ?_
                  exact ⟨true, trivial, Bp.of Bp.t (by first | (simp only [h127, h138, h149, h193, iff_false, false_iff, iff_true, true_iff, Classical.not_not, and_true, true_and, and_false, false_and, or_true, true_or, or_false, false_or, not_true_eq_false, not_false_eq_true, and_self, or_self, iff_self]; done) | (simp [h127, h138, h149, h193]; done) | grind | (simp_all; done)), by kernel_rfl, hp199⟩
              · refine QOPS.batch 0 {} [] [0, 4, 5, 6, 7, 8, 36, 40] [.slice a n c, .pointer (some ⟨g18, 0, none⟩), .bool (decide (¬ ((l[k]!.Status) = 0))), .slice a n c, .int .i64 ((n : Nat) : Int), .int .i64 (k : Int), .bool false, .bool (decide (¬ ((l[k]!.To) = (-1))))] hnehp121 (fun _ _ => QB.mk .nil (by kernel_rfl)) (fun b150 => ?_)
                refine QOPS.re [.slice a n c, .pointer (some ⟨g18, 0, none⟩), .bool (decide (¬ ((l[k]!.Status) = 0))), .slice a n c, .int .i64 ((n : Nat) : Int), .int .i64 (k : Int), .bool false, .bool true] (by rw [show (decide (¬ ((l[k]!.To) = (-1)))) = true from Bp.dec.tt h149]) ?_
                refine QOPS.batch 8 { wraps := [46, 47] } [.int .i64 (l[k]!.To), .int .i64 (l[k]!.From)] [0, 4, 5, 6, 7, 8, 48] [.slice a n c, .pointer (some ⟨g18, 0, none⟩), .bool (decide (¬ ((l[k]!.Status) = 0))), .slice a n c, .int .i64 ((n : Nat) : Int), .int .i64 (k : Int), .bool (decide ((l[k]!.To) ≤ (l[k]!.From)))] hnehp121 (fun w151 hp152 => QB.mk (.cons (Ld.row1 (P := Try.prog) (t := 3) (o := 7) (v := .int .i64 (l[k]!.To)) hp152.get0 (by kernel_rfl)) (.cons (Ld.row1 (P := Try.prog) (t := 3) (o := 6) (v := .int .i64 (l[k]!.From)) hp152.get0 (by kernel_rfl)) .nil)) (by kernel_rfl)) (fun b153 => ?_)
                by_cases h154 : (l[k]!.To) ≤ (l[k]!.From)
                · refine QOPS.batch 0 {} [] [0, 4, 5, 6, 7, 8, 48] [.slice a n c, .pointer (some ⟨g18, 0, none⟩), .bool (decide (¬ ((l[k]!.Status) = 0))), .slice a n c, .int .i64 ((n : Nat) : Int), .int .i64 (k : Int), .bool (decide ((l[k]!.To) ≤ (l[k]!.From)))] hnehp121 (fun _ _ => QB.mk .nil (by kernel_rfl)) (fun b155 => ?_)
                  refine QOPS.re [.slice a n c, .pointer (some ⟨g18, 0, none⟩), .bool (decide (¬ ((l[k]!.Status) = 0))), .slice a n c, .int .i64 ((n : Nat) : Int), .int .i64 (k : Int), .bool true] (by rw [show (decide ((l[k]!.To) ≤ (l[k]!.From))) = true from Bp.dec.tt h154]) ?_
                  refine QOPS.batch 13 { wraps := [53, 61] } [] [0, 6, 7, 8, 61] [.slice a n c, .slice a n c, .int .i64 ((n : Nat) : Int), .int .i64 (k : Int), .bool true] hnehp121 (fun w156 hp157 => QB.mk .nil (by kernel_rfl)) (fun b158 => ?_)
                  refine QOPS.nil (fun w159 hp160 => ?_)
                  refine thn_n ?_
                  exact ⟨true, trivial, Bp.of Bp.t (by first | (simp only [h127, h138, h149, h154, iff_false, false_iff, iff_true, true_iff, Classical.not_not, and_true, true_and, and_false, false_and, or_true, true_or, or_false, false_or, not_true_eq_false, not_false_eq_true, and_self, or_self, iff_self]; done) | (simp [h127, h138, h149, h154]; done) | grind | (simp_all; done)), by kernel_rfl, hp160⟩
                · refine QOPS.batch 0 {} [] [0, 4, 5, 6, 7, 8, 48] [.slice a n c, .pointer (some ⟨g18, 0, none⟩), .bool (decide (¬ ((l[k]!.Status) = 0))), .slice a n c, .int .i64 ((n : Nat) : Int), .int .i64 (k : Int), .bool (decide ((l[k]!.To) ≤ (l[k]!.From)))] hnehp121 (fun _ _ => QB.mk .nil (by kernel_rfl)) (fun b161 => ?_)
                  refine QOPS.re [.slice a n c, .pointer (some ⟨g18, 0, none⟩), .bool (decide (¬ ((l[k]!.Status) = 0))), .slice a n c, .int .i64 ((n : Nat) : Int), .int .i64 (k : Int), .bool false] (by rw [show (decide ((l[k]!.To) ≤ (l[k]!.From))) = false from Bp.dec.ff h154]) ?_
                  refine QOPS.batch 6 { wraps := [53] } [.bool (l[k]!.Open)] [0, 4, 5, 6, 7, 8, 54] [.slice a n c, .pointer (some ⟨g18, 0, none⟩), .bool (decide (¬ ((l[k]!.Status) = 0))), .slice a n c, .int .i64 ((n : Nat) : Int), .int .i64 (k : Int), .bool (!((l[k]!.Open) == (decide (¬ ((l[k]!.Status) = 0)))))] hnehp121 (fun w162 hp163 => QB.mk (.cons (Ld.row1 (P := Try.prog) (t := 4) (o := 8) (v := .bool (l[k]!.Open)) hp163.get0 (by kernel_rfl)) .nil) (by kernel_rfl)) (fun b164 => ?_)
                  by_cases h165 : (((l[k]!.Open) = true) ↔ (¬ ((l[k]!.Status) = 0)))
                  · refine QOPS.batch 0 {} [] [0, 4, 5, 6, 7, 8, 54] [.slice a n c, .pointer (some ⟨g18, 0, none⟩), .bool (decide (¬ ((l[k]!.Status) = 0))), .slice a n c, .int .i64 ((n : Nat) : Int), .int .i64 (k : Int), .bool (!((l[k]!.Open) == (decide (¬ ((l[k]!.Status) = 0)))))] hnehp121 (fun _ _ => QB.mk .nil (by kernel_rfl)) (fun b172 => ?_)
                    refine QOPS.re [.slice a n c, .pointer (some ⟨g18, 0, none⟩), .bool (decide (¬ ((l[k]!.Status) = 0))), .slice a n c, .int .i64 ((n : Nat) : Int), .int .i64 (k : Int), .bool false] (by rw [show (!((l[k]!.Open) == (decide (¬ ((l[k]!.Status) = 0))))) = false from (Bp.not (Bp.beq Bp.var Bp.dec)).ff (fun k => k h165)]) ?_
                    refine QOPS.batch 2 {} [] [0, 4, 6, 7, 8, 54, 56] [.slice a n c, .pointer (some ⟨g18, 0, none⟩), .slice a n c, .int .i64 ((n : Nat) : Int), .int .i64 (k : Int), .bool false, .bool (decide (¬ ((l[k]!.Status) = 0)))] hnehp121 (fun w173 hp174 => QB.mk .nil (by kernel_rfl)) (fun b175 => ?_)
                    by_cases h176 : (l[k]!.Status) = 0
                    · refine QOPS.batch 0 {} [] [0, 4, 6, 7, 8, 54, 56] [.slice a n c, .pointer (some ⟨g18, 0, none⟩), .slice a n c, .int .i64 ((n : Nat) : Int), .int .i64 (k : Int), .bool false, .bool (decide (¬ ((l[k]!.Status) = 0)))] hnehp121 (fun _ _ => QB.mk .nil (by kernel_rfl)) (fun b183 => ?_)
                      refine QOPS.re [.slice a n c, .pointer (some ⟨g18, 0, none⟩), .slice a n c, .int .i64 ((n : Nat) : Int), .int .i64 (k : Int), .bool false, .bool false] (by rw [show (decide (¬ ((l[k]!.Status) = 0))) = false from Bp.dec.ff (fun k => k h176)]) ?_
                      refine QOPS.batch 5 { wraps := [60, 61] } [] [0, 6, 7, 8, 61] [.slice a n c, .slice a n c, .int .i64 ((n : Nat) : Int), .int .i64 (k : Int), .bool false] hnehp121 (fun w184 hp185 => QB.mk .nil (by kernel_rfl)) (fun b186 => ?_)
                      refine QOPS.nil (fun w187 hp188 => ?_)
                      refine thn_n ?_
                      exact ⟨false, trivial, Bp.of Bp.f (by first | (simp only [h127, h138, h149, h154, h165, h176, iff_false, false_iff, iff_true, true_iff, Classical.not_not, and_true, true_and, and_false, false_and, or_true, true_or, or_false, false_or, not_true_eq_false, not_false_eq_true, and_self, or_self, iff_self]; done) | (simp [h127, h138, h149, h154, h165, h176]; done) | grind | (simp_all; done)), by kernel_rfl, hp188⟩
                    · refine QOPS.batch 0 {} [] [0, 4, 6, 7, 8, 54, 56] [.slice a n c, .pointer (some ⟨g18, 0, none⟩), .slice a n c, .int .i64 ((n : Nat) : Int), .int .i64 (k : Int), .bool false, .bool (decide (¬ ((l[k]!.Status) = 0)))] hnehp121 (fun _ _ => QB.mk .nil (by kernel_rfl)) (fun b177 => ?_)
                      refine QOPS.re [.slice a n c, .pointer (some ⟨g18, 0, none⟩), .slice a n c, .int .i64 ((n : Nat) : Int), .int .i64 (k : Int), .bool false, .bool true] (by rw [show (decide (¬ ((l[k]!.Status) = 0))) = true from Bp.dec.tt h176]) ?_
                      refine QOPS.batch 5 { wraps := [60, 61] } [.int .i64 (l[k]!.To)] [0, 6, 7, 8, 61] [.slice a n c, .slice a n c, .int .i64 ((n : Nat) : Int), .int .i64 (k : Int), .bool (decide (¬ ((l[k]!.To) = (-1))))] hnehp121 (fun w178 hp179 => QB.mk (.cons (Ld.row1 (P := Try.prog) (t := 3) (o := 7) (v := .int .i64 (l[k]!.To)) hp179.get0 (by kernel_rfl)) .nil) (by kernel_rfl)) (fun b180 => ?_)
                      refine QOPS.nil (fun w181 hp182 => ?_)
                      refine thn_n ?_
                      exact ⟨decide (¬ ((l[k]!.To) = (-1))), trivial, Bp.of Bp.dec (by first | (simp only [h127, h138, h149, h154, h165, h176, iff_false, false_iff, iff_true, true_iff, Classical.not_not, and_true, true_and, and_false, false_and, or_true, true_or, or_false, false_or, not_true_eq_false, not_false_eq_true, and_self, or_self, iff_self]; done) | (simp [h127, h138, h149, h154, h165, h176]; done) | grind | (simp_all; done)), by kernel_rfl, hp182⟩
                  · refine QOPS.batch 0 {} [] [0, 4, 5, 6, 7, 8, 54] [.slice a n c, .pointer (some ⟨g18, 0, none⟩), .bool (decide (¬ ((l[k]!.Status) = 0))), .slice a n c, .int .i64 ((n : Nat) : Int), .int .i64 (k : Int), .bool (!((l[k]!.Open) == (decide (¬ ((l[k]!.Status) = 0)))))] hnehp121 (fun _ _ => QB.mk .nil (by kernel_rfl)) (fun b166 => ?_)
                    refine QOPS.re [.slice a n c, .pointer (some ⟨g18, 0, none⟩), .bool (decide (¬ ((l[k]!.Status) = 0))), .slice a n c, .int .i64 ((n : Nat) : Int), .int .i64 (k : Int), .bool true] (by rw [show (!((l[k]!.Open) == (decide (¬ ((l[k]!.Status) = 0))))) = true from (Bp.not (Bp.beq Bp.var Bp.dec)).tt h165]) ?_
                    refine QOPS.batch 7 { wraps := [61] } [] [0, 6, 7, 8, 61] [.slice a n c, .slice a n c, .int .i64 ((n : Nat) : Int), .int .i64 (k : Int), .bool true] hnehp121 (fun w167 hp168 => QB.mk .nil (by kernel_rfl)) (fun b169 => ?_)
                    refine QOPS.nil (fun w170 hp171 => ?_)
                    refine thn_n ?_
                    exact ⟨true, trivial, Bp.of Bp.t (by first | (simp only [h127, h138, h149, h154, h165, iff_false, false_iff, iff_true, true_iff, Classical.not_not, and_true, true_and, and_false, false_and, or_true, true_or, or_false, false_or, not_true_eq_false, not_false_eq_true, and_self, or_self, iff_self]; done) | (simp [h127, h138, h149, h154, h165]; done) | grind | (simp_all; done)), by kernel_rfl, hp171⟩
          · refine QOPS.batch 0 {} [] [0, 4, 5, 6, 7, 8, 31] [.slice a n c, .pointer (some ⟨g18, 0, none⟩), .bool (decide (¬ ((l[k]!.Status) = 0))), .slice a n c, .int .i64 ((n : Nat) : Int), .int .i64 (k : Int), .bool (decide (¬ ((l[k]!.Key) = (l[0]!.Key))))] hnehp121 (fun _ _ => QB.mk .nil (by kernel_rfl)) (fun b128 => ?_)
            refine QOPS.re [.slice a n c, .pointer (some ⟨g18, 0, none⟩), .bool (decide (¬ ((l[k]!.Status) = 0))), .slice a n c, .int .i64 ((n : Nat) : Int), .int .i64 (k : Int), .bool true] (by rw [show (decide (¬ ((l[k]!.Key) = (l[0]!.Key)))) = true from Bp.dec.tt h127]) ?_
            refine QOPS.batch 30 { wraps := [35, 47, 53, 61] } [] [0, 6, 7, 8, 61] [.slice a n c, .slice a n c, .int .i64 ((n : Nat) : Int), .int .i64 (k : Int), .bool true] hnehp121 (fun w129 hp130 => QB.mk .nil (by kernel_rfl)) (fun b131 => ?_)
            refine QOPS.nil (fun w132 hp133 => ?_)
            refine thn_n ?_
            exact ⟨true, trivial, Bp.of Bp.t (by first | (simp only [h127, iff_false, false_iff, iff_true, true_iff, Classical.not_not, and_true, true_and, and_false, false_and, or_true, true_or, or_false, false_or, not_true_eq_false, not_false_eq_true, and_self, or_self, iff_self]; done) | (simp [h127]; done) | grind | (simp_all; done)), by kernel_rfl, hp133⟩
        rintro e219 w220 ⟨x217, hd222, hb218, hE223, hp221⟩
        obtain ⟨b224, rfl⟩ := toMk hE223
        clear hE223
        clear hd222
        refine WP.test (p := ((¬ ((l[k]!.Key) = (l[0]!.Key)))) ∨ (((l[k]!.Key) = (l[0]!.Key)) ∧ ((l[k]!.From) < 0)) ∨ (((l[k]!.Key) = (l[0]!.Key)) ∧ (¬ ((l[k]!.From) < 0)) ∧ (¬ ((l[k]!.To) = (-1))) ∧ ((l[k]!.To) ≤ (l[k]!.From))) ∨ (((l[k]!.Key) = (l[0]!.Key)) ∧ (¬ ((l[k]!.From) < 0)) ∧ (¬ ((l[k]!.To) = (-1))) ∧ (¬ ((l[k]!.To) ≤ (l[k]!.From))) ∧ (¬ ((((l[k]!.Open) = true) ↔ (¬ ((l[k]!.Status) = 0)))))) ∨ (((l[k]!.Key) = (l[0]!.Key)) ∧ (¬ ((l[k]!.From) < 0)) ∧ (¬ ((l[k]!.To) = (-1))) ∧ (¬ ((l[k]!.To) ≤ (l[k]!.From))) ∧ (((l[k]!.Open) = true) ↔ (¬ ((l[k]!.Status) = 0))) ∧ (¬ ((l[k]!.Status) = 0)) ∧ (¬ ((l[k]!.To) = (-1)))) ∨ (((l[k]!.Key) = (l[0]!.Key)) ∧ (¬ ((l[k]!.From) < 0)) ∧ ((l[k]!.To) = (-1)) ∧ (¬ ((((l[k]!.Open) = true) ↔ (¬ ((l[k]!.Status) = 0)))))) ∨ (((l[k]!.Key) = (l[0]!.Key)) ∧ (¬ ((l[k]!.From) < 0)) ∧ ((l[k]!.To) = (-1)) ∧ (((l[k]!.Open) = true) ↔ (¬ ((l[k]!.Status) = 0))) ∧ (¬ ((l[k]!.Status) = 0)) ∧ (¬ ((l[k]!.To) = (-1))))) rfl hb218 (fun h225 => ?_) (fun h225 => ?_)
        · refine WP.seq ?_
          refine WP.pure {} [] [2] [.bool false] .nil (by kernel_rfl) (fun b226 => ?_)
          refine thn_n ?_
          refine WP.ret ?_
          refine blk_r ?_
          refine thn_r ?_
          refine thn_r ?_
          refine blk_r ?_
          refine thn_r ?_
          refine bodyQ.of _ rfl [.bool false] ⟨rfl, trivial⟩ ?_
          exact ⟨_, rfl, Bp.of Bp.f (by simp only [false_iff]; intro q; have q_ := q k (by omega); simp only [fitC, openP] at q_; have h_ := h225; grind), hp221.fr⟩
        · refine WP.skip ?_
          refine blk_n ?_
          refine thn_n ?_
          refine WP.pure {} [] [0, 6, 7, 8] [.slice a n c, .slice a n c, .int .i64 ((n : Nat) : Int), .int .i64 ((k : Int) + 1)] (.cons (show Rng .i64 ((k : Int) + 1) from Rng.i64 (by omega)) .nil) (by kernel_rfl) (fun b227 => ?_)
          refine thn_n ?_
          exact ⟨l.length - (k + 1), (by omega), k + 1, rfl, ⟨by omega, fun i hi => by by_cases e : i = k; subst e; exact (by simp only [fitC, openP]; have h_ := h225; grind); exact pb i (by omega)⟩, by kernel_rfl, (hp221.sub (.cons _ (.slnil)))⟩
    · refine OPS.batch 0 {} [] [0, 4, 6, 7, 8, 14] [.slice a n c, .pointer (some ⟨g18, 0, none⟩), .slice a n c, .int .i64 ((n : Nat) : Int), .int .i64 (k : Int), .bool (l[k]!.Put)] .nil (by kernel_rfl) (fun b228 => ?_)
      refine OPS.re [.slice a n c, .pointer (some ⟨g18, 0, none⟩), .slice a n c, .int .i64 ((n : Nat) : Int), .int .i64 (k : Int), .bool false] (by rw [show (l[k]!.Put) = false from Bp.var.ff h22]) ?_
      refine OPS.batch 10 { wraps := [23] } [] [0, 4, 5, 6, 7, 8] [.slice a n c, .pointer (some ⟨g18, 0, none⟩), .bool false, .slice a n c, .int .i64 ((n : Nat) : Int), .int .i64 (k : Int)] .nil (by kernel_rfl) (fun b229 => ?_)
      refine OPS.nil ?_
      refine thn_n ?_
      refine WP.cut (fun e309 w310 => ∃ (x307 : Bool), (True) ∧ Bp x307 (((¬ ((l[k]!.Key) = (l[0]!.Key)))) ∨ (((l[k]!.Key) = (l[0]!.Key)) ∧ ((l[k]!.From) < 0)) ∨ (((l[k]!.Key) = (l[0]!.Key)) ∧ (¬ ((l[k]!.From) < 0)) ∧ (¬ ((l[k]!.To) = (-1))) ∧ ((l[k]!.To) ≤ (l[k]!.From))) ∨ (((l[k]!.Key) = (l[0]!.Key)) ∧ (¬ ((l[k]!.From) < 0)) ∧ (¬ ((l[k]!.To) = (-1))) ∧ (¬ ((l[k]!.To) ≤ (l[k]!.From))) ∧ (¬ ((((l[k]!.Open) = true) ↔ (False))))) ∨ (((l[k]!.Key) = (l[0]!.Key)) ∧ (¬ ((l[k]!.From) < 0)) ∧ ((l[k]!.To) = (-1)) ∧ (¬ ((((l[k]!.Open) = true) ↔ (False)))))) ∧ List.map e309 [0, 6, 7, 8, 61] = [.slice a n c, .slice a n c, .int .i64 ((n : Nat) : Int), .int .i64 (k : Int), .bool x307] ∧ Hp w Non [Res.row g18 [.int .i64 (l[k]!.Client), .int .i64 (l[k]!.Op), .bool (l[k]!.Put), .string (l[k]!.Key), .slice (l[k]!.Value.a) (l[k]!.Value.n) (l[k]!.Value.c), .int .i64 (l[k]!.Status), .int .i64 (l[k]!.From), .int .i64 (l[k]!.To), .bool (l[k]!.Open), .int .i64 (l[k]!.Tag.Count), .int .i64 (l[k]!.Tag.Client)] 73] w310) ?_ ?_
      · have hp233 := hp20.drew
        refine WP.quiet (fun w231 => Hp w Non [Res.row g18 [.int .i64 (l[k]!.Client), .int .i64 (l[k]!.Op), .bool (l[k]!.Put), .string (l[k]!.Key), .slice (l[k]!.Value.a) (l[k]!.Value.n) (l[k]!.Value.c), .int .i64 (l[k]!.Status), .int .i64 (l[k]!.From), .int .i64 (l[k]!.To), .bool (l[k]!.Open), .int .i64 (l[k]!.Tag.Count), .int .i64 (l[k]!.Tag.Client)] 73] w231) (by kernel_rfl) hp233 ?_
        have hnehp233 : ∃ wz_, (fun w231 => Hp w Non [Res.row g18 [.int .i64 (l[k]!.Client), .int .i64 (l[k]!.Op), .bool (l[k]!.Put), .string (l[k]!.Key), .slice (l[k]!.Value.a) (l[k]!.Value.n) (l[k]!.Value.c), .int .i64 (l[k]!.Status), .int .i64 (l[k]!.From), .int .i64 (l[k]!.To), .bool (l[k]!.Open), .int .i64 (l[k]!.Tag.Count), .int .i64 (l[k]!.Tag.Client)] 73] w231) wz_ := ⟨_, hp233⟩
        have hy237 : (l)[0]? = some l[0]! := get_bang (by first | (omega) | (simp only [List.length_append, List.length_cons, List.length_nil]; omega) | (simp only [List.length_take, List.length_append, List.length_cons, List.length_nil]; omega))
        refine QOPS.batch 8 {} [.string (l[k]!.Key), .string (l[0]!.Key)] [0, 4, 5, 6, 7, 8, 31] [.slice a n c, .pointer (some ⟨g18, 0, none⟩), .bool false, .slice a n c, .int .i64 ((n : Nat) : Int), .int .i64 (k : Int), .bool (decide (¬ ((l[k]!.Key) = (l[0]!.Key))))] hnehp233 (fun w234 hp235 => QB.mk (.cons (Ld.row1 (P := Try.prog) (t := 9) (o := 3) (v := .string (l[k]!.Key)) hp235.get0 (by kernel_rfl)) (.cons (show InB (0) (n) from ⟨by omega, by omega⟩) (.cons ((hs.at hp235).some (by omega)) (.cons (Ld.el1 (P := Try.prog) (t := 9) (hs.at hp235).rd 11 (fun _ => rfl) hy237 (o := 3) (v := .string (l[0]!.Key)) (by kernel_rfl)) .nil)))) (by kernel_rfl)) (fun b238 => ?_)
        by_cases h239 : (l[k]!.Key) = (l[0]!.Key)
        · refine QOPS.batch 0 {} [] [0, 4, 5, 6, 7, 8, 31] [.slice a n c, .pointer (some ⟨g18, 0, none⟩), .bool false, .slice a n c, .int .i64 ((n : Nat) : Int), .int .i64 (k : Int), .bool (decide (¬ ((l[k]!.Key) = (l[0]!.Key))))] hnehp233 (fun _ _ => QB.mk .nil (by kernel_rfl)) (fun b246 => ?_)
          refine QOPS.re [.slice a n c, .pointer (some ⟨g18, 0, none⟩), .bool false, .slice a n c, .int .i64 ((n : Nat) : Int), .int .i64 (k : Int), .bool false] (by rw [show (decide (¬ ((l[k]!.Key) = (l[0]!.Key)))) = false from Bp.dec.ff (fun k => k h239)]) ?_
          refine QOPS.batch 5 { wraps := [35] } [.int .i64 (l[k]!.From)] [0, 4, 5, 6, 7, 8, 36] [.slice a n c, .pointer (some ⟨g18, 0, none⟩), .bool false, .slice a n c, .int .i64 ((n : Nat) : Int), .int .i64 (k : Int), .bool (decide ((l[k]!.From) < 0))] hnehp233 (fun w247 hp248 => QB.mk (.cons (Ld.row1 (P := Try.prog) (t := 3) (o := 6) (v := .int .i64 (l[k]!.From)) hp248.get0 (by kernel_rfl)) .nil) (by kernel_rfl)) (fun b249 => ?_)
          by_cases h250 : (l[k]!.From) < 0
          · refine QOPS.batch 0 {} [] [0, 4, 5, 6, 7, 8, 36] [.slice a n c, .pointer (some ⟨g18, 0, none⟩), .bool false, .slice a n c, .int .i64 ((n : Nat) : Int), .int .i64 (k : Int), .bool (decide ((l[k]!.From) < 0))] hnehp233 (fun _ _ => QB.mk .nil (by kernel_rfl)) (fun b251 => ?_)
            refine QOPS.re [.slice a n c, .pointer (some ⟨g18, 0, none⟩), .bool false, .slice a n c, .int .i64 ((n : Nat) : Int), .int .i64 (k : Int), .bool true] (by rw [show (decide ((l[k]!.From) < 0)) = true from Bp.dec.tt h250]) ?_
            refine QOPS.batch 25 { wraps := [47, 53, 61] } [] [0, 6, 7, 8, 61] [.slice a n c, .slice a n c, .int .i64 ((n : Nat) : Int), .int .i64 (k : Int), .bool true] hnehp233 (fun w252 hp253 => QB.mk .nil (by kernel_rfl)) (fun b254 => ?_)
            refine QOPS.nil (fun w255 hp256 => ?_)
            refine thn_n ?_
            exact ⟨true, trivial, Bp.of Bp.t (by first | (simp only [h239, h250, iff_false, false_iff, iff_true, true_iff, Classical.not_not, and_true, true_and, and_false, false_and, or_true, true_or, or_false, false_or, not_true_eq_false, not_false_eq_true, and_self, or_self, iff_self]; done) | (simp [h239, h250]; done) | grind | (simp_all; done)), by kernel_rfl, hp256⟩
          · refine QOPS.batch 0 {} [] [0, 4, 5, 6, 7, 8, 36] [.slice a n c, .pointer (some ⟨g18, 0, none⟩), .bool false, .slice a n c, .int .i64 ((n : Nat) : Int), .int .i64 (k : Int), .bool (decide ((l[k]!.From) < 0))] hnehp233 (fun _ _ => QB.mk .nil (by kernel_rfl)) (fun b257 => ?_)
            refine QOPS.re [.slice a n c, .pointer (some ⟨g18, 0, none⟩), .bool false, .slice a n c, .int .i64 ((n : Nat) : Int), .int .i64 (k : Int), .bool false] (by rw [show (decide ((l[k]!.From) < 0)) = false from Bp.dec.ff h250]) ?_
            refine QOPS.batch 4 {} [.int .i64 (l[k]!.To)] [0, 4, 5, 6, 7, 8, 36, 40] [.slice a n c, .pointer (some ⟨g18, 0, none⟩), .bool false, .slice a n c, .int .i64 ((n : Nat) : Int), .int .i64 (k : Int), .bool false, .bool (decide (¬ ((l[k]!.To) = (-1))))] hnehp233 (fun w258 hp259 => QB.mk (.cons (Ld.row1 (P := Try.prog) (t := 3) (o := 7) (v := .int .i64 (l[k]!.To)) hp259.get0 (by kernel_rfl)) .nil) (by kernel_rfl)) (fun b260 => ?_)
            by_cases h261 : (l[k]!.To) = (-1)
            · refine QOPS.batch 0 {} [] [0, 4, 5, 6, 7, 8, 36, 40] [.slice a n c, .pointer (some ⟨g18, 0, none⟩), .bool false, .slice a n c, .int .i64 ((n : Nat) : Int), .int .i64 (k : Int), .bool false, .bool (decide (¬ ((l[k]!.To) = (-1))))] hnehp233 (fun _ _ => QB.mk .nil (by kernel_rfl)) (fun b290 => ?_)
              refine QOPS.re [.slice a n c, .pointer (some ⟨g18, 0, none⟩), .bool false, .slice a n c, .int .i64 ((n : Nat) : Int), .int .i64 (k : Int), .bool false, .bool false] (by rw [show (decide (¬ ((l[k]!.To) = (-1)))) = false from Bp.dec.ff (fun k => k h261)]) ?_
              refine QOPS.batch 14 { wraps := [46, 47, 53] } [.bool (l[k]!.Open)] [0, 4, 5, 6, 7, 8, 54] [.slice a n c, .pointer (some ⟨g18, 0, none⟩), .bool false, .slice a n c, .int .i64 ((n : Nat) : Int), .int .i64 (k : Int), .bool (!((l[k]!.Open) == false))] hnehp233 (fun w291 hp292 => QB.mk (.cons (Ld.row1 (P := Try.prog) (t := 4) (o := 8) (v := .bool (l[k]!.Open)) hp292.get0 (by kernel_rfl)) .nil) (by kernel_rfl)) (fun b293 => ?_)
              by_cases h294 : (((l[k]!.Open) = true) ↔ (False))
              · refine QOPS.batch 0 {} [] [0, 4, 5, 6, 7, 8, 54] [.slice a n c, .pointer (some ⟨g18, 0, none⟩), .bool false, .slice a n c, .int .i64 ((n : Nat) : Int), .int .i64 (k : Int), .bool (!((l[k]!.Open) == false))] hnehp233 (fun _ _ => QB.mk .nil (by kernel_rfl)) (fun b301 => ?_)
                refine QOPS.re [.slice a n c, .pointer (some ⟨g18, 0, none⟩), .bool false, .slice a n c, .int .i64 ((n : Nat) : Int), .int .i64 (k : Int), .bool false] (by rw [show (!((l[k]!.Open) == false)) = false from (Bp.not (Bp.beq Bp.var Bp.f)).ff (fun k => k h294)]) ?_
                refine QOPS.batch 7 { wraps := [60, 61] } [] [0, 6, 7, 8, 61] [.slice a n c, .slice a n c, .int .i64 ((n : Nat) : Int), .int .i64 (k : Int), .bool false] hnehp233 (fun w302 hp303 => QB.mk .nil (by kernel_rfl)) (fun b304 => ?_)
                refine QOPS.nil (fun w305 hp306 => ?_)
                refine thn_n ?_
                exact ⟨false, trivial, Bp.of Bp.f (by first | (simp only [h239, h250, h261, h294, iff_false, false_iff, iff_true, true_iff, Classical.not_not, and_true, true_and, and_false, false_and, or_true, true_or, or_false, false_or, not_true_eq_false, not_false_eq_true, and_self, or_self, iff_self]; done) | (simp [h239, h250, h261, h294]; done) | grind | (simp_all; done)), by kernel_rfl, hp306⟩
              · refine QOPS.batch 0 {} [] [0, 4, 5, 6, 7, 8, 54] [.slice a n c, .pointer (some ⟨g18, 0, none⟩), .bool false, .slice a n c, .int .i64 ((n : Nat) : Int), .int .i64 (k : Int), .bool (!((l[k]!.Open) == false))] hnehp233 (fun _ _ => QB.mk .nil (by kernel_rfl)) (fun b295 => ?_)
                refine QOPS.re [.slice a n c, .pointer (some ⟨g18, 0, none⟩), .bool false, .slice a n c, .int .i64 ((n : Nat) : Int), .int .i64 (k : Int), .bool true] (by rw [show (!((l[k]!.Open) == false)) = true from (Bp.not (Bp.beq Bp.var Bp.f)).tt h294]) ?_
                refine QOPS.batch 7 { wraps := [61] } [] [0, 6, 7, 8, 61] [.slice a n c, .slice a n c, .int .i64 ((n : Nat) : Int), .int .i64 (k : Int), .bool true] hnehp233 (fun w296 hp297 => QB.mk .nil (by kernel_rfl)) (fun b298 => ?_)
                refine QOPS.nil (fun w299 hp300 => ?_)
                refine thn_n ?_
                exact ⟨true, trivial, Bp.of Bp.t (by first | (simp only [h239, h250, h261, h294, iff_false, false_iff, iff_true, true_iff, Classical.not_not, and_true, true_and, and_false, false_and, or_true, true_or, or_false, false_or, not_true_eq_false, not_false_eq_true, and_self, or_self, iff_self]; done) | (simp [h239, h250, h261, h294]; done) | grind | (simp_all; done)), by kernel_rfl, hp300⟩
            · refine QOPS.batch 0 {} [] [0, 4, 5, 6, 7, 8, 36, 40] [.slice a n c, .pointer (some ⟨g18, 0, none⟩), .bool false, .slice a n c, .int .i64 ((n : Nat) : Int), .int .i64 (k : Int), .bool false, .bool (decide (¬ ((l[k]!.To) = (-1))))] hnehp233 (fun _ _ => QB.mk .nil (by kernel_rfl)) (fun b262 => ?_)
              refine QOPS.re [.slice a n c, .pointer (some ⟨g18, 0, none⟩), .bool false, .slice a n c, .int .i64 ((n : Nat) : Int), .int .i64 (k : Int), .bool false, .bool true] (by rw [show (decide (¬ ((l[k]!.To) = (-1)))) = true from Bp.dec.tt h261]) ?_
              refine QOPS.batch 8 { wraps := [46, 47] } [.int .i64 (l[k]!.To), .int .i64 (l[k]!.From)] [0, 4, 5, 6, 7, 8, 48] [.slice a n c, .pointer (some ⟨g18, 0, none⟩), .bool false, .slice a n c, .int .i64 ((n : Nat) : Int), .int .i64 (k : Int), .bool (decide ((l[k]!.To) ≤ (l[k]!.From)))] hnehp233 (fun w263 hp264 => QB.mk (.cons (Ld.row1 (P := Try.prog) (t := 3) (o := 7) (v := .int .i64 (l[k]!.To)) hp264.get0 (by kernel_rfl)) (.cons (Ld.row1 (P := Try.prog) (t := 3) (o := 6) (v := .int .i64 (l[k]!.From)) hp264.get0 (by kernel_rfl)) .nil)) (by kernel_rfl)) (fun b265 => ?_)
              by_cases h266 : (l[k]!.To) ≤ (l[k]!.From)
              · refine QOPS.batch 0 {} [] [0, 4, 5, 6, 7, 8, 48] [.slice a n c, .pointer (some ⟨g18, 0, none⟩), .bool false, .slice a n c, .int .i64 ((n : Nat) : Int), .int .i64 (k : Int), .bool (decide ((l[k]!.To) ≤ (l[k]!.From)))] hnehp233 (fun _ _ => QB.mk .nil (by kernel_rfl)) (fun b267 => ?_)
                refine QOPS.re [.slice a n c, .pointer (some ⟨g18, 0, none⟩), .bool false, .slice a n c, .int .i64 ((n : Nat) : Int), .int .i64 (k : Int), .bool true] (by rw [show (decide ((l[k]!.To) ≤ (l[k]!.From))) = true from Bp.dec.tt h266]) ?_
                refine QOPS.batch 13 { wraps := [53, 61] } [] [0, 6, 7, 8, 61] [.slice a n c, .slice a n c, .int .i64 ((n : Nat) : Int), .int .i64 (k : Int), .bool true] hnehp233 (fun w268 hp269 => QB.mk .nil (by kernel_rfl)) (fun b270 => ?_)
                refine QOPS.nil (fun w271 hp272 => ?_)
                refine thn_n ?_
                exact ⟨true, trivial, Bp.of Bp.t (by first | (simp only [h239, h250, h261, h266, iff_false, false_iff, iff_true, true_iff, Classical.not_not, and_true, true_and, and_false, false_and, or_true, true_or, or_false, false_or, not_true_eq_false, not_false_eq_true, and_self, or_self, iff_self]; done) | (simp [h239, h250, h261, h266]; done) | grind | (simp_all; done)), by kernel_rfl, hp272⟩
              · refine QOPS.batch 0 {} [] [0, 4, 5, 6, 7, 8, 48] [.slice a n c, .pointer (some ⟨g18, 0, none⟩), .bool false, .slice a n c, .int .i64 ((n : Nat) : Int), .int .i64 (k : Int), .bool (decide ((l[k]!.To) ≤ (l[k]!.From)))] hnehp233 (fun _ _ => QB.mk .nil (by kernel_rfl)) (fun b273 => ?_)
                refine QOPS.re [.slice a n c, .pointer (some ⟨g18, 0, none⟩), .bool false, .slice a n c, .int .i64 ((n : Nat) : Int), .int .i64 (k : Int), .bool false] (by rw [show (decide ((l[k]!.To) ≤ (l[k]!.From))) = false from Bp.dec.ff h266]) ?_
                refine QOPS.batch 6 { wraps := [53] } [.bool (l[k]!.Open)] [0, 4, 5, 6, 7, 8, 54] [.slice a n c, .pointer (some ⟨g18, 0, none⟩), .bool false, .slice a n c, .int .i64 ((n : Nat) : Int), .int .i64 (k : Int), .bool (!((l[k]!.Open) == false))] hnehp233 (fun w274 hp275 => QB.mk (.cons (Ld.row1 (P := Try.prog) (t := 4) (o := 8) (v := .bool (l[k]!.Open)) hp275.get0 (by kernel_rfl)) .nil) (by kernel_rfl)) (fun b276 => ?_)
                by_cases h277 : (((l[k]!.Open) = true) ↔ (False))
                · refine QOPS.batch 0 {} [] [0, 4, 5, 6, 7, 8, 54] [.slice a n c, .pointer (some ⟨g18, 0, none⟩), .bool false, .slice a n c, .int .i64 ((n : Nat) : Int), .int .i64 (k : Int), .bool (!((l[k]!.Open) == false))] hnehp233 (fun _ _ => QB.mk .nil (by kernel_rfl)) (fun b284 => ?_)
                  refine QOPS.re [.slice a n c, .pointer (some ⟨g18, 0, none⟩), .bool false, .slice a n c, .int .i64 ((n : Nat) : Int), .int .i64 (k : Int), .bool false] (by rw [show (!((l[k]!.Open) == false)) = false from (Bp.not (Bp.beq Bp.var Bp.f)).ff (fun k => k h277)]) ?_
                  refine QOPS.batch 7 { wraps := [60, 61] } [] [0, 6, 7, 8, 61] [.slice a n c, .slice a n c, .int .i64 ((n : Nat) : Int), .int .i64 (k : Int), .bool false] hnehp233 (fun w285 hp286 => QB.mk .nil (by kernel_rfl)) (fun b287 => ?_)
                  refine QOPS.nil (fun w288 hp289 => ?_)
                  refine thn_n ?_
                  exact ⟨false, trivial, Bp.of Bp.f (by first | (simp only [h239, h250, h261, h266, h277, iff_false, false_iff, iff_true, true_iff, Classical.not_not, and_true, true_and, and_false, false_and, or_true, true_or, or_false, false_or, not_true_eq_false, not_false_eq_true, and_self, or_self, iff_self]; done) | (simp [h239, h250, h261, h266, h277]; done) | grind | (simp_all; done)), by kernel_rfl, hp289⟩
                · refine QOPS.batch 0 {} [] [0, 4, 5, 6, 7, 8, 54] [.slice a n c, .pointer (some ⟨g18, 0, none⟩), .bool false, .slice a n c, .int .i64 ((n : Nat) : Int), .int .i64 (k : Int), .bool (!((l[k]!.Open) == false))] hnehp233 (fun _ _ => QB.mk .nil (by kernel_rfl)) (fun b278 => ?_)
                  refine QOPS.re [.slice a n c, .pointer (some ⟨g18, 0, none⟩), .bool false, .slice a n c, .int .i64 ((n : Nat) : Int), .int .i64 (k : Int), .bool true] (by rw [show (!((l[k]!.Open) == false)) = true from (Bp.not (Bp.beq Bp.var Bp.f)).tt h277]) ?_
                  refine QOPS.batch 7 { wraps := [61] } [] [0, 6, 7, 8, 61] [.slice a n c, .slice a n c, .int .i64 ((n : Nat) : Int), .int .i64 (k : Int), .bool true] hnehp233 (fun w279 hp280 => QB.mk .nil (by kernel_rfl)) (fun b281 => ?_)
                  refine QOPS.nil (fun w282 hp283 => ?_)
                  refine thn_n ?_
                  exact ⟨true, trivial, Bp.of Bp.t (by first | (simp only [h239, h250, h261, h266, h277, iff_false, false_iff, iff_true, true_iff, Classical.not_not, and_true, true_and, and_false, false_and, or_true, true_or, or_false, false_or, not_true_eq_false, not_false_eq_true, and_self, or_self, iff_self]; done) | (simp [h239, h250, h261, h266, h277]; done) | grind | (simp_all; done)), by kernel_rfl, hp283⟩
        · refine QOPS.batch 0 {} [] [0, 4, 5, 6, 7, 8, 31] [.slice a n c, .pointer (some ⟨g18, 0, none⟩), .bool false, .slice a n c, .int .i64 ((n : Nat) : Int), .int .i64 (k : Int), .bool (decide (¬ ((l[k]!.Key) = (l[0]!.Key))))] hnehp233 (fun _ _ => QB.mk .nil (by kernel_rfl)) (fun b240 => ?_)
          refine QOPS.re [.slice a n c, .pointer (some ⟨g18, 0, none⟩), .bool false, .slice a n c, .int .i64 ((n : Nat) : Int), .int .i64 (k : Int), .bool true] (by rw [show (decide (¬ ((l[k]!.Key) = (l[0]!.Key)))) = true from Bp.dec.tt h239]) ?_
          refine QOPS.batch 30 { wraps := [35, 47, 53, 61] } [] [0, 6, 7, 8, 61] [.slice a n c, .slice a n c, .int .i64 ((n : Nat) : Int), .int .i64 (k : Int), .bool true] hnehp233 (fun w241 hp242 => QB.mk .nil (by kernel_rfl)) (fun b243 => ?_)
          refine QOPS.nil (fun w244 hp245 => ?_)
          refine thn_n ?_
          exact ⟨true, trivial, Bp.of Bp.t (by first | (simp only [h239, iff_false, false_iff, iff_true, true_iff, Classical.not_not, and_true, true_and, and_false, false_and, or_true, true_or, or_false, false_or, not_true_eq_false, not_false_eq_true, and_self, or_self, iff_self]; done) | (simp [h239]; done) | grind | (simp_all; done)), by kernel_rfl, hp245⟩
      rintro e309 w310 ⟨x307, hd312, hb308, hE313, hp311⟩
      obtain ⟨b314, rfl⟩ := toMk hE313
      clear hE313
      clear hd312
      refine WP.test (p := ((¬ ((l[k]!.Key) = (l[0]!.Key)))) ∨ (((l[k]!.Key) = (l[0]!.Key)) ∧ ((l[k]!.From) < 0)) ∨ (((l[k]!.Key) = (l[0]!.Key)) ∧ (¬ ((l[k]!.From) < 0)) ∧ (¬ ((l[k]!.To) = (-1))) ∧ ((l[k]!.To) ≤ (l[k]!.From))) ∨ (((l[k]!.Key) = (l[0]!.Key)) ∧ (¬ ((l[k]!.From) < 0)) ∧ (¬ ((l[k]!.To) = (-1))) ∧ (¬ ((l[k]!.To) ≤ (l[k]!.From))) ∧ (¬ ((((l[k]!.Open) = true) ↔ (False))))) ∨ (((l[k]!.Key) = (l[0]!.Key)) ∧ (¬ ((l[k]!.From) < 0)) ∧ ((l[k]!.To) = (-1)) ∧ (¬ ((((l[k]!.Open) = true) ↔ (False)))))) rfl hb308 (fun h315 => ?_) (fun h315 => ?_)
      · refine WP.seq ?_
        refine WP.pure {} [] [2] [.bool false] .nil (by kernel_rfl) (fun b316 => ?_)
        refine thn_n ?_
        refine WP.ret ?_
        refine blk_r ?_
        refine thn_r ?_
        refine thn_r ?_
        refine blk_r ?_
        refine thn_r ?_
        refine bodyQ.of _ rfl [.bool false] ⟨rfl, trivial⟩ ?_
        exact ⟨_, rfl, Bp.of Bp.f (by simp only [false_iff]; intro q; have q_ := q k (by omega); simp only [fitC, openP] at q_; have h_ := h315; grind), hp311.fr⟩
      · refine WP.skip ?_
        refine blk_n ?_
        refine thn_n ?_
        refine WP.pure {} [] [0, 6, 7, 8] [.slice a n c, .slice a n c, .int .i64 ((n : Nat) : Int), .int .i64 ((k : Int) + 1)] (.cons (show Rng .i64 ((k : Int) + 1) from Rng.i64 (by omega)) .nil) (by kernel_rfl) (fun b317 => ?_)
        refine thn_n ?_
        exact ⟨l.length - (k + 1), (by omega), k + 1, rfl, ⟨by omega, fun i hi => by by_cases e : i = k; subst e; exact (by simp only [fitC, openP]; have h_ := h315; grind); exact pb i (by omega)⟩, by kernel_rfl, (hp311.sub (.cons _ (.slnil)))⟩
  · refine WP.exit ?_
    refine thn_x ?_
    refine thn_x ?_
    refine blk_hit ?_
    refine thn_n ?_
    refine WP.seq ?_
    refine WP.pure {} [] [2] [.bool true] .nil (by kernel_rfl) (fun b318 => ?_)
    refine thn_n ?_
    refine WP.ret ?_
    refine bodyQ.of _ rfl [.bool true] ⟨rfl, trivial⟩ ?_
    exact ⟨_, rfl, Bp.of Bp.t (by simp only [true_iff]; exact fun i hi => pb i (by omega)), hp5.fr⟩

theorem o_whole (l : List GCall) (a : Option Addr) (n c : Nat) (w : World) (hn : n = l.length) (hb : l.length ≤ 8796093022207) (hs : SlR w a n (l.flatMap GCall.cells)) (o : List Int) (ao : Option Addr) (no co : Nat) (hno : no = o.length) (hbo : o.length ≤ 9223372036854775807) (hso : SlR w ao no (List.flatMap (fun (y : Int) => [Go.Value.int .i64 y]) o)) :
    Calls Try.prog 71 #[.slice a n c, .slice ao no co] w (fun r_ w' => ∃ f_, r_ = .returned (.bool f_) ∧ Bp f_ (wholeP l o) ∧ Fram Non w w') := by
  refine calls_of Try.func71 rfl 70 rfl (by simp) ?_
  have hp0 := Hp.init w
  have he0 : List.map (env0 [.slice a n c, .slice ao no co]) [0, 1] = [.slice a n c, .slice ao no co] := by kernel_rfl
  obtain ⟨b0, he0⟩ := toMk he0
  rw [he0]
  clear he0
  refine WP.seq ?_
  refine WP.pure {} [] [0, 1] [.slice a n c, .slice ao no co] .nil (by kernel_rfl) (fun b1 => ?_)
  refine thn_n ?_
  refine WP.seq ?_
  refine WP.region _ rfl (by kernel_rfl) ?_
  refine OPS.batch 2 {} [] [0, 1, 11] [.slice a n c, .slice ao no co, .int .i64 ((n : Nat) : Int)] .nil (by kernel_rfl) (fun b2 => ?_)
  refine OPS.cons (opStep.makeSlice (f := (fun y => [.bool y])) (E := 4) (sz := 1) (bytes := 1) (n := n) false hp0 (by kernel_rfl) (by decide) (by kernel_rfl) (by omega) (by unfold maxLen; omega) (fun g5 w3 hp4 => ?_))
  refine OPS.batch 1 {} [] [0, 1, 5] [.slice a n c, .slice ao no co, .slice (some ⟨g5, 0, none⟩) n n] .nil (by kernel_rfl) (fun b6 => ?_)
  refine OPS.nil ?_
  refine thn_n ?_
  refine WP.seq ?_
  refine WP.seq ?_
  refine WP.pure {} [] [0, 5, 13, 14, 15] [.slice a n c, .slice (some ⟨g5, 0, none⟩) n n, .slice ao no co, .int .i64 ((no : Nat) : Int), .int .i64 0] .nil (by kernel_rfl) (fun b7 => ?_)
  refine thn_n ?_
  refine WP.block ?_
  refine WP.loop (fun mz_ e8 w9 => ∃ (k : Nat) (sl : List Bool), mz_ = o.length - k ∧ (k ≤ o.length ∧ sl.length = l.length ∧ (∀ i, i < l.length → (sl[i]! = true ↔ ∃ j, j < k ∧ o[j]! = (i : Int))) ∧ ∀ j, j < k → okO l o j) ∧ List.map e8 [0, 5, 13, 14, 15] = [.slice a n c, .slice (some ⟨g5, 0, none⟩) n n, .slice ao no co, .int .i64 ((no : Nat) : Int), .int .i64 (k : Int)] ∧ Hp w Non [Res.own 4 1 (.slice (some ⟨g5, 0, none⟩) n n) n (List.flatMap (fun y => [.bool y]) sl)] w9) (o.length - (0)) ⟨0, List.replicate n false, rfl, ⟨by omega, by simp [hn], fun i hi => by simp [hn, hi], fun j hj => by omega⟩, by kernel_rfl, hp4⟩ ?_
  rintro _ e8 w9 ⟨k, sl, rfl, hI11, hE12, hp10⟩
  obtain ⟨b13, rfl⟩ := toMk hE12
  clear hE12
  obtain ⟨pa, pl, ps, pk⟩ := hI11
  refine WP.seq ?_
  refine WP.pure {} [] [0, 5, 13, 14, 15, 16] [.slice a n c, .slice (some ⟨g5, 0, none⟩) n n, .slice ao no co, .int .i64 ((no : Nat) : Int), .int .i64 (k : Int), .bool (decide ((k : Int) < ((no : Nat) : Int)))] .nil (by kernel_rfl) (fun b14 => ?_)
  refine thn_n ?_
  refine WP.seq ?_
  refine WP.test (p := (k : Int) < ((no : Nat) : Int)) rfl Bp.dec (fun h15 => ?_) (fun h15 => ?_)
  · refine WP.skip ?_
    refine thn_n ?_
    refine WP.seq ?_
    refine WP.block ?_
    refine WP.seq ?_
    have hy17 : (o)[k]? = some o[k]! := get_bang (by first | (omega) | (simp only [List.length_append, List.length_cons, List.length_nil]; omega) | (simp only [List.length_take, List.length_append, List.length_cons, List.length_nil]; omega))
    refine WP.pure {} [.int .i64 (o[k]!)] [0, 5, 7, 13, 14, 15] [.slice a n c, .slice (some ⟨g5, 0, none⟩) n n, .int .i64 (o[k]!), .slice ao no co, .int .i64 ((no : Nat) : Int), .int .i64 (k : Int)] (.cons (show InB ((k : Int)) (no) from ⟨by omega, by omega⟩) (.cons ((hso.at hp10).some (by omega)) (.cons (Ld.add0 (Ld.el1 (P := Try.prog) (t := 3) (hso.at hp10).rd 1 (fun _ => rfl) hy17 (o := 0) (v := .int .i64 (o[k]!)) (by kernel_rfl))) .nil))) (by kernel_rfl) (fun b18 => ?_)
    refine thn_n ?_
    refine WP.seq ?_
    refine WP.cut (fun e55 w56 => ∃ (x53 : Bool), (True) ∧ Bp x53 ((((o[k]!) < 0)) ∨ ((¬ ((o[k]!) < 0)) ∧ (((n : Nat) : Int) ≤ (o[k]!))) ∨ ((¬ ((o[k]!) < 0)) ∧ (¬ (((n : Nat) : Int) ≤ (o[k]!))) ∧ ((sl[(o[k]! : Int).toNat]!) = true)) ∨ ((¬ ((o[k]!) < 0)) ∧ (¬ (((n : Nat) : Int) ≤ (o[k]!))) ∧ (¬ ((sl[(o[k]! : Int).toNat]!) = true)) ∧ (¬ (dueP (l[(o[k]! : Int).toNat]!))) ∧ (¬ ((l[(o[k]! : Int).toNat]!.Open) = true)))) ∧ List.map e55 [0, 5, 7, 13, 14, 15, 48] = [.slice a n c, .slice (some ⟨g5, 0, none⟩) n n, .int .i64 (o[k]!), .slice ao no co, .int .i64 ((no : Nat) : Int), .int .i64 (k : Int), .bool x53] ∧ Hp w Non [Res.own 4 1 (.slice (some ⟨g5, 0, none⟩) n n) n (List.flatMap (fun y => [.bool y]) sl)] w56) ?_ ?_
    · refine WP.region _ rfl (by kernel_rfl) ?_
      refine OPS.batch 3 {} [] [0, 5, 7, 13, 14, 15, 21] [.slice a n c, .slice (some ⟨g5, 0, none⟩) n n, .int .i64 (o[k]!), .slice ao no co, .int .i64 ((no : Nat) : Int), .int .i64 (k : Int), .bool (decide ((o[k]!) < 0))] .nil (by kernel_rfl) (fun b20 => ?_)
      by_cases h21 : (o[k]!) < 0
      · refine OPS.batch 0 {} [] [0, 5, 7, 13, 14, 15, 21] [.slice a n c, .slice (some ⟨g5, 0, none⟩) n n, .int .i64 (o[k]!), .slice ao no co, .int .i64 ((no : Nat) : Int), .int .i64 (k : Int), .bool (decide ((o[k]!) < 0))] .nil (by kernel_rfl) (fun b22 => ?_)
        refine OPS.re [.slice a n c, .slice (some ⟨g5, 0, none⟩) n n, .int .i64 (o[k]!), .slice ao no co, .int .i64 ((no : Nat) : Int), .int .i64 (k : Int), .bool true] (by rw [show (decide ((o[k]!) < 0)) = true from Bp.dec.tt h21]) ?_
        refine OPS.batch 27 { wraps := [26, 32, 48] } [] [0, 5, 7, 13, 14, 15, 48] [.slice a n c, .slice (some ⟨g5, 0, none⟩) n n, .int .i64 (o[k]!), .slice ao no co, .int .i64 ((no : Nat) : Int), .int .i64 (k : Int), .bool true] .nil (by kernel_rfl) (fun b23 => ?_)
        refine OPS.nil ?_
        refine thn_n ?_
        exact ⟨true, trivial, Bp.of Bp.t (by first | (simp only [h21, iff_false, false_iff, iff_true, true_iff, Classical.not_not, and_true, true_and, and_false, false_and, or_true, true_or, or_false, false_or, not_true_eq_false, not_false_eq_true, and_self, or_self, iff_self]; done) | (simp [h21]; done) | grind | (simp_all; done)), by kernel_rfl, hp10⟩
      · refine OPS.batch 0 {} [] [0, 5, 7, 13, 14, 15, 21] [.slice a n c, .slice (some ⟨g5, 0, none⟩) n n, .int .i64 (o[k]!), .slice ao no co, .int .i64 ((no : Nat) : Int), .int .i64 (k : Int), .bool (decide ((o[k]!) < 0))] .nil (by kernel_rfl) (fun b24 => ?_)
        refine OPS.re [.slice a n c, .slice (some ⟨g5, 0, none⟩) n n, .int .i64 (o[k]!), .slice ao no co, .int .i64 ((no : Nat) : Int), .int .i64 (k : Int), .bool false] (by rw [show (decide ((o[k]!) < 0)) = false from Bp.dec.ff h21]) ?_
        refine OPS.batch 6 { wraps := [26] } [] [0, 5, 7, 13, 14, 15, 27] [.slice a n c, .slice (some ⟨g5, 0, none⟩) n n, .int .i64 (o[k]!), .slice ao no co, .int .i64 ((no : Nat) : Int), .int .i64 (k : Int), .bool (decide (((n : Nat) : Int) ≤ (o[k]!)))] .nil (by kernel_rfl) (fun b25 => ?_)
        by_cases h26 : ((n : Nat) : Int) ≤ (o[k]!)
        · refine OPS.batch 0 {} [] [0, 5, 7, 13, 14, 15, 27] [.slice a n c, .slice (some ⟨g5, 0, none⟩) n n, .int .i64 (o[k]!), .slice ao no co, .int .i64 ((no : Nat) : Int), .int .i64 (k : Int), .bool (decide (((n : Nat) : Int) ≤ (o[k]!)))] .nil (by kernel_rfl) (fun b27 => ?_)
          refine OPS.re [.slice a n c, .slice (some ⟨g5, 0, none⟩) n n, .int .i64 (o[k]!), .slice ao no co, .int .i64 ((no : Nat) : Int), .int .i64 (k : Int), .bool true] (by rw [show (decide (((n : Nat) : Int) ≤ (o[k]!))) = true from Bp.dec.tt h26]) ?_
          refine OPS.batch 21 { wraps := [32, 48] } [] [0, 5, 7, 13, 14, 15, 48] [.slice a n c, .slice (some ⟨g5, 0, none⟩) n n, .int .i64 (o[k]!), .slice ao no co, .int .i64 ((no : Nat) : Int), .int .i64 (k : Int), .bool true] .nil (by kernel_rfl) (fun b28 => ?_)
          refine OPS.nil ?_
          refine thn_n ?_
          exact ⟨true, trivial, Bp.of Bp.t (by first | (simp only [h21, h26, iff_false, false_iff, iff_true, true_iff, Classical.not_not, and_true, true_and, and_false, false_and, or_true, true_or, or_false, false_or, not_true_eq_false, not_false_eq_true, and_self, or_self, iff_self]; done) | (simp [h21, h26]; done) | grind | (simp_all; done)), by kernel_rfl, hp10⟩
        · refine OPS.batch 0 {} [] [0, 5, 7, 13, 14, 15, 27] [.slice a n c, .slice (some ⟨g5, 0, none⟩) n n, .int .i64 (o[k]!), .slice ao no co, .int .i64 ((no : Nat) : Int), .int .i64 (k : Int), .bool (decide (((n : Nat) : Int) ≤ (o[k]!)))] .nil (by kernel_rfl) (fun b29 => ?_)
          refine OPS.re [.slice a n c, .slice (some ⟨g5, 0, none⟩) n n, .int .i64 (o[k]!), .slice ao no co, .int .i64 ((no : Nat) : Int), .int .i64 (k : Int), .bool false] (by rw [show (decide (((n : Nat) : Int) ≤ (o[k]!))) = false from Bp.dec.ff h26]) ?_
          have := own_flat (sz := 1) (fun _ => rfl) (by decide) hp10.get0
          have hy31 : (sl)[(o[k]! : Int).toNat]? = some sl[(o[k]! : Int).toNat]! := get_bang (by first | (omega) | (simp only [List.length_append, List.length_cons, List.length_nil]; omega) | (simp only [List.length_take, List.length_append, List.length_cons, List.length_nil]; omega))
          refine OPS.batch 6 { wraps := [32] } [.bool (sl[(o[k]! : Int).toNat]!)] [0, 5, 7, 13, 14, 15, 33] [.slice a n c, .slice (some ⟨g5, 0, none⟩) n n, .int .i64 (o[k]!), .slice ao no co, .int .i64 ((no : Nat) : Int), .int .i64 (k : Int), .bool (sl[(o[k]! : Int).toNat]!)] (.cons (show InB (o[k]!) (n) from ⟨by omega, by omega⟩) (.cons ((SlR.own (hp10.get0)).some (by omega)) (.cons (Ld.add0 (Ld.el1 (P := Try.prog) (t := 4) (SlR.own (hp10.get0)).rd 1 (fun _ => rfl) hy31 (o := 0) (v := .bool (sl[(o[k]! : Int).toNat]!)) (by kernel_rfl))) .nil))) (by kernel_rfl) (fun b32 => ?_)
          by_cases h33 : (sl[(o[k]! : Int).toNat]!) = true
          · refine OPS.batch 0 {} [] [0, 5, 7, 13, 14, 15, 33] [.slice a n c, .slice (some ⟨g5, 0, none⟩) n n, .int .i64 (o[k]!), .slice ao no co, .int .i64 ((no : Nat) : Int), .int .i64 (k : Int), .bool (sl[(o[k]! : Int).toNat]!)] .nil (by kernel_rfl) (fun b34 => ?_)
            refine OPS.re [.slice a n c, .slice (some ⟨g5, 0, none⟩) n n, .int .i64 (o[k]!), .slice ao no co, .int .i64 ((no : Nat) : Int), .int .i64 (k : Int), .bool true] (by rw [show (sl[(o[k]! : Int).toNat]!) = true from Bp.var.tt h33]) ?_
            refine OPS.batch 15 { wraps := [48] } [] [0, 5, 7, 13, 14, 15, 48] [.slice a n c, .slice (some ⟨g5, 0, none⟩) n n, .int .i64 (o[k]!), .slice ao no co, .int .i64 ((no : Nat) : Int), .int .i64 (k : Int), .bool true] .nil (by kernel_rfl) (fun b35 => ?_)
            refine OPS.nil ?_
            refine thn_n ?_
            exact ⟨true, trivial, Bp.of Bp.t (by first | (simp only [h21, h26, h33, iff_false, false_iff, iff_true, true_iff, Classical.not_not, and_true, true_and, and_false, false_and, or_true, true_or, or_false, false_or, not_true_eq_false, not_false_eq_true, and_self, or_self, iff_self]; done) | (simp [h21, h26, h33]; done) | grind | (simp_all; done)), by kernel_rfl, hp10⟩
          · refine OPS.batch 0 {} [] [0, 5, 7, 13, 14, 15, 33] [.slice a n c, .slice (some ⟨g5, 0, none⟩) n n, .int .i64 (o[k]!), .slice ao no co, .int .i64 ((no : Nat) : Int), .int .i64 (k : Int), .bool (sl[(o[k]! : Int).toNat]!)] .nil (by kernel_rfl) (fun b36 => ?_)
            refine OPS.re [.slice a n c, .slice (some ⟨g5, 0, none⟩) n n, .int .i64 (o[k]!), .slice ao no co, .int .i64 ((no : Nat) : Int), .int .i64 (k : Int), .bool false] (by rw [show (sl[(o[k]! : Int).toNat]!) = false from Bp.var.ff h33]) ?_
            have hy38 : (l)[(o[k]! : Int).toNat]? = some l[(o[k]! : Int).toNat]! := get_bang (by first | (omega) | (simp only [List.length_append, List.length_cons, List.length_nil]; omega) | (simp only [List.length_take, List.length_append, List.length_cons, List.length_nil]; omega))
            refine OPS.batch 4 {} [GCall.val (l[(o[k]! : Int).toNat]!)] [0, 5, 7, 13, 14, 15, 33, 37] [.slice a n c, .slice (some ⟨g5, 0, none⟩) n n, .int .i64 (o[k]!), .slice ao no co, .int .i64 ((no : Nat) : Int), .int .i64 (k : Int), .bool false, GCall.val (l[(o[k]! : Int).toNat]!)] (.cons (show InB (o[k]!) (n) from ⟨by omega, by omega⟩) (.cons ((hs.at hp10).some (by omega)) (.cons (Ld.add0 (Ld.elN (P := Try.prog) (t := 73) (hs.at hp10).rd 11 (fun _ => rfl) hy38 (o := 0) (cs := [.int .i64 (l[(o[k]! : Int).toNat]!.Client), .int .i64 (l[(o[k]! : Int).toNat]!.Op), .bool (l[(o[k]! : Int).toNat]!.Put), .string (l[(o[k]! : Int).toNat]!.Key), .slice (l[(o[k]! : Int).toNat]!.Value.a) (l[(o[k]! : Int).toNat]!.Value.n) (l[(o[k]! : Int).toNat]!.Value.c), .int .i64 (l[(o[k]! : Int).toNat]!.Status), .int .i64 (l[(o[k]! : Int).toNat]!.From), .int .i64 (l[(o[k]! : Int).toNat]!.To), .bool (l[(o[k]! : Int).toNat]!.Open), .int .i64 (l[(o[k]! : Int).toNat]!.Tag.Count), .int .i64 (l[(o[k]! : Int).toNat]!.Tag.Client)]) (by kernel_rfl))) .nil))) (by kernel_rfl) (fun b39 => ?_)
            refine OPS.want (by kernel_rfl) ?_
            refine OPS.cons (opStep.call (some 38) [GCall.val (l[(o[k]! : Int).toNat]!)] (by kernel_rfl) (o_due (l[(o[k]! : Int).toNat]!) _) ?_)
            rintro _ w42 ⟨b45, rfl, hb46, hf43⟩
            refine ⟨_, rfl, ?_⟩
            have hp44 := hp10.step hf43
            refine OPS.batch 2 {} [] [0, 5, 7, 13, 14, 15, 33, 40] [.slice a n c, .slice (some ⟨g5, 0, none⟩) n n, .int .i64 (o[k]!), .slice ao no co, .int .i64 ((no : Nat) : Int), .int .i64 (k : Int), .bool false, .bool (!b45)] .nil (by kernel_rfl) (fun b47 => ?_)
            by_cases h48 : dueP (l[(o[k]! : Int).toNat]!)
            · refine OPS.batch 0 {} [] [0, 5, 7, 13, 14, 15, 33, 40] [.slice a n c, .slice (some ⟨g5, 0, none⟩) n n, .int .i64 (o[k]!), .slice ao no co, .int .i64 ((no : Nat) : Int), .int .i64 (k : Int), .bool false, .bool (!b45)] .nil (by kernel_rfl) (fun b51 => ?_)
              refine OPS.re [.slice a n c, .slice (some ⟨g5, 0, none⟩) n n, .int .i64 (o[k]!), .slice ao no co, .int .i64 ((no : Nat) : Int), .int .i64 (k : Int), .bool false, .bool false] (by rw [show (!b45) = false from (Bp.not hb46).ff (fun k => k h48)]) ?_
              refine OPS.batch 8 { wraps := [47, 48] } [] [0, 5, 7, 13, 14, 15, 48] [.slice a n c, .slice (some ⟨g5, 0, none⟩) n n, .int .i64 (o[k]!), .slice ao no co, .int .i64 ((no : Nat) : Int), .int .i64 (k : Int), .bool false] .nil (by kernel_rfl) (fun b52 => ?_)
              refine OPS.nil ?_
              refine thn_n ?_
              exact ⟨false, trivial, Bp.of Bp.f (by first | (simp only [h21, h26, h33, h48, iff_false, false_iff, iff_true, true_iff, Classical.not_not, and_true, true_and, and_false, false_and, or_true, true_or, or_false, false_or, not_true_eq_false, not_false_eq_true, and_self, or_self, iff_self]; done) | (simp [h21, h26, h33, h48]; done) | grind | (simp_all; done)), by kernel_rfl, hp44⟩
            · refine OPS.batch 0 {} [] [0, 5, 7, 13, 14, 15, 33, 40] [.slice a n c, .slice (some ⟨g5, 0, none⟩) n n, .int .i64 (o[k]!), .slice ao no co, .int .i64 ((no : Nat) : Int), .int .i64 (k : Int), .bool false, .bool (!b45)] .nil (by kernel_rfl) (fun b49 => ?_)
              refine OPS.re [.slice a n c, .slice (some ⟨g5, 0, none⟩) n n, .int .i64 (o[k]!), .slice ao no co, .int .i64 ((no : Nat) : Int), .int .i64 (k : Int), .bool false, .bool true] (by rw [show (!b45) = true from (Bp.not hb46).tt h48]) ?_
              refine OPS.batch 8 { wraps := [47, 48] } [.bool (l[(o[k]! : Int).toNat]!.Open)] [0, 5, 7, 13, 14, 15, 48] [.slice a n c, .slice (some ⟨g5, 0, none⟩) n n, .int .i64 (o[k]!), .slice ao no co, .int .i64 ((no : Nat) : Int), .int .i64 (k : Int), .bool (!(l[(o[k]! : Int).toNat]!.Open))] (.cons (show InB (o[k]!) (n) from ⟨by omega, by omega⟩) (.cons ((hs.at hp44).some (by omega)) (.cons (Ld.el1 (P := Try.prog) (t := 4) (hs.at hp44).rd 11 (fun _ => rfl) hy38 (o := 8) (v := .bool (l[(o[k]! : Int).toNat]!.Open)) (by kernel_rfl)) .nil))) (by kernel_rfl) (fun b50 => ?_)
              refine OPS.nil ?_
              refine thn_n ?_
              exact ⟨!(l[(o[k]! : Int).toNat]!.Open), trivial, Bp.of (Bp.not Bp.var) (by first | (simp only [h21, h26, h33, h48, iff_false, false_iff, iff_true, true_iff, Classical.not_not, and_true, true_and, and_false, false_and, or_true, true_or, or_false, false_or, not_true_eq_false, not_false_eq_true, and_self, or_self, iff_self]; done) | (simp [h21, h26, h33, h48]; done) | grind | (simp_all; done)), by kernel_rfl, hp44⟩
    rintro e55 w56 ⟨x53, hd58, hb54, hE59, hp57⟩
    obtain ⟨b60, rfl⟩ := toMk hE59
    clear hE59
    clear hd58
    refine WP.test (p := (((o[k]!) < 0)) ∨ ((¬ ((o[k]!) < 0)) ∧ (((n : Nat) : Int) ≤ (o[k]!))) ∨ ((¬ ((o[k]!) < 0)) ∧ (¬ (((n : Nat) : Int) ≤ (o[k]!))) ∧ ((sl[(o[k]! : Int).toNat]!) = true)) ∨ ((¬ ((o[k]!) < 0)) ∧ (¬ (((n : Nat) : Int) ≤ (o[k]!))) ∧ (¬ ((sl[(o[k]! : Int).toNat]!) = true)) ∧ (¬ (dueP (l[(o[k]! : Int).toNat]!))) ∧ (¬ ((l[(o[k]! : Int).toNat]!.Open) = true)))) rfl hb54 (fun h61 => ?_) (fun h61 => ?_)
    · refine WP.seq ?_
      refine WP.pure {} [] [4] [.bool false] .nil (by kernel_rfl) (fun b62 => ?_)
      refine thn_n ?_
      refine WP.ret ?_
      refine thn_r ?_
      refine blk_r ?_
      refine thn_r ?_
      refine thn_r ?_
      refine blk_r ?_
      refine thn_r ?_
      refine bodyQ.of _ rfl [.bool false] ⟨rfl, trivial⟩ ?_
      exact ⟨_, rfl, Bp.of Bp.f (by simp only [false_iff]; intro q; exact whole_no1 hn (by omega) ps q h61), hp57.fr⟩
    · refine WP.skip ?_
      refine thn_n ?_
      refine WP.region _ rfl (by kernel_rfl) ?_
      refine OPS.batch 3 {} [] [0, 5, 13, 14, 15, 51] [.slice a n c, .slice (some ⟨g5, 0, none⟩) n n, .slice ao no co, .int .i64 ((no : Nat) : Int), .int .i64 (k : Int), .pointer (some ((adr (some ⟨g5, 0, none⟩)).add ((o[k]! : Int).toNat * 1)))] (.cons (show InB (o[k]!) (n) from ⟨by omega, by omega⟩) (.cons ((SlR.own (hp57.get0)).some (by omega)) .nil)) (by kernel_rfl) (fun b63 => ?_)
      have := own_flat (sz := 1) (fun _ => rfl) (by decide) hp57.get0
      try simp only [List.length_set] at this
      refine OPS.cons (opStep.storeOwn0 ((o[k]! : Int).toNat * 1) hp57 rfl [.bool true] (by kernel_rfl) (by simp) (show (o[k]! : Int).toNat * 1 + 1 ≤ n * 1 by omega) (fun w64 hp65 => ?_))
      have hp66 := hp65
      rw [show ow (List.flatMap (fun y => [.bool y]) sl) ((o[k]! : Int).toNat * 1) [.bool true] = List.flatMap (fun y => [.bool y]) (sl.set ((o[k]! : Int).toNat) true) from ow_flat (sz := 1) (fun _ => rfl) (by first | (omega) | (simp only [List.length_set]; omega)) true] at hp66
      refine OPS.nil ?_
      refine blk_n ?_
      refine thn_n ?_
      refine WP.pure {} [] [0, 5, 13, 14, 15] [.slice a n c, .slice (some ⟨g5, 0, none⟩) n n, .slice ao no co, .int .i64 ((no : Nat) : Int), .int .i64 ((k : Int) + 1)] (.cons (show Rng .i64 ((k : Int) + 1) from Rng.i64 (by omega)) .nil) (by kernel_rfl) (fun b67 => ?_)
      refine thn_n ?_
      exact ⟨o.length - (k + 1), (by omega), k + 1, sl.set ((o[k]! : Int).toNat) true, rfl, seen_step hn (by omega) pl ps pk h61, by kernel_rfl, hp66⟩
  · refine WP.exit ?_
    refine thn_x ?_
    refine thn_x ?_
    refine blk_hit ?_
    refine thn_n ?_
    refine WP.seq ?_
    refine WP.seq ?_
    refine WP.pure {} [] [5, 53, 54, 55] [.slice (some ⟨g5, 0, none⟩) n n, .slice a n c, .int .i64 ((n : Nat) : Int), .int .i64 0] .nil (by kernel_rfl) (fun b68 => ?_)
    refine thn_n ?_
    refine WP.block ?_
    refine WP.loop (fun mz_ e69 w70 => ∃ (i : Nat), mz_ = l.length - i ∧ (i ≤ l.length ∧ ∀ m, m < i → dueP l[m]! → ∃ j, j < o.length ∧ o[j]! = (m : Int)) ∧ List.map e69 [5, 53, 54, 55] = [.slice (some ⟨g5, 0, none⟩) n n, .slice a n c, .int .i64 ((n : Nat) : Int), .int .i64 (i : Int)] ∧ Hp w Non [Res.own 4 1 (.slice (some ⟨g5, 0, none⟩) n n) n (List.flatMap (fun y => [.bool y]) sl)] w70) (l.length - (0)) ⟨0, rfl, ⟨by omega, fun m hm => by omega⟩, by kernel_rfl, hp10⟩ ?_
    rintro _ e69 w70 ⟨i, rfl, hI72, hE73, hp71⟩
    obtain ⟨b74, rfl⟩ := toMk hE73
    clear hE73
    obtain ⟨qa, qb⟩ := hI72
    refine WP.seq ?_
    refine WP.pure {} [] [5, 53, 54, 55, 56] [.slice (some ⟨g5, 0, none⟩) n n, .slice a n c, .int .i64 ((n : Nat) : Int), .int .i64 (i : Int), .bool (decide ((i : Int) < ((n : Nat) : Int)))] .nil (by kernel_rfl) (fun b75 => ?_)
    refine thn_n ?_
    refine WP.seq ?_
    refine WP.test (p := (i : Int) < ((n : Nat) : Int)) rfl Bp.dec (fun h76 => ?_) (fun h76 => ?_)
    · refine WP.skip ?_
      refine thn_n ?_
      refine WP.seq ?_
      refine WP.block ?_
      refine WP.seq ?_
      refine WP.region _ rfl (by kernel_rfl) ?_
      have hy80 : (l)[i]? = some l[i]! := get_bang (by first | (omega) | (simp only [List.length_append, List.length_cons, List.length_nil]; omega) | (simp only [List.length_take, List.length_append, List.length_cons, List.length_nil]; omega))
      refine OPS.batch 3 {} [GCall.val (l[i]!)] [5, 53, 54, 55, 57, 59] [.slice (some ⟨g5, 0, none⟩) n n, .slice a n c, .int .i64 ((n : Nat) : Int), .int .i64 (i : Int), .int .i64 (i : Int), GCall.val (l[i]!)] (.cons (show InB ((i : Int)) (n) from ⟨by omega, by omega⟩) (.cons ((hs.at hp71).some (by omega)) (.cons (Ld.add0 (Ld.elN (P := Try.prog) (t := 73) (hs.at hp71).rd 11 (fun _ => rfl) hy80 (o := 0) (cs := [.int .i64 (l[i]!.Client), .int .i64 (l[i]!.Op), .bool (l[i]!.Put), .string (l[i]!.Key), .slice (l[i]!.Value.a) (l[i]!.Value.n) (l[i]!.Value.c), .int .i64 (l[i]!.Status), .int .i64 (l[i]!.From), .int .i64 (l[i]!.To), .bool (l[i]!.Open), .int .i64 (l[i]!.Tag.Count), .int .i64 (l[i]!.Tag.Client)]) (by kernel_rfl))) .nil))) (by kernel_rfl) (fun b81 => ?_)
      refine OPS.cons (opStep.alloc hp71 [.int .i64 0, .int .i64 0, .bool false, .string ByteArray.empty, .slice none 0 0, .int .i64 0, .int .i64 0, .int .i64 0, .bool false, .int .i64 0, .int .i64 0] (by kernel_rfl) (fun g84 w82 hp83 => ?_))
      refine OPS.batch 1 {} [] [5, 8, 9, 53, 54, 55, 59] [.slice (some ⟨g5, 0, none⟩) n n, .int .i64 (i : Int), .pointer (some ⟨g84, 0, none⟩), .slice a n c, .int .i64 ((n : Nat) : Int), .int .i64 (i : Int), GCall.val (l[i]!)] .nil (by kernel_rfl) (fun b85 => ?_)
      refine OPS.cons (opStep.store0 hp83 rfl [.int .i64 (l[i]!.Client), .int .i64 (l[i]!.Op), .bool (l[i]!.Put), .string (l[i]!.Key), .slice (l[i]!.Value.a) (l[i]!.Value.n) (l[i]!.Value.c), .int .i64 (l[i]!.Status), .int .i64 (l[i]!.From), .int .i64 (l[i]!.To), .bool (l[i]!.Open), .int .i64 (l[i]!.Tag.Count), .int .i64 (l[i]!.Tag.Client)] [.int .i64 (l[i]!.Client), .int .i64 (l[i]!.Op), .bool (l[i]!.Put), .string (l[i]!.Key), .slice (l[i]!.Value.a) (l[i]!.Value.n) (l[i]!.Value.c), .int .i64 (l[i]!.Status), .int .i64 (l[i]!.From), .int .i64 (l[i]!.To), .bool (l[i]!.Open), .int .i64 (l[i]!.Tag.Count), .int .i64 (l[i]!.Tag.Client)] (by kernel_rfl) (fun w86 hp87 => ?_))
      refine OPS.nil ?_
      refine thn_n ?_
      refine WP.cut (fun e105 w106 => ∃ (x103 : Bool), (True) ∧ Bp x103 ((dueP (l[i]!)) ∧ (¬ ((sl[i]!) = true))) ∧ List.map e105 [5, 53, 54, 55, 68] = [.slice (some ⟨g5, 0, none⟩) n n, .slice a n c, .int .i64 ((n : Nat) : Int), .int .i64 (i : Int), .bool x103] ∧ Hp w Non [Res.row g84 [.int .i64 (l[i]!.Client), .int .i64 (l[i]!.Op), .bool (l[i]!.Put), .string (l[i]!.Key), .slice (l[i]!.Value.a) (l[i]!.Value.n) (l[i]!.Value.c), .int .i64 (l[i]!.Status), .int .i64 (l[i]!.From), .int .i64 (l[i]!.To), .bool (l[i]!.Open), .int .i64 (l[i]!.Tag.Count), .int .i64 (l[i]!.Tag.Client)] 73, Res.own 4 1 (.slice (some ⟨g5, 0, none⟩) n n) n (List.flatMap (fun y => [.bool y]) sl)] w106) ?_ ?_
      · refine WP.region _ rfl (by kernel_rfl) ?_
        refine OPS.batch 1 {} [GCall.val (l[i]!)] [5, 8, 53, 54, 55, 60] [.slice (some ⟨g5, 0, none⟩) n n, .int .i64 (i : Int), .slice a n c, .int .i64 ((n : Nat) : Int), .int .i64 (i : Int), GCall.val (l[i]!)] (.cons (show Ld Try.prog w86 73 ⟨g84, 0, none⟩ (GCall.val (l[i]!)) from Ld.rowN (cs := [.int .i64 (l[i]!.Client), .int .i64 (l[i]!.Op), .bool (l[i]!.Put), .string (l[i]!.Key), .slice (l[i]!.Value.a) (l[i]!.Value.n) (l[i]!.Value.c), .int .i64 (l[i]!.Status), .int .i64 (l[i]!.From), .int .i64 (l[i]!.To), .bool (l[i]!.Open), .int .i64 (l[i]!.Tag.Count), .int .i64 (l[i]!.Tag.Client)]) hp87.get0 (by kernel_rfl)) .nil) (by kernel_rfl) (fun b89 => ?_)
        refine OPS.cons (opStep.call (some 61) [GCall.val (l[i]!)] (by kernel_rfl) (o_due (l[i]!) _) ?_)
        rintro _ w92 ⟨b95, rfl, hb96, hf93⟩
        refine ⟨_, rfl, ?_⟩
        have hp94 := hp87.step hf93
        refine OPS.batch 1 {} [] [5, 8, 53, 54, 55, 62] [.slice (some ⟨g5, 0, none⟩) n n, .int .i64 (i : Int), .slice a n c, .int .i64 ((n : Nat) : Int), .int .i64 (i : Int), .bool b95] .nil (by kernel_rfl) (fun b97 => ?_)
        by_cases h98 : dueP (l[i]!)
        · rw [show b95 = true from hb96.tt h98]
          have := own_flat (sz := 1) (fun _ => rfl) (by decide) hp94.get1
          have hy100 : (sl)[i]? = some sl[i]! := get_bang (by first | (omega) | (simp only [List.length_append, List.length_cons, List.length_nil]; omega) | (simp only [List.length_take, List.length_append, List.length_cons, List.length_nil]; omega))
          refine OPS.batch 6 { wraps := [68] } [.bool (sl[i]!)] [5, 53, 54, 55, 68] [.slice (some ⟨g5, 0, none⟩) n n, .slice a n c, .int .i64 ((n : Nat) : Int), .int .i64 (i : Int), .bool (!(sl[i]!))] (.cons (show InB ((i : Int)) (n) from ⟨by omega, by omega⟩) (.cons ((SlR.own (hp94.get1)).some (by omega)) (.cons (Ld.add0 (Ld.el1 (P := Try.prog) (t := 4) (SlR.own (hp94.get1)).rd 1 (fun _ => rfl) hy100 (o := 0) (v := .bool (sl[i]!)) (by kernel_rfl))) .nil))) (by kernel_rfl) (fun b101 => ?_)
          refine OPS.nil ?_
          refine thn_n ?_
          exact ⟨!(sl[i]!), trivial, Bp.of (Bp.not Bp.var) (by first | (simp only [h98, iff_false, false_iff, iff_true, true_iff, Classical.not_not, and_true, true_and, and_false, false_and, or_true, true_or, or_false, false_or, not_true_eq_false, not_false_eq_true, and_self, or_self, iff_self]; done) | (simp [h98]; done) | grind | (simp_all; done)), by kernel_rfl, hp94⟩
        · rw [show b95 = false from hb96.ff h98]
          refine OPS.batch 6 { wraps := [68] } [] [5, 53, 54, 55, 68] [.slice (some ⟨g5, 0, none⟩) n n, .slice a n c, .int .i64 ((n : Nat) : Int), .int .i64 (i : Int), .bool false] .nil (by kernel_rfl) (fun b102 => ?_)
          refine OPS.nil ?_
          refine thn_n ?_
          exact ⟨false, trivial, Bp.of Bp.f (by first | (simp only [h98, iff_false, false_iff, iff_true, true_iff, Classical.not_not, and_true, true_and, and_false, false_and, or_true, true_or, or_false, false_or, not_true_eq_false, not_false_eq_true, and_self, or_self, iff_self]; done) | (simp [h98]; done) | grind | (simp_all; done)), by kernel_rfl, hp94⟩
      rintro e105 w106 ⟨x103, hd108, hb104, hE109, hp107⟩
      obtain ⟨b110, rfl⟩ := toMk hE109
      clear hE109
      clear hd108
      refine WP.test (p := (dueP (l[i]!)) ∧ (¬ ((sl[i]!) = true))) rfl hb104 (fun h111 => ?_) (fun h111 => ?_)
      · refine WP.seq ?_
        refine WP.pure {} [] [4] [.bool false] .nil (by kernel_rfl) (fun b112 => ?_)
        refine thn_n ?_
        refine WP.ret ?_
        refine blk_r ?_
        refine thn_r ?_
        refine thn_r ?_
        refine blk_r ?_
        refine thn_r ?_
        refine bodyQ.of _ rfl [.bool false] ⟨rfl, trivial⟩ ?_
        exact ⟨_, rfl, Bp.of Bp.f (by simp only [false_iff]; intro q; exact whole_no2 (by omega) (by omega) ps q h111), hp107.fr⟩
      · refine WP.skip ?_
        refine blk_n ?_
        refine thn_n ?_
        refine WP.pure {} [] [5, 53, 54, 55] [.slice (some ⟨g5, 0, none⟩) n n, .slice a n c, .int .i64 ((n : Nat) : Int), .int .i64 ((i : Int) + 1)] (.cons (show Rng .i64 ((i : Int) + 1) from Rng.i64 (by omega)) .nil) (by kernel_rfl) (fun b113 => ?_)
        refine thn_n ?_
        exact ⟨l.length - (i + 1), (by omega), i + 1, rfl, ⟨by omega, fun m hm hd => by by_cases e : m = i; subst e; exact seen_due (by omega) (by omega) ps h111 hd; exact qb m (by omega) hd⟩, by kernel_rfl, (hp107.sub (.cons _ (.cons_cons _ (.slnil))))⟩
    · refine WP.exit ?_
      refine thn_x ?_
      refine thn_x ?_
      refine blk_hit ?_
      refine thn_n ?_
      refine WP.seq ?_
      refine WP.pure {} [] [4] [.bool true] .nil (by kernel_rfl) (fun b114 => ?_)
      refine thn_n ?_
      refine WP.ret ?_
      refine bodyQ.of _ rfl [.bool true] ⟨rfl, trivial⟩ ?_
      have hk : k = o.length := by omega
      subst hk
      exact ⟨_, rfl, Bp.of Bp.t (by simp only [true_iff]; exact ⟨pk, fun m hm => qb m (by omega)⟩), hp71.fr⟩

theorem o_timely (l : List GCall) (a : Option Addr) (n c : Nat) (w : World) (hn : n = l.length) (hb : l.length ≤ 8796093022207) (hs : SlR w a n (l.flatMap GCall.cells)) (o : List Int) (ao : Option Addr) (no co : Nat) (hno : no = o.length) (hbo : o.length ≤ 9223372036854775807) (hso : SlR w ao no (List.flatMap (fun (y : Int) => [Go.Value.int .i64 y]) o)) (hin : ∀ j, j < o.length → 0 ≤ o[j]! ∧ o[j]! < (l.length : Int)) :
    Calls Try.prog 72 #[.slice a n c, .slice ao no co] w (fun r_ w' => ∃ f_, r_ = .returned (.bool f_) ∧ Bp f_ (timelyP l o) ∧ Fram Non w w') := by
  refine calls_of Try.func72 rfl 37 rfl (by simp) ?_
  have hp0 := Hp.init w
  have he0 : List.map (env0 [.slice a n c, .slice ao no co]) [0, 1] = [.slice a n c, .slice ao no co] := by kernel_rfl
  obtain ⟨b0, he0⟩ := toMk he0
  rw [he0]
  clear he0
  refine WP.seq ?_
  refine WP.pure {} [] [0, 1] [.slice a n c, .slice ao no co] .nil (by kernel_rfl) (fun b1 => ?_)
  refine thn_n ?_
  refine WP.seq ?_
  refine WP.pure {} [] [0, 1, 5] [.slice a n c, .slice ao no co, .int .i64 (-1)] .nil (by kernel_rfl) (fun b2 => ?_)
  refine thn_n ?_
  refine WP.seq ?_
  refine WP.seq ?_
  refine WP.pure {} [] [0, 5, 8, 9, 10] [.slice a n c, .int .i64 (-1), .slice ao no co, .int .i64 ((no : Nat) : Int), .int .i64 0] .nil (by kernel_rfl) (fun b3 => ?_)
  refine thn_n ?_
  refine WP.block ?_
  refine WP.loop (fun mz_ e4 w5 => ∃ (k : Nat) (b : Int), mz_ = o.length - k ∧ (k ≤ o.length ∧ b = begF l o k ∧ ∀ j, j < k → ¬ (¬ (atO l o j).Open = true ∧ (atO l o j).To < begF l o j)) ∧ List.map e4 [0, 5, 8, 9, 10] = [.slice a n c, .int .i64 b, .slice ao no co, .int .i64 ((no : Nat) : Int), .int .i64 (k : Int)] ∧ Hp w Non [] w5) (o.length - (0)) ⟨0, (-1), rfl, ⟨by omega, rfl, fun j hj => by omega⟩, by kernel_rfl, hp0⟩ ?_
  rintro _ e4 w5 ⟨k, b, rfl, hI7, hE8, hp6⟩
  obtain ⟨b9, rfl⟩ := toMk hE8
  clear hE8
  obtain ⟨pa, pb, pc⟩ := hI7
  have hik := hin k
  refine WP.seq ?_
  refine WP.pure {} [] [0, 5, 8, 9, 10, 11] [.slice a n c, .int .i64 b, .slice ao no co, .int .i64 ((no : Nat) : Int), .int .i64 (k : Int), .bool (decide ((k : Int) < ((no : Nat) : Int)))] .nil (by kernel_rfl) (fun b10 => ?_)
  refine thn_n ?_
  refine WP.seq ?_
  refine WP.test (p := (k : Int) < ((no : Nat) : Int)) rfl Bp.dec (fun h11 => ?_) (fun h11 => ?_)
  · refine WP.skip ?_
    refine thn_n ?_
    refine WP.seq ?_
    refine WP.block ?_
    refine WP.seq ?_
    have hy13 : (o)[k]? = some o[k]! := get_bang (by first | (omega) | (simp only [List.length_append, List.length_cons, List.length_nil]; omega) | (simp only [List.length_take, List.length_append, List.length_cons, List.length_nil]; omega))
    refine WP.pure {} [.int .i64 (o[k]!)] [0, 5, 7, 8, 9, 10] [.slice a n c, .int .i64 b, .int .i64 (o[k]!), .slice ao no co, .int .i64 ((no : Nat) : Int), .int .i64 (k : Int)] (.cons (show InB ((k : Int)) (no) from ⟨by omega, by omega⟩) (.cons ((hso.at hp6).some (by omega)) (.cons (Ld.add0 (Ld.el1 (P := Try.prog) (t := 3) (hso.at hp6).rd 1 (fun _ => rfl) hy13 (o := 0) (v := .int .i64 (o[k]!)) (by kernel_rfl))) .nil))) (by kernel_rfl) (fun b14 => ?_)
    refine thn_n ?_
    refine WP.seq ?_
    refine WP.cut (fun e28 w29 => ∃ (x26 : Bool), (True) ∧ Bp x26 ((¬ ((l[(o[k]! : Int).toNat]!.Open) = true)) ∧ ((l[(o[k]! : Int).toNat]!.To) < b)) ∧ List.map e28 [0, 5, 7, 8, 9, 10, 28] = [.slice a n c, .int .i64 b, .int .i64 (o[k]!), .slice ao no co, .int .i64 ((no : Nat) : Int), .int .i64 (k : Int), .bool x26] ∧ Hp w Non [] w29) ?_ ?_
    · refine WP.region _ rfl (by kernel_rfl) ?_
      have hy19 : (l)[(o[k]! : Int).toNat]? = some l[(o[k]! : Int).toNat]! := get_bang (by first | (omega) | (simp only [List.length_append, List.length_cons, List.length_nil]; omega) | (simp only [List.length_take, List.length_append, List.length_cons, List.length_nil]; omega))
      refine OPS.batch 7 {} [.bool (l[(o[k]! : Int).toNat]!.Open)] [0, 5, 7, 8, 9, 10, 20] [.slice a n c, .int .i64 b, .int .i64 (o[k]!), .slice ao no co, .int .i64 ((no : Nat) : Int), .int .i64 (k : Int), .bool (!(l[(o[k]! : Int).toNat]!.Open))] (.cons (show InB (o[k]!) (n) from ⟨by omega, by omega⟩) (.cons ((hs.at hp6).some (by omega)) (.cons (Ld.el1 (P := Try.prog) (t := 4) (hs.at hp6).rd 11 (fun _ => rfl) hy19 (o := 8) (v := .bool (l[(o[k]! : Int).toNat]!.Open)) (by kernel_rfl)) .nil))) (by kernel_rfl) (fun b20 => ?_)
      by_cases h21 : (l[(o[k]! : Int).toNat]!.Open) = true
      · refine OPS.batch 0 {} [] [0, 5, 7, 8, 9, 10, 20] [.slice a n c, .int .i64 b, .int .i64 (o[k]!), .slice ao no co, .int .i64 ((no : Nat) : Int), .int .i64 (k : Int), .bool (!(l[(o[k]! : Int).toNat]!.Open))] .nil (by kernel_rfl) (fun b24 => ?_)
        refine OPS.re [.slice a n c, .int .i64 b, .int .i64 (o[k]!), .slice ao no co, .int .i64 ((no : Nat) : Int), .int .i64 (k : Int), .bool false] (by rw [show (!(l[(o[k]! : Int).toNat]!.Open)) = false from (Bp.not Bp.var).ff (fun k => k h21)]) ?_
        refine OPS.batch 8 { wraps := [28] } [] [0, 5, 7, 8, 9, 10, 28] [.slice a n c, .int .i64 b, .int .i64 (o[k]!), .slice ao no co, .int .i64 ((no : Nat) : Int), .int .i64 (k : Int), .bool false] .nil (by kernel_rfl) (fun b25 => ?_)
        refine OPS.nil ?_
        refine thn_n ?_
        exact ⟨false, trivial, Bp.of Bp.f (by first | (simp only [h21, iff_false, false_iff, iff_true, true_iff, Classical.not_not, and_true, true_and, and_false, false_and, or_true, true_or, or_false, false_or, not_true_eq_false, not_false_eq_true, and_self, or_self, iff_self]; done) | (simp [h21]; done) | grind | (simp_all; done)), by kernel_rfl, hp6⟩
      · refine OPS.batch 0 {} [] [0, 5, 7, 8, 9, 10, 20] [.slice a n c, .int .i64 b, .int .i64 (o[k]!), .slice ao no co, .int .i64 ((no : Nat) : Int), .int .i64 (k : Int), .bool (!(l[(o[k]! : Int).toNat]!.Open))] .nil (by kernel_rfl) (fun b22 => ?_)
        refine OPS.re [.slice a n c, .int .i64 b, .int .i64 (o[k]!), .slice ao no co, .int .i64 ((no : Nat) : Int), .int .i64 (k : Int), .bool true] (by rw [show (!(l[(o[k]! : Int).toNat]!.Open)) = true from (Bp.not Bp.var).tt h21]) ?_
        refine OPS.batch 8 { wraps := [28] } [.int .i64 (l[(o[k]! : Int).toNat]!.To)] [0, 5, 7, 8, 9, 10, 28] [.slice a n c, .int .i64 b, .int .i64 (o[k]!), .slice ao no co, .int .i64 ((no : Nat) : Int), .int .i64 (k : Int), .bool (decide ((l[(o[k]! : Int).toNat]!.To) < b))] (.cons (show InB (o[k]!) (n) from ⟨by omega, by omega⟩) (.cons ((hs.at hp6).some (by omega)) (.cons (Ld.el1 (P := Try.prog) (t := 3) (hs.at hp6).rd 11 (fun _ => rfl) hy19 (o := 7) (v := .int .i64 (l[(o[k]! : Int).toNat]!.To)) (by kernel_rfl)) .nil))) (by kernel_rfl) (fun b23 => ?_)
        refine OPS.nil ?_
        refine thn_n ?_
        exact ⟨decide ((l[(o[k]! : Int).toNat]!.To) < b), trivial, Bp.of Bp.dec (by first | (simp only [h21, iff_false, false_iff, iff_true, true_iff, Classical.not_not, and_true, true_and, and_false, false_and, or_true, true_or, or_false, false_or, not_true_eq_false, not_false_eq_true, and_self, or_self, iff_self]; done) | (simp [h21]; done) | grind | (simp_all; done)), by kernel_rfl, hp6⟩
    rintro e28 w29 ⟨x26, hd31, hb27, hE32, hp30⟩
    obtain ⟨b33, rfl⟩ := toMk hE32
    clear hE32
    clear hd31
    refine WP.test (p := (¬ ((l[(o[k]! : Int).toNat]!.Open) = true)) ∧ ((l[(o[k]! : Int).toNat]!.To) < b)) rfl hb27 (fun h34 => ?_) (fun h34 => ?_)
    · refine WP.seq ?_
      refine WP.pure {} [] [4] [.bool false] .nil (by kernel_rfl) (fun b35 => ?_)
      refine thn_n ?_
      refine WP.ret ?_
      refine thn_r ?_
      refine blk_r ?_
      refine thn_r ?_
      refine thn_r ?_
      refine blk_r ?_
      refine thn_r ?_
      refine bodyQ.of _ rfl [.bool false] ⟨rfl, trivial⟩ ?_
      exact ⟨_, rfl, Bp.of Bp.f (by simp only [false_iff]; intro q; have := q k (by omega); rw [← pb] at this; exact this h34), hp30.fr⟩
    · refine WP.skip ?_
      refine thn_n ?_
      have hy37 : (l)[(o[k]! : Int).toNat]? = some l[(o[k]! : Int).toNat]! := get_bang (by first | (omega) | (simp only [List.length_append, List.length_cons, List.length_nil]; omega) | (simp only [List.length_take, List.length_append, List.length_cons, List.length_nil]; omega))
      refine WP.pure {} [.int .i64 (l[(o[k]! : Int).toNat]!.From)] [0, 5, 8, 9, 10] [.slice a n c, .int .i64 (max b (l[(o[k]! : Int).toNat]!.From)), .slice ao no co, .int .i64 ((no : Nat) : Int), .int .i64 (k : Int)] (.cons (show InB (o[k]!) (n) from ⟨by omega, by omega⟩) (.cons ((hs.at hp30).some (by omega)) (.cons (Ld.el1 (P := Try.prog) (t := 3) (hs.at hp30).rd 11 (fun _ => rfl) hy37 (o := 6) (v := .int .i64 (l[(o[k]! : Int).toNat]!.From)) (by kernel_rfl)) .nil))) (by kernel_rfl) (fun b38 => ?_)
      refine blk_n ?_
      refine thn_n ?_
      refine WP.pure {} [] [0, 5, 8, 9, 10] [.slice a n c, .int .i64 (max b (l[(o[k]! : Int).toNat]!.From)), .slice ao no co, .int .i64 ((no : Nat) : Int), .int .i64 ((k : Int) + 1)] (.cons (show Rng .i64 ((k : Int) + 1) from Rng.i64 (by omega)) .nil) (by kernel_rfl) (fun b39 => ?_)
      refine thn_n ?_
      exact ⟨o.length - (k + 1), (by omega), k + 1, max b (l[(o[k]! : Int).toNat]!.From), rfl, ⟨by omega, by rw [pb]; rfl, fun j hj => by by_cases e : j = k; subst e; rw [← pb]; exact h34; exact pc j (by omega)⟩, by kernel_rfl, hp30⟩
  · refine WP.exit ?_
    refine thn_x ?_
    refine thn_x ?_
    refine blk_hit ?_
    refine thn_n ?_
    refine WP.seq ?_
    refine WP.pure {} [] [4] [.bool true] .nil (by kernel_rfl) (fun b40 => ?_)
    refine thn_n ?_
    refine WP.ret ?_
    refine bodyQ.of _ rfl [.bool true] ⟨rfl, trivial⟩ ?_
    exact ⟨_, rfl, Bp.of Bp.t (by simp only [true_iff]; exact fun j hj => pc j (by omega)), hp6.fr⟩

theorem s_EqualB (x1 x2 : List Int) (a1 a2 : Option Addr) (n1 n2 c1 c2 : Nat) (w : World) (m1 : x1.length = n1) (m2 : x2.length = n2) (hb : x1.length ≤ 8796093022207000) (h1 : SlR w a1 n1 (x1.flatMap u8c)) (h2 : SlR w a2 n2 (x2.flatMap u8c)) :
    Calls Try.prog 101 #[.slice a1 n1 c1, .slice a2 n2 c2] w (fun r_ w' => ∃ f_, r_ = .returned (.bool f_) ∧ Bp f_ (x1 = x2) ∧ Fram Non w w') := by
  refine calls_of Try.func101 rfl 26 rfl (by simp) ?_
  have hp0 := Hp.init w
  have he0 : List.map (env0 [.slice a1 n1 c1, .slice a2 n2 c2]) [0, 1] = [.slice a1 n1 c1, .slice a2 n2 c2] := by kernel_rfl
  obtain ⟨b0, he0⟩ := toMk he0
  rw [he0]
  clear he0
  refine WP.seq ?_
  refine WP.pure {} [] [0, 1] [.slice a1 n1 c1, .slice a2 n2 c2] .nil (by kernel_rfl) (fun b1 => ?_)
  refine thn_n ?_
  refine WP.seq ?_
  refine WP.seq ?_
  refine WP.pure {} [] [0, 1, 10] [.slice a1 n1 c1, .slice a2 n2 c2, .bool (decide (¬ (((n1 : Nat) : Int) = ((n2 : Nat) : Int))))] .nil (by kernel_rfl) (fun b2 => ?_)
  refine thn_n ?_
  refine WP.test (p := ¬ (((n1 : Nat) : Int) = ((n2 : Nat) : Int))) rfl Bp.dec (fun h3 => ?_) (fun h3 => ?_)
  · refine WP.seq ?_
    refine WP.pure {} [] [4] [.bool false] .nil (by kernel_rfl) (fun b4 => ?_)
    refine thn_n ?_
    refine WP.ret ?_
    refine thn_r ?_
    refine bodyQ.of _ rfl [.bool false] ⟨rfl, trivial⟩ ?_
    exact ⟨_, rfl, Bp.of Bp.f (by exact ⟨fun h => h.elim, fun h => h3 (by rw [h] at m1; omega)⟩), hp0.fr⟩
  · replace h3 := Classical.not_not.1 h3
    refine WP.skip ?_
    refine thn_n ?_
    refine WP.seq ?_
    refine WP.seq ?_
    refine WP.pure {} [] [0, 1, 12, 13] [.slice a1 n1 c1, .slice a2 n2 c2, .int .i64 ((n1 : Nat) : Int), .int .i64 0] .nil (by kernel_rfl) (fun b5 => ?_)
    refine thn_n ?_
    refine WP.block ?_
    refine WP.loop (fun mz_ e6 w7 => ∃ (k : Nat), mz_ = x1.length - k ∧ (k ≤ x1.length ∧ x1.take k = x2.take k) ∧ List.map e6 [0, 1, 12, 13] = [.slice a1 n1 c1, .slice a2 n2 c2, .int .i64 ((n1 : Nat) : Int), .int .i64 (k : Int)] ∧ Hp w Non [] w7) (x1.length - (0)) ⟨0, rfl, ⟨by omega, rfl⟩, by kernel_rfl, hp0⟩ ?_
    rintro _ e6 w7 ⟨k, rfl, hI9, hE10, hp8⟩
    obtain ⟨b11, rfl⟩ := toMk hE10
    clear hE10
    obtain ⟨q1, q2⟩ := hI9
    refine WP.seq ?_
    refine WP.pure {} [] [0, 1, 12, 13, 14] [.slice a1 n1 c1, .slice a2 n2 c2, .int .i64 ((n1 : Nat) : Int), .int .i64 (k : Int), .bool (decide ((k : Int) < ((n1 : Nat) : Int)))] .nil (by kernel_rfl) (fun b12 => ?_)
    refine thn_n ?_
    refine WP.seq ?_
    refine WP.test (p := (k : Int) < ((n1 : Nat) : Int)) rfl Bp.dec (fun h13 => ?_) (fun h13 => ?_)
    · refine WP.skip ?_
      refine thn_n ?_
      refine WP.seq ?_
      refine WP.block ?_
      refine WP.seq ?_
      refine WP.pure {} [] [0, 1, 5, 12, 13] [.slice a1 n1 c1, .slice a2 n2 c2, .int .i64 (k : Int), .int .i64 ((n1 : Nat) : Int), .int .i64 (k : Int)] .nil (by kernel_rfl) (fun b14 => ?_)
      refine thn_n ?_
      refine WP.seq ?_
      have hp17 := hp8.drew
      refine WP.quiet (fun w15 => Hp w Non [] w15) (by kernel_rfl) hp17 ?_
      have hnehp17 : ∃ wz_, (fun w15 => Hp w Non [] w15) wz_ := ⟨_, hp17⟩
      have hy21 : (x1)[k]? = some x1[k]! := get_bang (by first | (omega) | (simp only [List.length_append, List.length_cons, List.length_nil]; omega) | (simp only [List.length_take, List.length_append, List.length_cons, List.length_nil]; omega))
      have hy23 : (x2)[k]? = some x2[k]! := get_bang (by first | (omega) | (simp only [List.length_append, List.length_cons, List.length_nil]; omega) | (simp only [List.length_take, List.length_append, List.length_cons, List.length_nil]; omega))
      refine QOPS.batch 9 {} [.int .u8 (x1[k]!), .int .u8 (x2[k]!)] [0, 1, 12, 13, 24] [.slice a1 n1 c1, .slice a2 n2 c2, .int .i64 ((n1 : Nat) : Int), .int .i64 (k : Int), .bool (decide (¬ ((x1[k]!) = (x2[k]!))))] hnehp17 (fun w18 hp19 => QB.mk (.cons (show InB ((k : Int)) (n1) from ⟨by omega, by omega⟩) (.cons ((h1.at hp19).some (by omega)) (.cons (Ld.add0 (Ld.el1 (P := Try.prog) (t := 5) (h1.at hp19).rd 1 (fun _ => rfl) hy21 (o := 0) (v := .int .u8 (x1[k]!)) (by kernel_rfl))) (.cons (show InB ((k : Int)) (n2) from ⟨by omega, by omega⟩) (.cons ((h2.at hp19).some (by omega)) (.cons (Ld.add0 (Ld.el1 (P := Try.prog) (t := 5) (h2.at hp19).rd 1 (fun _ => rfl) hy23 (o := 0) (v := .int .u8 (x2[k]!)) (by kernel_rfl))) .nil)))))) (by kernel_rfl)) (fun b24 => ?_)
      refine QOPS.nil (fun w25 hp26 => ?_)
      refine thn_n ?_
      refine WP.test (p := ¬ ((x1[k]!) = (x2[k]!))) rfl Bp.dec (fun h27 => ?_) (fun h27 => ?_)
      · refine WP.seq ?_
        refine WP.pure {} [] [4] [.bool false] .nil (by kernel_rfl) (fun b28 => ?_)
        refine thn_n ?_
        refine WP.ret ?_
        refine blk_r ?_
        refine thn_r ?_
        refine thn_r ?_
        refine blk_r ?_
        refine thn_r ?_
        refine bodyQ.of _ rfl [.bool false] ⟨rfl, trivial⟩ ?_
        exact ⟨_, rfl, Bp.of Bp.f (by exact ⟨fun h => h.elim, fun h => h27 (by rw [h])⟩), hp26.fr⟩
      · replace h27 := Classical.not_not.1 h27
        refine WP.skip ?_
        refine blk_n ?_
        refine thn_n ?_
        refine WP.pure {} [] [0, 1, 12, 13] [.slice a1 n1 c1, .slice a2 n2 c2, .int .i64 ((n1 : Nat) : Int), .int .i64 ((k : Int) + 1)] (.cons (show Rng .i64 ((k : Int) + 1) from Rng.i64 (by omega)) .nil) (by kernel_rfl) (fun b29 => ?_)
        refine thn_n ?_
        exact ⟨x1.length - (k + 1), (by omega), k + 1, rfl, ⟨by omega, take_same (by omega) (by omega) q2 h27⟩, by kernel_rfl, hp26⟩
    · refine WP.exit ?_
      refine thn_x ?_
      refine thn_x ?_
      refine blk_hit ?_
      refine thn_n ?_
      refine WP.seq ?_
      refine WP.pure {} [] [4] [.bool true] .nil (by kernel_rfl) (fun b30 => ?_)
      refine thn_n ?_
      refine WP.ret ?_
      refine bodyQ.of _ rfl [.bool true] ⟨rfl, trivial⟩ ?_
      exact ⟨_, rfl, Bp.of Bp.t (by exact ⟨fun _ => by rw [List.take_of_length_le (by omega), List.take_of_length_le (by omega)] at q2; exact q2, fun _ => trivial⟩), hp8.fr⟩

theorem o_told (l : List GCall) (a : Option Addr) (n c : Nat) (w : World) (hn : n = l.length) (hb : l.length ≤ 8796093022207) (hs : SlR w a n (l.flatMap GCall.cells)) (o : List Int) (ao : Option Addr) (no co : Nat) (hno : no = o.length) (hbo : o.length ≤ 9223372036854775807) (hso : SlR w ao no (List.flatMap (fun (y : Int) => [Go.Value.int .i64 y]) o)) (hin : ∀ j, j < o.length → 0 ≤ o[j]! ∧ o[j]! < (l.length : Int)) (hv : ∀ y ∈ l, VB w y.Value) (hvn : ∀ y ∈ l, y.Value.n ≤ 8796093022207000) :
    Calls Try.prog 73 #[.slice a n c, .slice ao no co] w (fun r_ w' => ∃ f_, r_ = .returned (.bool f_) ∧ Bp f_ (toldP w l o) ∧ Fram Non w w') := by
  refine calls_of Try.func73 rfl 51 rfl (by simp) ?_
  have hp0 := Hp.init w
  have he0 : List.map (env0 [.slice a n c, .slice ao no co]) [0, 1] = [.slice a n c, .slice ao no co] := by kernel_rfl
  obtain ⟨b0, he0⟩ := toMk he0
  rw [he0]
  clear he0
  refine WP.seq ?_
  refine WP.pure {} [] [0, 1] [.slice a n c, .slice ao no co] .nil (by kernel_rfl) (fun b1 => ?_)
  refine thn_n ?_
  refine WP.seq ?_
  refine WP.pure {} [] [0, 1, 5] [.slice a n c, .slice ao no co, .int .i64 (-1)] .nil (by kernel_rfl) (fun b2 => ?_)
  refine thn_n ?_
  refine WP.seq ?_
  refine WP.seq ?_
  refine WP.pure {} [] [0, 5, 9, 10, 11] [.slice a n c, .int .i64 (-1), .slice ao no co, .int .i64 ((no : Nat) : Int), .int .i64 0] .nil (by kernel_rfl) (fun b3 => ?_)
  refine thn_n ?_
  refine WP.block ?_
  refine WP.loop (fun mz_ e4 w5 => ∃ (k : Nat) (m : Int), mz_ = o.length - k ∧ (k ≤ o.length ∧ m = lastF l o k ∧ ∀ j, j < k → toldC w l o j) ∧ List.map e4 [0, 5, 9, 10, 11] = [.slice a n c, .int .i64 m, .slice ao no co, .int .i64 ((no : Nat) : Int), .int .i64 (k : Int)] ∧ Hp w Non [] w5) (o.length - (0)) ⟨0, (-1), rfl, ⟨by omega, rfl, fun j hj => by omega⟩, by kernel_rfl, hp0⟩ ?_
  rintro _ e4 w5 ⟨k, m, rfl, hI7, hE8, hp6⟩
  obtain ⟨b9, rfl⟩ := toMk hE8
  clear hE8
  obtain ⟨pa, pb, pc⟩ := hI7
  have hik := hin k
  have hlm := lastF_in hin k pa
  rw [← pb] at hlm
  refine WP.seq ?_
  refine WP.pure {} [] [0, 5, 9, 10, 11, 12] [.slice a n c, .int .i64 m, .slice ao no co, .int .i64 ((no : Nat) : Int), .int .i64 (k : Int), .bool (decide ((k : Int) < ((no : Nat) : Int)))] .nil (by kernel_rfl) (fun b10 => ?_)
  refine thn_n ?_
  refine WP.seq ?_
  refine WP.test (p := (k : Int) < ((no : Nat) : Int)) rfl Bp.dec (fun h11 => ?_) (fun h11 => ?_)
  · refine WP.skip ?_
    refine thn_n ?_
    refine WP.seq ?_
    refine WP.block ?_
    refine WP.seq ?_
    have hy13 : (o)[k]? = some o[k]! := get_bang (by first | (omega) | (simp only [List.length_append, List.length_cons, List.length_nil]; omega) | (simp only [List.length_take, List.length_append, List.length_cons, List.length_nil]; omega))
    refine WP.pure {} [.int .i64 (o[k]!)] [0, 5, 7, 9, 10, 11] [.slice a n c, .int .i64 m, .int .i64 (o[k]!), .slice ao no co, .int .i64 ((no : Nat) : Int), .int .i64 (k : Int)] (.cons (show InB ((k : Int)) (no) from ⟨by omega, by omega⟩) (.cons ((hso.at hp6).some (by omega)) (.cons (Ld.add0 (Ld.el1 (P := Try.prog) (t := 3) (hso.at hp6).rd 1 (fun _ => rfl) hy13 (o := 0) (v := .int .i64 (o[k]!)) (by kernel_rfl))) .nil))) (by kernel_rfl) (fun b14 => ?_)
    refine thn_n ?_
    refine WP.seq ?_
    refine WP.region _ rfl (by kernel_rfl) ?_
    have hy18 : (l)[(o[k]! : Int).toNat]? = some l[(o[k]! : Int).toNat]! := get_bang (by first | (omega) | (simp only [List.length_append, List.length_cons, List.length_nil]; omega) | (simp only [List.length_take, List.length_append, List.length_cons, List.length_nil]; omega))
    refine OPS.batch 4 {} [GCall.val (l[(o[k]! : Int).toNat]!)] [0, 5, 7, 9, 10, 11, 18] [.slice a n c, .int .i64 m, .int .i64 (o[k]!), .slice ao no co, .int .i64 ((no : Nat) : Int), .int .i64 (k : Int), GCall.val (l[(o[k]! : Int).toNat]!)] (.cons (show InB (o[k]!) (n) from ⟨by omega, by omega⟩) (.cons ((hs.at hp6).some (by omega)) (.cons (Ld.add0 (Ld.elN (P := Try.prog) (t := 73) (hs.at hp6).rd 11 (fun _ => rfl) hy18 (o := 0) (cs := [.int .i64 (l[(o[k]! : Int).toNat]!.Client), .int .i64 (l[(o[k]! : Int).toNat]!.Op), .bool (l[(o[k]! : Int).toNat]!.Put), .string (l[(o[k]! : Int).toNat]!.Key), .slice (l[(o[k]! : Int).toNat]!.Value.a) (l[(o[k]! : Int).toNat]!.Value.n) (l[(o[k]! : Int).toNat]!.Value.c), .int .i64 (l[(o[k]! : Int).toNat]!.Status), .int .i64 (l[(o[k]! : Int).toNat]!.From), .int .i64 (l[(o[k]! : Int).toNat]!.To), .bool (l[(o[k]! : Int).toNat]!.Open), .int .i64 (l[(o[k]! : Int).toNat]!.Tag.Count), .int .i64 (l[(o[k]! : Int).toNat]!.Tag.Client)]) (by kernel_rfl))) .nil))) (by kernel_rfl) (fun b19 => ?_)
    refine OPS.cons (opStep.alloc hp6 [.int .i64 0, .int .i64 0, .bool false, .string ByteArray.empty, .slice none 0 0, .int .i64 0, .int .i64 0, .int .i64 0, .bool false, .int .i64 0, .int .i64 0] (by kernel_rfl) (fun g22 w20 hp21 => ?_))
    refine OPS.cons (opStep.store0 hp21 rfl [.int .i64 (l[(o[k]! : Int).toNat]!.Client), .int .i64 (l[(o[k]! : Int).toNat]!.Op), .bool (l[(o[k]! : Int).toNat]!.Put), .string (l[(o[k]! : Int).toNat]!.Key), .slice (l[(o[k]! : Int).toNat]!.Value.a) (l[(o[k]! : Int).toNat]!.Value.n) (l[(o[k]! : Int).toNat]!.Value.c), .int .i64 (l[(o[k]! : Int).toNat]!.Status), .int .i64 (l[(o[k]! : Int).toNat]!.From), .int .i64 (l[(o[k]! : Int).toNat]!.To), .bool (l[(o[k]! : Int).toNat]!.Open), .int .i64 (l[(o[k]! : Int).toNat]!.Tag.Count), .int .i64 (l[(o[k]! : Int).toNat]!.Tag.Client)] [.int .i64 (l[(o[k]! : Int).toNat]!.Client), .int .i64 (l[(o[k]! : Int).toNat]!.Op), .bool (l[(o[k]! : Int).toNat]!.Put), .string (l[(o[k]! : Int).toNat]!.Key), .slice (l[(o[k]! : Int).toNat]!.Value.a) (l[(o[k]! : Int).toNat]!.Value.n) (l[(o[k]! : Int).toNat]!.Value.c), .int .i64 (l[(o[k]! : Int).toNat]!.Status), .int .i64 (l[(o[k]! : Int).toNat]!.From), .int .i64 (l[(o[k]! : Int).toNat]!.To), .bool (l[(o[k]! : Int).toNat]!.Open), .int .i64 (l[(o[k]! : Int).toNat]!.Tag.Count), .int .i64 (l[(o[k]! : Int).toNat]!.Tag.Client)] (by kernel_rfl) (fun w23 hp24 => ?_))
    refine OPS.nil ?_
    refine thn_n ?_
    refine WP.block ?_
    refine WP.seq ?_
    refine WP.pure {} [.bool (l[(o[k]! : Int).toNat]!.Put)] [0, 5, 7, 8, 9, 10, 11, 19] [.slice a n c, .int .i64 m, .int .i64 (o[k]!), .pointer (some ⟨g22, 0, none⟩), .slice ao no co, .int .i64 ((no : Nat) : Int), .int .i64 (k : Int), .bool (l[(o[k]! : Int).toNat]!.Put)] (.cons (Ld.row1 (P := Try.prog) (t := 4) (o := 2) (v := .bool (l[(o[k]! : Int).toNat]!.Put)) hp24.get0 (by kernel_rfl)) .nil) (by kernel_rfl) (fun b25 => ?_)
    refine thn_n ?_
    refine WP.test (p := (l[(o[k]! : Int).toNat]!.Put) = true) rfl Bp.var (fun h26 => ?_) (fun h26 => ?_)
    · refine WP.pure {} [] [0, 5, 9, 10, 11] [.slice a n c, .int .i64 (o[k]!), .slice ao no co, .int .i64 ((no : Nat) : Int), .int .i64 (k : Int)] .nil (by kernel_rfl) (fun b27 => ?_)
      refine blk_n ?_
      refine blk_n ?_
      refine thn_n ?_
      refine WP.pure {} [] [0, 5, 9, 10, 11] [.slice a n c, .int .i64 (o[k]!), .slice ao no co, .int .i64 ((no : Nat) : Int), .int .i64 ((k : Int) + 1)] (.cons (show Rng .i64 ((k : Int) + 1) from Rng.i64 (by omega)) .nil) (by kernel_rfl) (fun b28 => ?_)
      refine thn_n ?_
      exact ⟨o.length - (k + 1), (by omega), k + 1, o[k]!, rfl, ⟨by omega, by unfold lastF; rw [if_pos (show (atO l o k).Put = true from h26)], fun j hj => by by_cases e : j = k; subst e; exact told_put h26; exact pc j (by omega)⟩, by kernel_rfl, (hp24.sub (.cons _ (.slnil)))⟩
    · refine WP.cut (fun e38 w39 => ∃ (x36 : Bool), (True) ∧ Bp x36 (((l[(o[k]! : Int).toNat]!.Status) = 76) ∧ (0 ≤ m)) ∧ List.map e38 [0, 5, 8, 9, 10, 11, 23] = [.slice a n c, .int .i64 m, .pointer (some ⟨g22, 0, none⟩), .slice ao no co, .int .i64 ((no : Nat) : Int), .int .i64 (k : Int), .bool x36] ∧ Hp w Non [Res.row g22 [.int .i64 (l[(o[k]! : Int).toNat]!.Client), .int .i64 (l[(o[k]! : Int).toNat]!.Op), .bool (l[(o[k]! : Int).toNat]!.Put), .string (l[(o[k]! : Int).toNat]!.Key), .slice (l[(o[k]! : Int).toNat]!.Value.a) (l[(o[k]! : Int).toNat]!.Value.n) (l[(o[k]! : Int).toNat]!.Value.c), .int .i64 (l[(o[k]! : Int).toNat]!.Status), .int .i64 (l[(o[k]! : Int).toNat]!.From), .int .i64 (l[(o[k]! : Int).toNat]!.To), .bool (l[(o[k]! : Int).toNat]!.Open), .int .i64 (l[(o[k]! : Int).toNat]!.Tag.Count), .int .i64 (l[(o[k]! : Int).toNat]!.Tag.Client)] 73] w39) ?_ ?_
      · refine WP.region _ rfl (by kernel_rfl) ?_
        refine OPS.batch 4 {} [.int .i64 (l[(o[k]! : Int).toNat]!.Status)] [0, 5, 8, 9, 10, 11, 27] [.slice a n c, .int .i64 m, .pointer (some ⟨g22, 0, none⟩), .slice ao no co, .int .i64 ((no : Nat) : Int), .int .i64 (k : Int), .bool (decide ((l[(o[k]! : Int).toNat]!.Status) = 76))] (.cons (Ld.row1 (P := Try.prog) (t := 25) (o := 5) (v := .int .i64 (l[(o[k]! : Int).toNat]!.Status)) hp24.get0 (by kernel_rfl)) .nil) (by kernel_rfl) (fun b30 => ?_)
        by_cases h31 : (l[(o[k]! : Int).toNat]!.Status) = 76
        · refine OPS.batch 0 {} [] [0, 5, 8, 9, 10, 11, 27] [.slice a n c, .int .i64 m, .pointer (some ⟨g22, 0, none⟩), .slice ao no co, .int .i64 ((no : Nat) : Int), .int .i64 (k : Int), .bool (decide ((l[(o[k]! : Int).toNat]!.Status) = 76))] .nil (by kernel_rfl) (fun b32 => ?_)
          refine OPS.re [.slice a n c, .int .i64 m, .pointer (some ⟨g22, 0, none⟩), .slice ao no co, .int .i64 ((no : Nat) : Int), .int .i64 (k : Int), .bool true] (by rw [show (decide ((l[(o[k]! : Int).toNat]!.Status) = 76)) = true from Bp.dec.tt h31]) ?_
          refine OPS.batch 4 { wraps := [30] } [] [0, 5, 8, 9, 10, 11, 23] [.slice a n c, .int .i64 m, .pointer (some ⟨g22, 0, none⟩), .slice ao no co, .int .i64 ((no : Nat) : Int), .int .i64 (k : Int), .bool (decide (0 ≤ m))] .nil (by kernel_rfl) (fun b33 => ?_)
          refine OPS.nil ?_
          refine thn_n ?_
          exact ⟨decide (0 ≤ m), trivial, Bp.of Bp.dec (by first | (simp only [h31, iff_false, false_iff, iff_true, true_iff, Classical.not_not, and_true, true_and, and_false, false_and, or_true, true_or, or_false, false_or, not_true_eq_false, not_false_eq_true, and_self, or_self, iff_self]; done) | (simp [h31]; done) | grind | (simp_all; done)), by kernel_rfl, hp24⟩
        · refine OPS.batch 0 {} [] [0, 5, 8, 9, 10, 11, 27] [.slice a n c, .int .i64 m, .pointer (some ⟨g22, 0, none⟩), .slice ao no co, .int .i64 ((no : Nat) : Int), .int .i64 (k : Int), .bool (decide ((l[(o[k]! : Int).toNat]!.Status) = 76))] .nil (by kernel_rfl) (fun b34 => ?_)
          refine OPS.re [.slice a n c, .int .i64 m, .pointer (some ⟨g22, 0, none⟩), .slice ao no co, .int .i64 ((no : Nat) : Int), .int .i64 (k : Int), .bool false] (by rw [show (decide ((l[(o[k]! : Int).toNat]!.Status) = 76)) = false from Bp.dec.ff h31]) ?_
          refine OPS.batch 4 { wraps := [30] } [] [0, 5, 8, 9, 10, 11, 23] [.slice a n c, .int .i64 m, .pointer (some ⟨g22, 0, none⟩), .slice ao no co, .int .i64 ((no : Nat) : Int), .int .i64 (k : Int), .bool false] .nil (by kernel_rfl) (fun b35 => ?_)
          refine OPS.nil ?_
          refine thn_n ?_
          exact ⟨false, trivial, Bp.of Bp.f (by first | (simp only [h31, iff_false, false_iff, iff_true, true_iff, Classical.not_not, and_true, true_and, and_false, false_and, or_true, true_or, or_false, false_or, not_true_eq_false, not_false_eq_true, and_self, or_self, iff_self]; done) | (simp [h31]; done) | grind | (simp_all; done)), by kernel_rfl, hp24⟩
      rintro e38 w39 ⟨x36, hd41, hb37, hE42, hp40⟩
      obtain ⟨b43, rfl⟩ := toMk hE42
      clear hE42
      clear hd41
      refine WP.test (p := ((l[(o[k]! : Int).toNat]!.Status) = 76) ∧ (0 ≤ m)) rfl hb37 (fun h44 => ?_) (fun h44 => ?_)
      · refine WP.seq ?_
        refine WP.pure {} [] [4] [.bool false] .nil (by kernel_rfl) (fun b45 => ?_)
        refine thn_n ?_
        refine WP.ret ?_
        refine blk_r ?_
        refine blk_r ?_
        refine thn_r ?_
        refine thn_r ?_
        refine blk_r ?_
        refine thn_r ?_
        refine bodyQ.of _ rfl [.bool false] ⟨rfl, trivial⟩ ?_
        exact ⟨_, rfl, Bp.of Bp.f (by simp only [false_iff]; intro q; exact told_no pb (q k (by omega)) h26 (Or.inl h44)), hp40.fr⟩
      · refine WP.cut (fun e86 w87 => ∃ (x84 : Bool), (True) ∧ Bp x84 ((((l[(o[k]! : Int).toNat]!.Status) = 0) ∧ (m < 0)) ∨ (((l[(o[k]! : Int).toNat]!.Status) = 0) ∧ (¬ (m < 0)) ∧ (¬ (bytesAt w (l[(o[k]! : Int).toNat]!.Value) = bytesAt w (l[(m : Int).toNat]!.Value))))) ∧ List.map e86 [0, 5, 9, 10, 11, 31] = [.slice a n c, .int .i64 m, .slice ao no co, .int .i64 ((no : Nat) : Int), .int .i64 (k : Int), .bool x84] ∧ Hp w Non [Res.row g22 [.int .i64 (l[(o[k]! : Int).toNat]!.Client), .int .i64 (l[(o[k]! : Int).toNat]!.Op), .bool (l[(o[k]! : Int).toNat]!.Put), .string (l[(o[k]! : Int).toNat]!.Key), .slice (l[(o[k]! : Int).toNat]!.Value.a) (l[(o[k]! : Int).toNat]!.Value.n) (l[(o[k]! : Int).toNat]!.Value.c), .int .i64 (l[(o[k]! : Int).toNat]!.Status), .int .i64 (l[(o[k]! : Int).toNat]!.From), .int .i64 (l[(o[k]! : Int).toNat]!.To), .bool (l[(o[k]! : Int).toNat]!.Open), .int .i64 (l[(o[k]! : Int).toNat]!.Tag.Count), .int .i64 (l[(o[k]! : Int).toNat]!.Tag.Client)] 73] w87) ?_ ?_
        · have hp49 := hp40.drew
          refine WP.quiet (fun w47 => Hp w Non [Res.row g22 [.int .i64 (l[(o[k]! : Int).toNat]!.Client), .int .i64 (l[(o[k]! : Int).toNat]!.Op), .bool (l[(o[k]! : Int).toNat]!.Put), .string (l[(o[k]! : Int).toNat]!.Key), .slice (l[(o[k]! : Int).toNat]!.Value.a) (l[(o[k]! : Int).toNat]!.Value.n) (l[(o[k]! : Int).toNat]!.Value.c), .int .i64 (l[(o[k]! : Int).toNat]!.Status), .int .i64 (l[(o[k]! : Int).toNat]!.From), .int .i64 (l[(o[k]! : Int).toNat]!.To), .bool (l[(o[k]! : Int).toNat]!.Open), .int .i64 (l[(o[k]! : Int).toNat]!.Tag.Count), .int .i64 (l[(o[k]! : Int).toNat]!.Tag.Client)] 73] w47) (by kernel_rfl) hp49 ?_
          have hnehp49 : ∃ wz_, (fun w47 => Hp w Non [Res.row g22 [.int .i64 (l[(o[k]! : Int).toNat]!.Client), .int .i64 (l[(o[k]! : Int).toNat]!.Op), .bool (l[(o[k]! : Int).toNat]!.Put), .string (l[(o[k]! : Int).toNat]!.Key), .slice (l[(o[k]! : Int).toNat]!.Value.a) (l[(o[k]! : Int).toNat]!.Value.n) (l[(o[k]! : Int).toNat]!.Value.c), .int .i64 (l[(o[k]! : Int).toNat]!.Status), .int .i64 (l[(o[k]! : Int).toNat]!.From), .int .i64 (l[(o[k]! : Int).toNat]!.To), .bool (l[(o[k]! : Int).toNat]!.Open), .int .i64 (l[(o[k]! : Int).toNat]!.Tag.Count), .int .i64 (l[(o[k]! : Int).toNat]!.Tag.Client)] 73] w47) wz_ := ⟨_, hp49⟩
          refine QOPS.batch 4 {} [.int .i64 (l[(o[k]! : Int).toNat]!.Status)] [0, 5, 8, 9, 10, 11, 35] [.slice a n c, .int .i64 m, .pointer (some ⟨g22, 0, none⟩), .slice ao no co, .int .i64 ((no : Nat) : Int), .int .i64 (k : Int), .bool (decide ((l[(o[k]! : Int).toNat]!.Status) = 0))] hnehp49 (fun w50 hp51 => QB.mk (.cons (Ld.row1 (P := Try.prog) (t := 25) (o := 5) (v := .int .i64 (l[(o[k]! : Int).toNat]!.Status)) hp51.get0 (by kernel_rfl)) .nil) (by kernel_rfl)) (fun b52 => ?_)
          by_cases h53 : (l[(o[k]! : Int).toNat]!.Status) = 0
          · refine QOPS.batch 0 {} [] [0, 5, 8, 9, 10, 11, 35] [.slice a n c, .int .i64 m, .pointer (some ⟨g22, 0, none⟩), .slice ao no co, .int .i64 ((no : Nat) : Int), .int .i64 (k : Int), .bool (decide ((l[(o[k]! : Int).toNat]!.Status) = 0))] hnehp49 (fun _ _ => QB.mk .nil (by kernel_rfl)) (fun b54 => ?_)
            refine QOPS.re [.slice a n c, .int .i64 m, .pointer (some ⟨g22, 0, none⟩), .slice ao no co, .int .i64 ((no : Nat) : Int), .int .i64 (k : Int), .bool true] (by rw [show (decide ((l[(o[k]! : Int).toNat]!.Status) = 0)) = true from Bp.dec.tt h53]) ?_
            refine QOPS.batch 3 {} [] [0, 5, 8, 9, 10, 11, 35, 38] [.slice a n c, .int .i64 m, .pointer (some ⟨g22, 0, none⟩), .slice ao no co, .int .i64 ((no : Nat) : Int), .int .i64 (k : Int), .bool true, .bool (decide (m < 0))] hnehp49 (fun w55 hp56 => QB.mk .nil (by kernel_rfl)) (fun b57 => ?_)
            by_cases h58 : m < 0
            · refine QOPS.batch 0 {} [] [0, 5, 8, 9, 10, 11, 35, 38] [.slice a n c, .int .i64 m, .pointer (some ⟨g22, 0, none⟩), .slice ao no co, .int .i64 ((no : Nat) : Int), .int .i64 (k : Int), .bool true, .bool (decide (m < 0))] hnehp49 (fun _ _ => QB.mk .nil (by kernel_rfl)) (fun b59 => ?_)
              refine QOPS.re [.slice a n c, .int .i64 m, .pointer (some ⟨g22, 0, none⟩), .slice ao no co, .int .i64 ((no : Nat) : Int), .int .i64 (k : Int), .bool true, .bool true] (by rw [show (decide (m < 0)) = true from Bp.dec.tt h58]) ?_
              refine QOPS.batch 12 { wraps := [48, 49] } [] [0, 5, 9, 10, 11, 31] [.slice a n c, .int .i64 m, .slice ao no co, .int .i64 ((no : Nat) : Int), .int .i64 (k : Int), .bool true] hnehp49 (fun w60 hp61 => QB.mk .nil (by kernel_rfl)) (fun b62 => ?_)
              refine QOPS.nil (fun w63 hp64 => ?_)
              refine thn_n ?_
              exact ⟨true, trivial, Bp.of Bp.t (by first | (simp only [h53, h58, iff_false, false_iff, iff_true, true_iff, Classical.not_not, and_true, true_and, and_false, false_and, or_true, true_or, or_false, false_or, not_true_eq_false, not_false_eq_true, and_self, or_self, iff_self]; done) | (simp [h53, h58]; done) | grind | (simp_all; done)), by kernel_rfl, hp64⟩
            · refine QOPS.batch 0 {} [] [0, 5, 8, 9, 10, 11, 35, 38] [.slice a n c, .int .i64 m, .pointer (some ⟨g22, 0, none⟩), .slice ao no co, .int .i64 ((no : Nat) : Int), .int .i64 (k : Int), .bool true, .bool (decide (m < 0))] hnehp49 (fun _ _ => QB.mk .nil (by kernel_rfl)) (fun b65 => ?_)
              refine QOPS.re [.slice a n c, .int .i64 m, .pointer (some ⟨g22, 0, none⟩), .slice ao no co, .int .i64 ((no : Nat) : Int), .int .i64 (k : Int), .bool true, .bool false] (by rw [show (decide (m < 0)) = false from Bp.dec.ff h58]) ?_
              have hy69 : (l)[(m : Int).toNat]? = some l[(m : Int).toNat]! := get_bang (by first | (omega) | (simp only [List.length_append, List.length_cons, List.length_nil]; omega) | (simp only [List.length_take, List.length_append, List.length_cons, List.length_nil]; omega))
              refine QOPS.batch 7 {} [.slice (l[(o[k]! : Int).toNat]!.Value.a) (l[(o[k]! : Int).toNat]!.Value.n) (l[(o[k]! : Int).toNat]!.Value.c), .slice (l[(m : Int).toNat]!.Value.a) (l[(m : Int).toNat]!.Value.n) (l[(m : Int).toNat]!.Value.c)] [0, 5, 9, 10, 11, 35, 38, 40, 45] [.slice a n c, .int .i64 m, .slice ao no co, .int .i64 ((no : Nat) : Int), .int .i64 (k : Int), .bool true, .bool false, .slice (l[(o[k]! : Int).toNat]!.Value.a) (l[(o[k]! : Int).toNat]!.Value.n) (l[(o[k]! : Int).toNat]!.Value.c), .slice (l[(m : Int).toNat]!.Value.a) (l[(m : Int).toNat]!.Value.n) (l[(m : Int).toNat]!.Value.c)] hnehp49 (fun w66 hp67 => QB.mk (.cons (Ld.row1 (P := Try.prog) (t := 71) (o := 4) (v := .slice (l[(o[k]! : Int).toNat]!.Value.a) (l[(o[k]! : Int).toNat]!.Value.n) (l[(o[k]! : Int).toNat]!.Value.c)) hp67.get0 (by kernel_rfl)) (.cons (show InB (m) (n) from ⟨by omega, by omega⟩) (.cons ((hs.at hp67).some (by omega)) (.cons (Ld.el1 (P := Try.prog) (t := 71) (hs.at hp67).rd 11 (fun _ => rfl) hy69 (o := 4) (v := .slice (l[(m : Int).toNat]!.Value.a) (l[(m : Int).toNat]!.Value.n) (l[(m : Int).toNat]!.Value.c)) (by kernel_rfl)) .nil)))) (by kernel_rfl)) (fun b70 => ?_)
              refine QOPS.call (some 46) [.slice (l[(o[k]! : Int).toNat]!.Value.a) (l[(o[k]! : Int).toNat]!.Value.n) (l[(o[k]! : Int).toNat]!.Value.c), .slice (l[(m : Int).toNat]!.Value.a) (l[(m : Int).toNat]!.Value.n) (l[(m : Int).toNat]!.Value.c)] (by kernel_rfl) (fun w71 hp72 => (s_EqualB (bytesAt w (l[(o[k]! : Int).toNat]!.Value)) (bytesAt w (l[(m : Int).toNat]!.Value)) _ _ _ _ _ _ _ (bytesAt_len _ _) (bytesAt_len _ _) (by rw [bytesAt_len]; exact hvn _ (List.mem_of_getElem? (get_bang (by omega)))) (SlR.at (hv l[(o[k]! : Int).toNat]! (List.mem_of_getElem? hy18)) hp72) (SlR.at (hv l[(m : Int).toNat]! (List.mem_of_getElem? hy69)) hp72)).mono fun _ _ h => by obtain ⟨b, h1, h2, h3⟩ := h; exact ⟨by rw [h1, h2.eq_bo], hp72.step h3⟩) ?_
              refine QOPS.batch 4 { wraps := [48, 49] } [] [0, 5, 9, 10, 11, 31] [.slice a n c, .int .i64 m, .slice ao no co, .int .i64 ((no : Nat) : Int), .int .i64 (k : Int), .bool (!(bo (bytesAt w (l[(o[k]! : Int).toNat]!.Value) = bytesAt w (l[(m : Int).toNat]!.Value))))] hnehp49 (fun w73 hp74 => QB.mk .nil (by kernel_rfl)) (fun b75 => ?_)
              refine QOPS.nil (fun w76 hp77 => ?_)
              refine thn_n ?_
              exact ⟨!(bo (bytesAt w (l[(o[k]! : Int).toNat]!.Value) = bytesAt w (l[(m : Int).toNat]!.Value))), trivial, Bp.of (Bp.not Bp.bo) (by first | (simp only [h53, h58, iff_false, false_iff, iff_true, true_iff, Classical.not_not, and_true, true_and, and_false, false_and, or_true, true_or, or_false, false_or, not_true_eq_false, not_false_eq_true, and_self, or_self, iff_self]; done) | (simp [h53, h58]; done) | grind | (simp_all; done)), by kernel_rfl, hp77⟩
          · refine QOPS.batch 0 {} [] [0, 5, 8, 9, 10, 11, 35] [.slice a n c, .int .i64 m, .pointer (some ⟨g22, 0, none⟩), .slice ao no co, .int .i64 ((no : Nat) : Int), .int .i64 (k : Int), .bool (decide ((l[(o[k]! : Int).toNat]!.Status) = 0))] hnehp49 (fun _ _ => QB.mk .nil (by kernel_rfl)) (fun b78 => ?_)
            refine QOPS.re [.slice a n c, .int .i64 m, .pointer (some ⟨g22, 0, none⟩), .slice ao no co, .int .i64 ((no : Nat) : Int), .int .i64 (k : Int), .bool false] (by rw [show (decide ((l[(o[k]! : Int).toNat]!.Status) = 0)) = false from Bp.dec.ff h53]) ?_
            refine QOPS.batch 15 { wraps := [49] } [] [0, 5, 9, 10, 11, 31] [.slice a n c, .int .i64 m, .slice ao no co, .int .i64 ((no : Nat) : Int), .int .i64 (k : Int), .bool false] hnehp49 (fun w79 hp80 => QB.mk .nil (by kernel_rfl)) (fun b81 => ?_)
            refine QOPS.nil (fun w82 hp83 => ?_)
            refine thn_n ?_
            exact ⟨false, trivial, Bp.of Bp.f (by first | (simp only [h53, iff_false, false_iff, iff_true, true_iff, Classical.not_not, and_true, true_and, and_false, false_and, or_true, true_or, or_false, false_or, not_true_eq_false, not_false_eq_true, and_self, or_self, iff_self]; done) | (simp [h53]; done) | grind | (simp_all; done)), by kernel_rfl, hp83⟩
        rintro e86 w87 ⟨x84, hd89, hb85, hE90, hp88⟩
        obtain ⟨b91, rfl⟩ := toMk hE90
        clear hE90
        clear hd89
        refine WP.test (p := (((l[(o[k]! : Int).toNat]!.Status) = 0) ∧ (m < 0)) ∨ (((l[(o[k]! : Int).toNat]!.Status) = 0) ∧ (¬ (m < 0)) ∧ (¬ (bytesAt w (l[(o[k]! : Int).toNat]!.Value) = bytesAt w (l[(m : Int).toNat]!.Value))))) rfl hb85 (fun h92 => ?_) (fun h92 => ?_)
        · refine WP.seq ?_
          refine WP.pure {} [] [4] [.bool false] .nil (by kernel_rfl) (fun b93 => ?_)
          refine thn_n ?_
          refine WP.ret ?_
          refine blk_r ?_
          refine blk_r ?_
          refine thn_r ?_
          refine thn_r ?_
          refine blk_r ?_
          refine thn_r ?_
          refine bodyQ.of _ rfl [.bool false] ⟨rfl, trivial⟩ ?_
          exact ⟨_, rfl, Bp.of Bp.f (by simp only [false_iff]; intro q; exact told_no pb (q k (by omega)) h26 (Or.inr h92)), hp88.fr⟩
        · refine WP.skip ?_
          refine blk_n ?_
          refine blk_n ?_
          refine thn_n ?_
          refine WP.pure {} [] [0, 5, 9, 10, 11] [.slice a n c, .int .i64 m, .slice ao no co, .int .i64 ((no : Nat) : Int), .int .i64 ((k : Int) + 1)] (.cons (show Rng .i64 ((k : Int) + 1) from Rng.i64 (by omega)) .nil) (by kernel_rfl) (fun b94 => ?_)
          refine thn_n ?_
          exact ⟨o.length - (k + 1), (by omega), k + 1, m, rfl, ⟨by omega, by rw [pb]; conv => rhs; unfold lastF; rw [if_neg (show ¬ (atO l o k).Put = true from h26)], fun j hj => by by_cases e : j = k; subst e; exact told_get pb h26 h44 h92; exact pc j (by omega)⟩, by kernel_rfl, (hp88.sub (.cons _ (.slnil)))⟩
  · refine WP.exit ?_
    refine thn_x ?_
    refine thn_x ?_
    refine blk_hit ?_
    refine thn_n ?_
    refine WP.seq ?_
    refine WP.pure {} [] [4] [.bool true] .nil (by kernel_rfl) (fun b95 => ?_)
    refine thn_n ?_
    refine WP.ret ?_
    refine bodyQ.of _ rfl [.bool true] ⟨rfl, trivial⟩ ?_
    exact ⟨_, rfl, Bp.of Bp.t (by simp only [true_iff]; exact fun j hj => pc j (by omega)), hp6.fr⟩

end Go.Proofs.Ytdahgdkadfdkeaa.K
