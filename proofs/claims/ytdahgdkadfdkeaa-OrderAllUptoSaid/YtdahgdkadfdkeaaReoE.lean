/- The walks of ReoE: what each function computes. -/
import Derived.Test.YtdahgdkadfdkeaaProg
import Derived.Test.YtdahgdkadfdkeaaCoreO
import Derived.Test.YtdahgdkadfdkeaaReoC
namespace Go.Proofs.Ytdahgdkadfdkeaa.K
open Go Go.Proofs Go.RowKit
set_option linter.unusedVariables false
set_option linter.unusedSimpArgs false
set_option maxRecDepth 20000
set_option maxHeartbeats 4000000

structure Gsherdref21_Taken where
  Call : Int
  Tag : GTag
def Gsherdref21_Taken.cells (x : Gsherdref21_Taken) : List Go.Value := [.int .i64 x.Call, .int .i64 x.Tag.Count, .int .i64 x.Tag.Client]
def Gsherdref21_Taken.val (x : Gsherdref21_Taken) : Go.Value := .agg x.cells.toArray
instance : Inhabited Gsherdref21_Taken := ⟨⟨0, default⟩⟩
theorem Gsherdref21_Taken.len (x : Gsherdref21_Taken) : x.cells.length = 3 := rfl
theorem r21_own (c : GCall) (w : World) :
    Calls Try.prog 104 #[GCall.val c] w (fun r_ w' => ∃ f_, r_ = .returned (.bool f_) ∧ Bp f_ (ownA c) ∧ Fram Non w w') := by
  refine calls_of Try.func104 rfl 16 rfl (by simp) ?_
  have hp0 := Hp.init w
  have he0 : List.map (env0 [GCall.val c]) [0] = [GCall.val c] := by kernel_rfl
  obtain ⟨b0, he0⟩ := toMk he0
  rw [he0]
  clear he0
  refine WP.seq ?_
  refine WP.region _ rfl (by kernel_rfl) ?_
  refine OPS.cons (opStep.box hp0 [.int .i64 c.Client, .int .i64 c.Op, .bool c.Put, .string c.Key, .slice c.Value.a c.Value.n c.Value.c, .int .i64 c.Status, .int .i64 c.From, .int .i64 c.To, .bool c.Open, .int .i64 c.Tag.Count, .int .i64 c.Tag.Client] (by kernel_rfl) (fun g3 w1 hp2 => ?_))
  refine OPS.batch 1 {} [] [1] [.pointer (some ⟨g3, 0, none⟩)] .nil (by kernel_rfl) (fun b4 => ?_)
  refine OPS.nil ?_
  refine thn_n ?_
  refine WP.cut (fun e27 w28 => ∃ (x25 : Bool), (True) ∧ Bp x25 (((c.Put = true) ∧ (¬ (c.Open = true))) ∨ ((c.Put = true) ∧ (c.Open = true) ∧ (¬ (tagZero c.Tag)))) ∧ List.map e27 [2] = [.bool x25] ∧ Hp w Non [Res.row g3 [.int .i64 c.Client, .int .i64 c.Op, .bool c.Put, .string c.Key, .slice c.Value.a c.Value.n c.Value.c, .int .i64 c.Status, .int .i64 c.From, .int .i64 c.To, .bool c.Open, .int .i64 c.Tag.Count, .int .i64 c.Tag.Client] 73] w28) ?_ ?_
  · refine WP.region _ rfl (by kernel_rfl) ?_
    refine OPS.batch 3 {} [.bool c.Put] [1, 5] [.pointer (some ⟨g3, 0, none⟩), .bool c.Put] (.cons (Ld.row1 (P := Try.prog) (t := 4) (o := 2) (v := .bool c.Put) hp2.get0 (by kernel_rfl)) .nil) (by kernel_rfl) (fun b6 => ?_)
    by_cases h7 : c.Put = true
    · refine OPS.batch 0 {} [] [1, 5] [.pointer (some ⟨g3, 0, none⟩), .bool c.Put] .nil (by kernel_rfl) (fun b8 => ?_)
      refine OPS.re [.pointer (some ⟨g3, 0, none⟩), .bool true] (by rw [show c.Put = true from Bp.var.tt h7]) ?_
      refine OPS.batch 4 {} [.bool c.Open] [1, 5, 9] [.pointer (some ⟨g3, 0, none⟩), .bool true, .bool (!c.Open)] (.cons (Ld.row1 (P := Try.prog) (t := 4) (o := 8) (v := .bool c.Open) hp2.get0 (by kernel_rfl)) .nil) (by kernel_rfl) (fun b9 => ?_)
      by_cases h10 : c.Open = true
      · refine OPS.batch 0 {} [] [1, 5, 9] [.pointer (some ⟨g3, 0, none⟩), .bool true, .bool (!c.Open)] .nil (by kernel_rfl) (fun b13 => ?_)
        refine OPS.re [.pointer (some ⟨g3, 0, none⟩), .bool true, .bool false] (by rw [show (!c.Open) = false from (Bp.not Bp.var).ff (fun k => k h10)]) ?_
        refine OPS.batch 2 {} [.agg #[.int .i64 c.Tag.Count, .int .i64 c.Tag.Client]] [5, 9, 11] [.bool true, .bool false, .agg #[.int .i64 c.Tag.Count, .int .i64 c.Tag.Client]] (.cons (show Ld Try.prog w1 70 ⟨g3, 9, none⟩ (.agg #[.int .i64 c.Tag.Count, .int .i64 c.Tag.Client]) from Ld.rowN (cs := [.int .i64 c.Tag.Count, .int .i64 c.Tag.Client]) hp2.get0 (by kernel_rfl)) .nil) (by kernel_rfl) (fun b14 => ?_)
        refine OPS.want (by kernel_rfl) ?_
        refine OPS.cons (opStep.call (some 12) [.agg #[.int .i64 c.Tag.Count, .int .i64 c.Tag.Client]] (by kernel_rfl) (r8_Zero c.Tag _) ?_)
        rintro _ w17 ⟨b20, rfl, hb21, hf18⟩
        refine ⟨_, rfl, ?_⟩
        have hp19 := hp2.step hf18
        refine OPS.batch 4 { wraps := [14, 15] } [] [2] [.bool (!b20)] .nil (by kernel_rfl) (fun b22 => ?_)
        refine OPS.nil ?_
        refine thn_n ?_
        exact ⟨!b20, trivial, Bp.of (Bp.not hb21) (by first | (simp only [h7, h10, iff_false, false_iff, iff_true, true_iff, Classical.not_not, and_true, true_and, and_false, false_and, or_true, true_or, or_false, false_or, not_true_eq_false, not_false_eq_true, and_self, or_self, iff_self]; done) | (simp [h7, h10]; done) | grind | (simp_all; done)), by kernel_rfl, hp19⟩
      · refine OPS.batch 0 {} [] [1, 5, 9] [.pointer (some ⟨g3, 0, none⟩), .bool true, .bool (!c.Open)] .nil (by kernel_rfl) (fun b11 => ?_)
        refine OPS.re [.pointer (some ⟨g3, 0, none⟩), .bool true, .bool true] (by rw [show (!c.Open) = true from (Bp.not Bp.var).tt h10]) ?_
        refine OPS.batch 7 { wraps := [14, 15] } [] [2] [.bool true] .nil (by kernel_rfl) (fun b12 => ?_)
        refine OPS.nil ?_
        refine thn_n ?_
        exact ⟨true, trivial, Bp.of Bp.t (by first | (simp only [h7, h10, iff_false, false_iff, iff_true, true_iff, Classical.not_not, and_true, true_and, and_false, false_and, or_true, true_or, or_false, false_or, not_true_eq_false, not_false_eq_true, and_self, or_self, iff_self]; done) | (simp [h7, h10]; done) | grind | (simp_all; done)), by kernel_rfl, hp2⟩
    · refine OPS.batch 0 {} [] [1, 5] [.pointer (some ⟨g3, 0, none⟩), .bool c.Put] .nil (by kernel_rfl) (fun b23 => ?_)
      refine OPS.re [.pointer (some ⟨g3, 0, none⟩), .bool false] (by rw [show c.Put = false from Bp.var.ff h7]) ?_
      refine OPS.batch 11 { wraps := [15] } [] [2] [.bool false] .nil (by kernel_rfl) (fun b24 => ?_)
      refine OPS.nil ?_
      refine thn_n ?_
      exact ⟨false, trivial, Bp.of Bp.f (by first | (simp only [h7, iff_false, false_iff, iff_true, true_iff, Classical.not_not, and_true, true_and, and_false, false_and, or_true, true_or, or_false, false_or, not_true_eq_false, not_false_eq_true, and_self, or_self, iff_self]; done) | (simp [h7]; done) | grind | (simp_all; done)), by kernel_rfl, hp2⟩
  rintro e27 w28 ⟨x25, hd30, hb26, hE31, hp29⟩
  obtain ⟨b32, rfl⟩ := toMk hE31
  clear hE31
  clear hd30
  refine WP.ret ?_
  refine bodyQ.of _ rfl [.bool x25] ⟨rfl, trivial⟩ ?_
  exact ⟨_, rfl, Bp.of hb26 (by simp only [ownA, tagZero] at *; first | grind | (simp_all; done) | (simp_all; grind)), hp29.fr⟩

theorem r21_wanted (l : List GCall) (a : Option Addr) (n c : Nat) (w : World) (hn : n = l.length) (hb : l.length ≤ 8796093022207) (hs : SlR w a n (l.flatMap GCall.cells)) (t : GTag) :
    Calls Try.prog 105 #[.slice a n c, GTag.val t] w (fun r_ w' => ∃ f_, r_ = .returned (.bool f_) ∧ Bp f_ (wan l l.length t) ∧ Fram Non w w') := by
  refine calls_of Try.func105 rfl 26 rfl (by simp) ?_
  have hp0 := Hp.init w
  have he0 : List.map (env0 [.slice a n c, GTag.val t]) [0, 1] = [.slice a n c, GTag.val t] := by kernel_rfl
  obtain ⟨b0, he0⟩ := toMk he0
  rw [he0]
  clear he0
  refine WP.seq ?_
  refine WP.region _ rfl (by kernel_rfl) ?_
  refine OPS.cons (opStep.box hp0 [.int .i64 t.Count, .int .i64 t.Client] (by kernel_rfl) (fun g3 w1 hp2 => ?_))
  refine OPS.batch 1 {} [] [0, 3] [.slice a n c, .pointer (some ⟨g3, 0, none⟩)] .nil (by kernel_rfl) (fun b4 => ?_)
  refine OPS.nil ?_
  refine thn_n ?_
  refine WP.seq ?_
  refine WP.seq ?_
  refine WP.pure {} [] [0, 3, 5] [.slice a n c, .pointer (some ⟨g3, 0, none⟩), .int .i64 0] .nil (by kernel_rfl) (fun b5 => ?_)
  refine thn_n ?_
  refine WP.block ?_
  refine WP.loop (fun mz_ e6 w7 => ∃ (k : Nat), mz_ = l.length - k ∧ (k ≤ l.length ∧ ∀ j, j < k → ¬ (rdC l[j]! ∧ l[j]!.Tag = t)) ∧ List.map e6 [0, 3, 5] = [.slice a n c, .pointer (some ⟨g3, 0, none⟩), .int .i64 (k : Int)] ∧ Hp w Non [Res.row g3 [.int .i64 t.Count, .int .i64 t.Client] 70] w7) (l.length - (0)) ⟨0, rfl, ⟨by omega, fun j hj => by omega⟩, by kernel_rfl, hp2⟩ ?_
  rintro _ e6 w7 ⟨k, rfl, hI9, hE10, hp8⟩
  obtain ⟨b11, rfl⟩ := toMk hE10
  clear hE10
  obtain ⟨pa, pb⟩ := hI9
  refine WP.seq ?_
  refine WP.seq ?_
  refine WP.pure {} [] [0, 3, 5, 9] [.slice a n c, .pointer (some ⟨g3, 0, none⟩), .int .i64 (k : Int), .bool (decide ((k : Int) < ((n : Nat) : Int)))] .nil (by kernel_rfl) (fun b12 => ?_)
  refine thn_n ?_
  refine WP.test (p := (k : Int) < ((n : Nat) : Int)) rfl Bp.dec (fun h13 => ?_) (fun h13 => ?_)
  · refine WP.skip ?_
    refine thn_n ?_
    refine WP.seq ?_
    refine WP.block ?_
    refine WP.cut (fun e43 w44 => ∃ (x41 : Bool), (True) ∧ Bp x41 ((rdC (l[k]!)) ∧ (((l[k]!.Tag.Count) = t.Count) ∧ ((l[k]!.Tag.Client) = t.Client))) ∧ List.map e43 [0, 3, 5, 25] = [.slice a n c, .pointer (some ⟨g3, 0, none⟩), .int .i64 (k : Int), .bool x41] ∧ Hp w Non [Res.row g3 [.int .i64 t.Count, .int .i64 t.Client] 70] w44) ?_ ?_
    · have hp17 := hp8.drew
      refine WP.quiet (fun w15 => Hp w Non [Res.row g3 [.int .i64 t.Count, .int .i64 t.Client] 70] w15) (by kernel_rfl) hp17 ?_
      have hnehp17 : ∃ wz_, (fun w15 => Hp w Non [Res.row g3 [.int .i64 t.Count, .int .i64 t.Client] 70] w15) wz_ := ⟨_, hp17⟩
      have hy21 : (l)[k]? = some l[k]! := get_bang (by first | (omega) | (simp only [List.length_append, List.length_cons, List.length_nil]; omega) | (simp only [List.length_take, List.length_append, List.length_cons, List.length_nil]; omega))
      refine QOPS.batch 4 {} [GCall.val (l[k]!)] [0, 3, 5, 15] [.slice a n c, .pointer (some ⟨g3, 0, none⟩), .int .i64 (k : Int), GCall.val (l[k]!)] hnehp17 (fun w18 hp19 => QB.mk (.cons (show InB ((k : Int)) (n) from ⟨by omega, by omega⟩) (.cons ((hs.at hp19).some (by omega)) (.cons (Ld.add0 (Ld.elN (P := Try.prog) (t := 73) (hs.at hp19).rd 11 (fun _ => rfl) hy21 (o := 0) (cs := [.int .i64 (l[k]!.Client), .int .i64 (l[k]!.Op), .bool (l[k]!.Put), .string (l[k]!.Key), .slice (l[k]!.Value.a) (l[k]!.Value.n) (l[k]!.Value.c), .int .i64 (l[k]!.Status), .int .i64 (l[k]!.From), .int .i64 (l[k]!.To), .bool (l[k]!.Open), .int .i64 (l[k]!.Tag.Count), .int .i64 (l[k]!.Tag.Client)]) (by kernel_rfl))) .nil))) (by kernel_rfl)) (fun b22 => ?_)
      refine QOPS.call (some 16) [GCall.val (l[k]!)] (by kernel_rfl) (fun w23 hp24 => (r21_read (l[k]!) _).mono fun _ _ h => by obtain ⟨b, h1, h2, h3⟩ := h; exact ⟨by rw [h1, h2.eq_bo], hp24.step h3⟩) ?_
      refine QOPS.batch 1 {} [] [0, 3, 5, 17] [.slice a n c, .pointer (some ⟨g3, 0, none⟩), .int .i64 (k : Int), .bool (bo (rdC (l[k]!)))] hnehp17 (fun w25 hp26 => QB.mk .nil (by kernel_rfl)) (fun b27 => ?_)
      by_cases h28 : rdC (l[k]!)
      · refine QOPS.batch 0 {} [] [0, 3, 5, 17] [.slice a n c, .pointer (some ⟨g3, 0, none⟩), .int .i64 (k : Int), .bool (bo (rdC (l[k]!)))] hnehp17 (fun _ _ => QB.mk .nil (by kernel_rfl)) (fun b29 => ?_)
        refine QOPS.re [.slice a n c, .pointer (some ⟨g3, 0, none⟩), .int .i64 (k : Int), .bool true] (by rw [show (bo (rdC (l[k]!))) = true from Bp.bo.tt h28]) ?_
        refine QOPS.batch 8 { wraps := [25] } [.agg #[.int .i64 (l[k]!.Tag.Count), .int .i64 (l[k]!.Tag.Client)], GTag.val t] [0, 3, 5, 25] [.slice a n c, .pointer (some ⟨g3, 0, none⟩), .int .i64 (k : Int), .bool ((decide ((l[k]!.Tag.Count) = t.Count)) && ((decide ((l[k]!.Tag.Client) = t.Client)) && true))] hnehp17 (fun w30 hp31 => QB.mk (.cons (show InB ((k : Int)) (n) from ⟨by omega, by omega⟩) (.cons ((hs.at hp31).some (by omega)) (.cons (Ld.elN (P := Try.prog) (t := 70) (hs.at hp31).rd 11 (fun _ => rfl) hy21 (o := 9) (cs := [.int .i64 (l[k]!.Tag.Count), .int .i64 (l[k]!.Tag.Client)]) (by kernel_rfl)) (.cons (show Ld Try.prog w30 70 ⟨g3, 0, none⟩ (GTag.val t) from Ld.rowN (cs := [.int .i64 t.Count, .int .i64 t.Client]) hp31.get0 (by kernel_rfl)) .nil)))) (by kernel_rfl)) (fun b32 => ?_)
        refine QOPS.nil (fun w33 hp34 => ?_)
        refine thn_n ?_
        exact ⟨(decide ((l[k]!.Tag.Count) = t.Count)) && ((decide ((l[k]!.Tag.Client) = t.Client)) && true), trivial, Bp.of (Bp.band Bp.dec (Bp.band1 Bp.dec)) (by first | (simp only [h28, iff_false, false_iff, iff_true, true_iff, Classical.not_not, and_true, true_and, and_false, false_and, or_true, true_or, or_false, false_or, not_true_eq_false, not_false_eq_true, and_self, or_self, iff_self]; done) | (simp [h28]; done) | grind | (simp_all; done)), by kernel_rfl, hp34⟩
      · refine QOPS.batch 0 {} [] [0, 3, 5, 17] [.slice a n c, .pointer (some ⟨g3, 0, none⟩), .int .i64 (k : Int), .bool (bo (rdC (l[k]!)))] hnehp17 (fun _ _ => QB.mk .nil (by kernel_rfl)) (fun b35 => ?_)
        refine QOPS.re [.slice a n c, .pointer (some ⟨g3, 0, none⟩), .int .i64 (k : Int), .bool false] (by rw [show (bo (rdC (l[k]!))) = false from Bp.bo.ff h28]) ?_
        refine QOPS.batch 8 { wraps := [25] } [] [0, 3, 5, 25] [.slice a n c, .pointer (some ⟨g3, 0, none⟩), .int .i64 (k : Int), .bool false] hnehp17 (fun w36 hp37 => QB.mk .nil (by kernel_rfl)) (fun b38 => ?_)
        refine QOPS.nil (fun w39 hp40 => ?_)
        refine thn_n ?_
        exact ⟨false, trivial, Bp.of Bp.f (by first | (simp only [h28, iff_false, false_iff, iff_true, true_iff, Classical.not_not, and_true, true_and, and_false, false_and, or_true, true_or, or_false, false_or, not_true_eq_false, not_false_eq_true, and_self, or_self, iff_self]; done) | (simp [h28]; done) | grind | (simp_all; done)), by kernel_rfl, hp40⟩
    rintro e43 w44 ⟨x41, hd46, hb42, hE47, hp45⟩
    obtain ⟨b48, rfl⟩ := toMk hE47
    clear hE47
    clear hd46
    refine WP.test (p := (rdC (l[k]!)) ∧ (((l[k]!.Tag.Count) = t.Count) ∧ ((l[k]!.Tag.Client) = t.Client))) rfl hb42 (fun h49 => ?_) (fun h49 => ?_)
    · refine WP.seq ?_
      refine WP.pure {} [] [4] [.bool true] .nil (by kernel_rfl) (fun b50 => ?_)
      refine thn_n ?_
      refine WP.ret ?_
      refine blk_r ?_
      refine thn_r ?_
      refine thn_r ?_
      refine blk_r ?_
      refine thn_r ?_
      refine bodyQ.of _ rfl [.bool true] ⟨rfl, trivial⟩ ?_
      exact ⟨_, rfl, Bp.of Bp.t (by simp only [true_iff]; refine ⟨k, by omega, ?_, ?_⟩; have h_ := h49; grind; rw [tagEq]; have h_ := h49; grind), hp45.fr⟩
    · refine WP.skip ?_
      refine blk_n ?_
      refine thn_n ?_
      refine WP.pure {} [] [0, 3, 5] [.slice a n c, .pointer (some ⟨g3, 0, none⟩), .int .i64 ((k : Int) + 1)] (.cons (show Rng .i64 ((k : Int) + 1) from Rng.i64 (by omega)) .nil) (by kernel_rfl) (fun b51 => ?_)
      refine thn_n ?_
      exact ⟨l.length - (k + 1), (by omega), k + 1, rfl, ⟨by omega, fun j hj => by by_cases e : j = k; subst e; rw [tagEq]; have h_ := h49; grind; exact pb j (by omega)⟩, by kernel_rfl, hp45⟩
  · refine WP.exit ?_
    refine thn_x ?_
    refine thn_x ?_
    refine blk_hit ?_
    refine thn_n ?_
    refine WP.seq ?_
    refine WP.pure {} [] [4] [.bool false] .nil (by kernel_rfl) (fun b52 => ?_)
    refine thn_n ?_
    refine WP.ret ?_
    refine bodyQ.of _ rfl [.bool false] ⟨rfl, trivial⟩ ?_
    exact ⟨_, rfl, Bp.of Bp.f (by simp only [false_iff]; rintro ⟨j, h1, h2, h3⟩; exact pb j (by omega) ⟨h2, h3⟩), hp8.fr⟩

theorem r21_known (l : List GCall) (a : Option Addr) (n c : Nat) (w : World) (hn : n = l.length) (hb : l.length ≤ 8796093022207) (hs : SlR w a n (l.flatMap GCall.cells)) (t : GTag) :
    Calls Try.prog 106 #[.slice a n c, GTag.val t] w (fun r_ w' => ∃ f_, r_ = .returned (.bool f_) ∧ Bp f_ (knw l t) ∧ Fram Non w w') := by
  refine calls_of Try.func106 rfl 26 rfl (by simp) ?_
  have hp0 := Hp.init w
  have he0 : List.map (env0 [.slice a n c, GTag.val t]) [0, 1] = [.slice a n c, GTag.val t] := by kernel_rfl
  obtain ⟨b0, he0⟩ := toMk he0
  rw [he0]
  clear he0
  refine WP.seq ?_
  refine WP.region _ rfl (by kernel_rfl) ?_
  refine OPS.cons (opStep.box hp0 [.int .i64 t.Count, .int .i64 t.Client] (by kernel_rfl) (fun g3 w1 hp2 => ?_))
  refine OPS.batch 1 {} [] [0, 3] [.slice a n c, .pointer (some ⟨g3, 0, none⟩)] .nil (by kernel_rfl) (fun b4 => ?_)
  refine OPS.nil ?_
  refine thn_n ?_
  refine WP.seq ?_
  refine WP.seq ?_
  refine WP.pure {} [] [0, 3, 5] [.slice a n c, .pointer (some ⟨g3, 0, none⟩), .int .i64 0] .nil (by kernel_rfl) (fun b5 => ?_)
  refine thn_n ?_
  refine WP.block ?_
  refine WP.loop (fun mz_ e6 w7 => ∃ (k : Nat), mz_ = l.length - k ∧ (k ≤ l.length ∧ ∀ j, j < k → ¬ (ownA l[j]! ∧ l[j]!.Tag = t)) ∧ List.map e6 [0, 3, 5] = [.slice a n c, .pointer (some ⟨g3, 0, none⟩), .int .i64 (k : Int)] ∧ Hp w Non [Res.row g3 [.int .i64 t.Count, .int .i64 t.Client] 70] w7) (l.length - (0)) ⟨0, rfl, ⟨by omega, fun j hj => by omega⟩, by kernel_rfl, hp2⟩ ?_
  rintro _ e6 w7 ⟨k, rfl, hI9, hE10, hp8⟩
  obtain ⟨b11, rfl⟩ := toMk hE10
  clear hE10
  obtain ⟨pa, pb⟩ := hI9
  refine WP.seq ?_
  refine WP.seq ?_
  refine WP.pure {} [] [0, 3, 5, 9] [.slice a n c, .pointer (some ⟨g3, 0, none⟩), .int .i64 (k : Int), .bool (decide ((k : Int) < ((n : Nat) : Int)))] .nil (by kernel_rfl) (fun b12 => ?_)
  refine thn_n ?_
  refine WP.test (p := (k : Int) < ((n : Nat) : Int)) rfl Bp.dec (fun h13 => ?_) (fun h13 => ?_)
  · refine WP.skip ?_
    refine thn_n ?_
    refine WP.seq ?_
    refine WP.block ?_
    refine WP.cut (fun e43 w44 => ∃ (x41 : Bool), (True) ∧ Bp x41 ((ownA (l[k]!)) ∧ (((l[k]!.Tag.Count) = t.Count) ∧ ((l[k]!.Tag.Client) = t.Client))) ∧ List.map e43 [0, 3, 5, 25] = [.slice a n c, .pointer (some ⟨g3, 0, none⟩), .int .i64 (k : Int), .bool x41] ∧ Hp w Non [Res.row g3 [.int .i64 t.Count, .int .i64 t.Client] 70] w44) ?_ ?_
    · have hp17 := hp8.drew
      refine WP.quiet (fun w15 => Hp w Non [Res.row g3 [.int .i64 t.Count, .int .i64 t.Client] 70] w15) (by kernel_rfl) hp17 ?_
      have hnehp17 : ∃ wz_, (fun w15 => Hp w Non [Res.row g3 [.int .i64 t.Count, .int .i64 t.Client] 70] w15) wz_ := ⟨_, hp17⟩
      have hy21 : (l)[k]? = some l[k]! := get_bang (by first | (omega) | (simp only [List.length_append, List.length_cons, List.length_nil]; omega) | (simp only [List.length_take, List.length_append, List.length_cons, List.length_nil]; omega))
      refine QOPS.batch 4 {} [GCall.val (l[k]!)] [0, 3, 5, 15] [.slice a n c, .pointer (some ⟨g3, 0, none⟩), .int .i64 (k : Int), GCall.val (l[k]!)] hnehp17 (fun w18 hp19 => QB.mk (.cons (show InB ((k : Int)) (n) from ⟨by omega, by omega⟩) (.cons ((hs.at hp19).some (by omega)) (.cons (Ld.add0 (Ld.elN (P := Try.prog) (t := 73) (hs.at hp19).rd 11 (fun _ => rfl) hy21 (o := 0) (cs := [.int .i64 (l[k]!.Client), .int .i64 (l[k]!.Op), .bool (l[k]!.Put), .string (l[k]!.Key), .slice (l[k]!.Value.a) (l[k]!.Value.n) (l[k]!.Value.c), .int .i64 (l[k]!.Status), .int .i64 (l[k]!.From), .int .i64 (l[k]!.To), .bool (l[k]!.Open), .int .i64 (l[k]!.Tag.Count), .int .i64 (l[k]!.Tag.Client)]) (by kernel_rfl))) .nil))) (by kernel_rfl)) (fun b22 => ?_)
      refine QOPS.call (some 16) [GCall.val (l[k]!)] (by kernel_rfl) (fun w23 hp24 => (r21_own (l[k]!) _).mono fun _ _ h => by obtain ⟨b, h1, h2, h3⟩ := h; exact ⟨by rw [h1, h2.eq_bo], hp24.step h3⟩) ?_
      refine QOPS.batch 1 {} [] [0, 3, 5, 17] [.slice a n c, .pointer (some ⟨g3, 0, none⟩), .int .i64 (k : Int), .bool (bo (ownA (l[k]!)))] hnehp17 (fun w25 hp26 => QB.mk .nil (by kernel_rfl)) (fun b27 => ?_)
      by_cases h28 : ownA (l[k]!)
      · refine QOPS.batch 0 {} [] [0, 3, 5, 17] [.slice a n c, .pointer (some ⟨g3, 0, none⟩), .int .i64 (k : Int), .bool (bo (ownA (l[k]!)))] hnehp17 (fun _ _ => QB.mk .nil (by kernel_rfl)) (fun b29 => ?_)
        refine QOPS.re [.slice a n c, .pointer (some ⟨g3, 0, none⟩), .int .i64 (k : Int), .bool true] (by rw [show (bo (ownA (l[k]!))) = true from Bp.bo.tt h28]) ?_
        refine QOPS.batch 8 { wraps := [25] } [.agg #[.int .i64 (l[k]!.Tag.Count), .int .i64 (l[k]!.Tag.Client)], GTag.val t] [0, 3, 5, 25] [.slice a n c, .pointer (some ⟨g3, 0, none⟩), .int .i64 (k : Int), .bool ((decide ((l[k]!.Tag.Count) = t.Count)) && ((decide ((l[k]!.Tag.Client) = t.Client)) && true))] hnehp17 (fun w30 hp31 => QB.mk (.cons (show InB ((k : Int)) (n) from ⟨by omega, by omega⟩) (.cons ((hs.at hp31).some (by omega)) (.cons (Ld.elN (P := Try.prog) (t := 70) (hs.at hp31).rd 11 (fun _ => rfl) hy21 (o := 9) (cs := [.int .i64 (l[k]!.Tag.Count), .int .i64 (l[k]!.Tag.Client)]) (by kernel_rfl)) (.cons (show Ld Try.prog w30 70 ⟨g3, 0, none⟩ (GTag.val t) from Ld.rowN (cs := [.int .i64 t.Count, .int .i64 t.Client]) hp31.get0 (by kernel_rfl)) .nil)))) (by kernel_rfl)) (fun b32 => ?_)
        refine QOPS.nil (fun w33 hp34 => ?_)
        refine thn_n ?_
        exact ⟨(decide ((l[k]!.Tag.Count) = t.Count)) && ((decide ((l[k]!.Tag.Client) = t.Client)) && true), trivial, Bp.of (Bp.band Bp.dec (Bp.band1 Bp.dec)) (by first | (simp only [h28, iff_false, false_iff, iff_true, true_iff, Classical.not_not, and_true, true_and, and_false, false_and, or_true, true_or, or_false, false_or, not_true_eq_false, not_false_eq_true, and_self, or_self, iff_self]; done) | (simp [h28]; done) | grind | (simp_all; done)), by kernel_rfl, hp34⟩
      · refine QOPS.batch 0 {} [] [0, 3, 5, 17] [.slice a n c, .pointer (some ⟨g3, 0, none⟩), .int .i64 (k : Int), .bool (bo (ownA (l[k]!)))] hnehp17 (fun _ _ => QB.mk .nil (by kernel_rfl)) (fun b35 => ?_)
        refine QOPS.re [.slice a n c, .pointer (some ⟨g3, 0, none⟩), .int .i64 (k : Int), .bool false] (by rw [show (bo (ownA (l[k]!))) = false from Bp.bo.ff h28]) ?_
        refine QOPS.batch 8 { wraps := [25] } [] [0, 3, 5, 25] [.slice a n c, .pointer (some ⟨g3, 0, none⟩), .int .i64 (k : Int), .bool false] hnehp17 (fun w36 hp37 => QB.mk .nil (by kernel_rfl)) (fun b38 => ?_)
        refine QOPS.nil (fun w39 hp40 => ?_)
        refine thn_n ?_
        exact ⟨false, trivial, Bp.of Bp.f (by first | (simp only [h28, iff_false, false_iff, iff_true, true_iff, Classical.not_not, and_true, true_and, and_false, false_and, or_true, true_or, or_false, false_or, not_true_eq_false, not_false_eq_true, and_self, or_self, iff_self]; done) | (simp [h28]; done) | grind | (simp_all; done)), by kernel_rfl, hp40⟩
    rintro e43 w44 ⟨x41, hd46, hb42, hE47, hp45⟩
    obtain ⟨b48, rfl⟩ := toMk hE47
    clear hE47
    clear hd46
    refine WP.test (p := (ownA (l[k]!)) ∧ (((l[k]!.Tag.Count) = t.Count) ∧ ((l[k]!.Tag.Client) = t.Client))) rfl hb42 (fun h49 => ?_) (fun h49 => ?_)
    · refine WP.seq ?_
      refine WP.pure {} [] [4] [.bool true] .nil (by kernel_rfl) (fun b50 => ?_)
      refine thn_n ?_
      refine WP.ret ?_
      refine blk_r ?_
      refine thn_r ?_
      refine thn_r ?_
      refine blk_r ?_
      refine thn_r ?_
      refine bodyQ.of _ rfl [.bool true] ⟨rfl, trivial⟩ ?_
      exact ⟨_, rfl, Bp.of Bp.t (by simp only [true_iff]; refine ⟨k, by omega, ?_, ?_⟩; have h_ := h49; grind; rw [tagEq]; have h_ := h49; grind), hp45.fr⟩
    · refine WP.skip ?_
      refine blk_n ?_
      refine thn_n ?_
      refine WP.pure {} [] [0, 3, 5] [.slice a n c, .pointer (some ⟨g3, 0, none⟩), .int .i64 ((k : Int) + 1)] (.cons (show Rng .i64 ((k : Int) + 1) from Rng.i64 (by omega)) .nil) (by kernel_rfl) (fun b51 => ?_)
      refine thn_n ?_
      exact ⟨l.length - (k + 1), (by omega), k + 1, rfl, ⟨by omega, fun j hj => by by_cases e : j = k; subst e; rw [tagEq]; have h_ := h49; grind; exact pb j (by omega)⟩, by kernel_rfl, hp45⟩
  · refine WP.exit ?_
    refine thn_x ?_
    refine thn_x ?_
    refine blk_hit ?_
    refine thn_n ?_
    refine WP.seq ?_
    refine WP.pure {} [] [4] [.bool false] .nil (by kernel_rfl) (fun b52 => ?_)
    refine thn_n ?_
    refine WP.ret ?_
    refine bodyQ.of _ rfl [.bool false] ⟨rfl, trivial⟩ ?_
    exact ⟨_, rfl, Bp.of Bp.f (by simp only [false_iff]; rintro ⟨j, h1, h2, h3⟩; exact pb j (by omega) ⟨h2, h3⟩), hp8.fr⟩

theorem r21_ahead (l : List GCall) (a : Option Addr) (n c : Nat) (w : World) (hn : n = l.length) (hb : l.length ≤ 8796093022207) (hs : SlR w a n (l.flatMap GCall.cells)) (i j : Int) (hi : 0 ≤ i ∧ i < (l.length : Int)) (hj : 0 ≤ j ∧ j < (l.length : Int)) :
    Calls Try.prog 108 #[.slice a n c, .int .i64 i, .int .i64 j] w (fun r_ w' => ∃ f_, r_ = .returned (.bool f_) ∧ Bp f_ (stR (frLt l) i j) ∧ Fram Non w w') := by
  refine calls_of Try.func108 rfl 36 rfl (by simp) ?_
  have hp0 := Hp.init w
  have he0 : List.map (env0 [.slice a n c, .int .i64 i, .int .i64 j]) [0, 1, 2] = [.slice a n c, .int .i64 i, .int .i64 j] := by kernel_rfl
  obtain ⟨b0, he0⟩ := toMk he0
  rw [he0]
  clear he0
  refine WP.seq ?_
  refine WP.pure {} [] [0, 1, 2] [.slice a n c, .int .i64 i, .int .i64 j] .nil (by kernel_rfl) (fun b1 => ?_)
  refine thn_n ?_
  refine WP.cut (fun e39 w40 => ∃ (x37 : Bool), (True) ∧ Bp x37 ((((l[(i : Int).toNat]!.From) < (l[(j : Int).toNat]!.From))) ∨ ((¬ ((l[(i : Int).toNat]!.From) < (l[(j : Int).toNat]!.From))) ∧ ((l[(i : Int).toNat]!.From) = (l[(j : Int).toNat]!.From)) ∧ (i < j))) ∧ List.map e39 [6] = [.bool x37] ∧ Hp w Non [] w40) ?_ ?_
  · have hp5 := hp0.drew
    refine WP.quiet (fun w3 => Hp w Non [] w3) (by kernel_rfl) hp5 ?_
    have hnehp5 : ∃ wz_, (fun w3 => Hp w Non [] w3) wz_ := ⟨_, hp5⟩
    have hy9 : (l)[(i : Int).toNat]? = some l[(i : Int).toNat]! := get_bang (by first | (omega) | (simp only [List.length_append, List.length_cons, List.length_nil]; omega) | (simp only [List.length_take, List.length_append, List.length_cons, List.length_nil]; omega))
    have hy11 : (l)[(j : Int).toNat]? = some l[(j : Int).toNat]! := get_bang (by first | (omega) | (simp only [List.length_append, List.length_cons, List.length_nil]; omega) | (simp only [List.length_take, List.length_append, List.length_cons, List.length_nil]; omega))
    refine QOPS.batch 12 {} [.int .i64 (l[(i : Int).toNat]!.From), .int .i64 (l[(j : Int).toNat]!.From)] [0, 1, 2, 18] [.slice a n c, .int .i64 i, .int .i64 j, .bool (decide ((l[(i : Int).toNat]!.From) < (l[(j : Int).toNat]!.From)))] hnehp5 (fun w6 hp7 => QB.mk (.cons (show InB (i) (n) from ⟨by omega, by omega⟩) (.cons ((hs.at hp7).some (by omega)) (.cons (Ld.el1 (P := Try.prog) (t := 3) (hs.at hp7).rd 11 (fun _ => rfl) hy9 (o := 6) (v := .int .i64 (l[(i : Int).toNat]!.From)) (by kernel_rfl)) (.cons (show InB (j) (n) from ⟨by omega, by omega⟩) (.cons ((hs.at hp7).some (by omega)) (.cons (Ld.el1 (P := Try.prog) (t := 3) (hs.at hp7).rd 11 (fun _ => rfl) hy11 (o := 6) (v := .int .i64 (l[(j : Int).toNat]!.From)) (by kernel_rfl)) .nil)))))) (by kernel_rfl)) (fun b12 => ?_)
    by_cases h13 : (l[(i : Int).toNat]!.From) < (l[(j : Int).toNat]!.From)
    · refine QOPS.batch 0 {} [] [0, 1, 2, 18] [.slice a n c, .int .i64 i, .int .i64 j, .bool (decide ((l[(i : Int).toNat]!.From) < (l[(j : Int).toNat]!.From)))] hnehp5 (fun _ _ => QB.mk .nil (by kernel_rfl)) (fun b14 => ?_)
      refine QOPS.re [.slice a n c, .int .i64 i, .int .i64 j, .bool true] (by rw [show (decide ((l[(i : Int).toNat]!.From) < (l[(j : Int).toNat]!.From))) = true from Bp.dec.tt h13]) ?_
      refine QOPS.batch 18 { wraps := [35] } [] [6] [.bool true] hnehp5 (fun w15 hp16 => QB.mk .nil (by kernel_rfl)) (fun b17 => ?_)
      refine QOPS.nil (fun w18 hp19 => ?_)
      refine thn_n ?_
      exact ⟨true, trivial, Bp.of Bp.t (by first | (simp only [h13, iff_false, false_iff, iff_true, true_iff, Classical.not_not, and_true, true_and, and_false, false_and, or_true, true_or, or_false, false_or, not_true_eq_false, not_false_eq_true, and_self, or_self, iff_self]; done) | (simp [h13]; done) | grind | (simp_all; done)), by kernel_rfl, hp19⟩
    · refine QOPS.batch 0 {} [] [0, 1, 2, 18] [.slice a n c, .int .i64 i, .int .i64 j, .bool (decide ((l[(i : Int).toNat]!.From) < (l[(j : Int).toNat]!.From)))] hnehp5 (fun _ _ => QB.mk .nil (by kernel_rfl)) (fun b20 => ?_)
      refine QOPS.re [.slice a n c, .int .i64 i, .int .i64 j, .bool false] (by rw [show (decide ((l[(i : Int).toNat]!.From) < (l[(j : Int).toNat]!.From))) = false from Bp.dec.ff h13]) ?_
      refine QOPS.batch 12 {} [.int .i64 (l[(i : Int).toNat]!.From), .int .i64 (l[(j : Int).toNat]!.From)] [1, 2, 18, 30] [.int .i64 i, .int .i64 j, .bool false, .bool (decide ((l[(i : Int).toNat]!.From) = (l[(j : Int).toNat]!.From)))] hnehp5 (fun w21 hp22 => QB.mk (.cons (show InB (i) (n) from ⟨by omega, by omega⟩) (.cons ((hs.at hp22).some (by omega)) (.cons (Ld.el1 (P := Try.prog) (t := 3) (hs.at hp22).rd 11 (fun _ => rfl) hy9 (o := 6) (v := .int .i64 (l[(i : Int).toNat]!.From)) (by kernel_rfl)) (.cons (show InB (j) (n) from ⟨by omega, by omega⟩) (.cons ((hs.at hp22).some (by omega)) (.cons (Ld.el1 (P := Try.prog) (t := 3) (hs.at hp22).rd 11 (fun _ => rfl) hy11 (o := 6) (v := .int .i64 (l[(j : Int).toNat]!.From)) (by kernel_rfl)) .nil)))))) (by kernel_rfl)) (fun b23 => ?_)
      by_cases h24 : (l[(i : Int).toNat]!.From) = (l[(j : Int).toNat]!.From)
      · refine QOPS.batch 0 {} [] [1, 2, 18, 30] [.int .i64 i, .int .i64 j, .bool false, .bool (decide ((l[(i : Int).toNat]!.From) = (l[(j : Int).toNat]!.From)))] hnehp5 (fun _ _ => QB.mk .nil (by kernel_rfl)) (fun b25 => ?_)
        refine QOPS.re [.int .i64 i, .int .i64 j, .bool false, .bool true] (by rw [show (decide ((l[(i : Int).toNat]!.From) = (l[(j : Int).toNat]!.From))) = true from Bp.dec.tt h24]) ?_
        refine QOPS.batch 6 { wraps := [34, 35] } [] [6] [.bool (decide (i < j))] hnehp5 (fun w26 hp27 => QB.mk .nil (by kernel_rfl)) (fun b28 => ?_)
        refine QOPS.nil (fun w29 hp30 => ?_)
        refine thn_n ?_
        exact ⟨decide (i < j), trivial, Bp.of Bp.dec (by first | (simp only [h13, h24, iff_false, false_iff, iff_true, true_iff, Classical.not_not, and_true, true_and, and_false, false_and, or_true, true_or, or_false, false_or, not_true_eq_false, not_false_eq_true, and_self, or_self, iff_self]; done) | (simp [h13, h24]; done) | grind | (simp_all; done)), by kernel_rfl, hp30⟩
      · refine QOPS.batch 0 {} [] [1, 2, 18, 30] [.int .i64 i, .int .i64 j, .bool false, .bool (decide ((l[(i : Int).toNat]!.From) = (l[(j : Int).toNat]!.From)))] hnehp5 (fun _ _ => QB.mk .nil (by kernel_rfl)) (fun b31 => ?_)
        refine QOPS.re [.int .i64 i, .int .i64 j, .bool false, .bool false] (by rw [show (decide ((l[(i : Int).toNat]!.From) = (l[(j : Int).toNat]!.From))) = false from Bp.dec.ff h24]) ?_
        refine QOPS.batch 6 { wraps := [34, 35] } [] [6] [.bool false] hnehp5 (fun w32 hp33 => QB.mk .nil (by kernel_rfl)) (fun b34 => ?_)
        refine QOPS.nil (fun w35 hp36 => ?_)
        refine thn_n ?_
        exact ⟨false, trivial, Bp.of Bp.f (by first | (simp only [h13, h24, iff_false, false_iff, iff_true, true_iff, Classical.not_not, and_true, true_and, and_false, false_and, or_true, true_or, or_false, false_or, not_true_eq_false, not_false_eq_true, and_self, or_self, iff_self]; done) | (simp [h13, h24]; done) | grind | (simp_all; done)), by kernel_rfl, hp36⟩
  rintro e39 w40 ⟨x37, hd42, hb38, hE43, hp41⟩
  obtain ⟨b44, rfl⟩ := toMk hE43
  clear hE43
  clear hd42
  refine WP.ret ?_
  refine bodyQ.of _ rfl [.bool x37] ⟨rfl, trivial⟩ ?_
  exact ⟨_, rfl, Bp.of hb38 (by simp only [stR, frLt]; first | grind | omega), hp41.fr⟩

theorem r21_placed (w0 : World) (L : List Res) (l : List GCall) (a : Option Addr) (n c : Nat) (hn : n = l.length) (hb : l.length ≤ 8796093022207) (hs : SlR w0 a n (l.flatMap GCall.cells)) (s : List Int) (ao : Option Addr) (no co fr : Nat) (x : Int) (w : World) (hno : no = s.length) (hfr : fr ≤ s.length) (hx : 0 ≤ x ∧ x < (l.length : Int)) (hin : ∀ y ∈ s, 0 ≤ y ∧ y < (l.length : Int)) (hsl : s.length ≤ 8796093022207) (hp0 : Hp w0 Non (Res.own 3 1 (.slice ao no co) no (List.flatMap (fun (y : Int) => [Go.Value.int .i64 y]) s) :: L) w) :
    Calls Try.prog 80 #[.slice a n c, .slice ao no co, .int .i64 (fr : Int), .int .i64 x] w (fun r_ w' => ∃ a2 n2 c2 k, r_ = .returned (.slice a2 n2 c2) ∧ (fr ≤ k ∧ k ≤ s.length ∧ n2 = s.length + 1 ∧ (∀ j, k ≤ j → j < s.length → stR (frLt l) x s[j]!) ∧ (k = fr ∨ ¬ stR (frLt l) x s[k - 1]!)) ∧ Hp w0 Non (Res.own 3 1 (.slice a2 n2 c2) n2 (List.flatMap (fun (y : Int) => [Go.Value.int .i64 y]) (insL s k x)) :: L) w') := by
  refine calls_of Try.func80 rfl 54 rfl (by simp) ?_
  have he0 : List.map (env0 [.slice a n c, .slice ao no co, .int .i64 (fr : Int), .int .i64 x]) [0, 1, 2, 3] = [.slice a n c, .slice ao no co, .int .i64 (fr : Int), .int .i64 x] := by kernel_rfl
  obtain ⟨b0, he0⟩ := toMk he0
  rw [he0]
  clear he0
  refine WP.seq ?_
  refine WP.pure {} [] [0, 1, 2, 3] [.slice a n c, .slice ao no co, .int .i64 (fr : Int), .int .i64 x] .nil (by kernel_rfl) (fun b1 => ?_)
  refine thn_n ?_
  refine WP.seq ?_
  refine WP.region _ rfl (by kernel_rfl) ?_
  refine OPS.batch 2 {} [] [0, 2, 11, 12] [.slice a n c, .int .i64 (fr : Int), .slice ao no co, .int .i64 x] .nil (by kernel_rfl) (fun b2 => ?_)
  refine OPS.cons (opStep.buildSlice (E := 3) hp0 [.int .i64 x] (by kernel_rfl) (fun g5 w3 hp4 => ?_))
  refine OPS.cons (opStep.append1 [.int .i64 x] hp4 8 (by kernel_rfl) rfl rfl rfl (SlR.row (n := 1) hp4.get0 rfl).rd (List.all_eq_true.1 (by kernel_rfl)) (by decide) (by omega) (by omega) (fun a8 c9 w10 hp11 hn12 => ?_))
  rw [(show List.flatMap (fun (y : Int) => [Go.Value.int .i64 y]) s ++ [.int .i64 x] = List.flatMap (fun (y : Int) => [Go.Value.int .i64 y]) (s ++ [x]) from (List.flatMap_append (xs := s) (ys := [x])).symm)] at hp11
  refine OPS.batch 1 {} [] [0, 1, 2] [.slice a n c, .slice a8 (no + 1) c9, .int .i64 (fr : Int)] .nil (by kernel_rfl) (fun b13 => ?_)
  refine OPS.nil ?_
  refine thn_n ?_
  refine WP.seq ?_
  refine WP.seq ?_
  refine WP.pure { subs := [17] } [.int .i64 ((no : Nat) : Int)] [0, 1, 2, 9] [.slice a n c, .slice a8 (no + 1) c9, .int .i64 (fr : Int), .int .i64 ((no : Nat) : Int)] (.cons (show Rng .i64 (((no + 1 : Nat) : Int) - 1) from Rng.i64 (by omega)) (.cons (show (.int .i64 (((no + 1 : Nat) : Int) - 1) : Go.Value) = .int .i64 ((no : Nat) : Int) from congrArg (Value.int .i64) ((show ((no + 1 : Nat) : Int) - 1 = ((no : Nat) : Int) by omega))) .nil)) (by kernel_rfl) (fun b14 => ?_)
  refine thn_n ?_
  refine WP.block ?_
  refine WP.loop (fun mz_ e15 w16 => ∃ (k : Nat) (cur : List Int), mz_ = k - fr ∧ (fr ≤ k ∧ k ≤ s.length ∧ cur = insL s k x ∧ ∀ j, k ≤ j → j < s.length → stR (frLt l) x s[j]!) ∧ List.map e15 [0, 1, 2, 9] = [.slice a n c, .slice a8 (no + 1) c9, .int .i64 (fr : Int), .int .i64 ((k : Nat) : Int)] ∧ Hp w0 Non (Res.row g5 [.int .i64 x] 3 :: Res.own 3 1 (.slice a8 (no + 1) c9) (no + 1) (List.flatMap (fun (y : Int) => [Go.Value.int .i64 y]) cur) :: L) w16) ((no) - fr) ⟨no, s ++ [x], rfl, ⟨by omega, by omega, by rw [show no = s.length from by omega]; exact ins_end.symm, fun j h1 h2 => by omega⟩, by kernel_rfl, hp11⟩ ?_
  rintro _ e15 w16 ⟨k, cur, rfl, hI18, hE19, hp17⟩
  obtain ⟨b20, rfl⟩ := toMk hE19
  clear hE19
  obtain ⟨pa, pb, pc, pd⟩ := hI18
  have c0 : cur[k]! = x := by rw [pc]; exact ins_get0 pb
  have c1 : 0 < k → cur[k - 1]! = s[k - 1]! := fun h => by rw [pc]; exact ins_get1 h pb
  have c2 : 0 < k → 0 ≤ s[k - 1]! ∧ s[k - 1]! < (l.length : Int) := fun h => hin _ (List.mem_of_getElem? (get_bang (by omega)))
  have c3 : cur.length = s.length + 1 := by rw [pc]; exact ins_len pb
  refine WP.seq ?_
  refine WP.cut (fun e52 w53 => ∃ (x50 : Bool), (True) ∧ Bp x50 (((fr : Int) < ((k : Nat) : Int)) ∧ (stR (frLt l) (cur[k]!) (cur[(k - 1)]!))) ∧ List.map e52 [0, 1, 2, 9, 33] = [.slice a n c, .slice a8 (no + 1) c9, .int .i64 (fr : Int), .int .i64 ((k : Nat) : Int), .bool x50] ∧ Hp w0 Non (Res.row g5 [.int .i64 x] 3 :: Res.own 3 1 (.slice a8 (no + 1) c9) (no + 1) (List.flatMap (fun (y : Int) => [Go.Value.int .i64 y]) cur) :: L) w53) ?_ ?_
  · have hp24 := hp17.drew
    refine WP.quiet (fun w22 => Hp w0 Non (Res.row g5 [.int .i64 x] 3 :: Res.own 3 1 (.slice a8 (no + 1) c9) (no + 1) (List.flatMap (fun (y : Int) => [Go.Value.int .i64 y]) cur) :: L) w22) (by kernel_rfl) hp24 ?_
    have hnehp24 : ∃ wz_, (fun w22 => Hp w0 Non (Res.row g5 [.int .i64 x] 3 :: Res.own 3 1 (.slice a8 (no + 1) c9) (no + 1) (List.flatMap (fun (y : Int) => [Go.Value.int .i64 y]) cur) :: L) w22) wz_ := ⟨_, hp24⟩
    refine QOPS.batch 4 {} [] [0, 1, 2, 9, 21] [.slice a n c, .slice a8 (no + 1) c9, .int .i64 (fr : Int), .int .i64 ((k : Nat) : Int), .bool (decide ((fr : Int) < ((k : Nat) : Int)))] hnehp24 (fun w25 hp26 => QB.mk .nil (by kernel_rfl)) (fun b27 => ?_)
    by_cases h28 : (fr : Int) < ((k : Nat) : Int)
    · refine QOPS.batch 0 {} [] [0, 1, 2, 9, 21] [.slice a n c, .slice a8 (no + 1) c9, .int .i64 (fr : Int), .int .i64 ((k : Nat) : Int), .bool (decide ((fr : Int) < ((k : Nat) : Int)))] hnehp24 (fun _ _ => QB.mk .nil (by kernel_rfl)) (fun b29 => ?_)
      refine QOPS.re [.slice a n c, .slice a8 (no + 1) c9, .int .i64 (fr : Int), .int .i64 ((k : Nat) : Int), .bool true] (by rw [show (decide ((fr : Int) < ((k : Nat) : Int))) = true from Bp.dec.tt h28]) ?_
      have := own_flat (sz := 1) (fun _ => rfl) (by decide) hp24.get1
      have hy33 : (cur)[k]? = some cur[k]! := get_bang (by first | (omega) | (simp only [List.length_append, List.length_cons, List.length_nil]; omega) | (simp only [List.length_take, List.length_append, List.length_cons, List.length_nil]; omega))
      have := own_flat (sz := 1) (fun _ => rfl) (by decide) hp24.get1
      have hy35 : (cur)[(k - 1)]? = some cur[(k - 1)]! := get_bang (by first | (omega) | (simp only [List.length_append, List.length_cons, List.length_nil]; omega) | (simp only [List.length_take, List.length_append, List.length_cons, List.length_nil]; omega))
      refine QOPS.batch 10 { subs := [29] } [.int .i64 (cur[k]!), .int .i64 ((k - 1 : Nat) : Int), .int .i64 (cur[(k - 1)]!)] [0, 1, 2, 9, 21, 22, 26, 31] [.slice a n c, .slice a8 (no + 1) c9, .int .i64 (fr : Int), .int .i64 ((k : Nat) : Int), .bool true, .slice a n c, .int .i64 (cur[k]!), .int .i64 (cur[(k - 1)]!)] hnehp24 (fun w30 hp31 => QB.mk (.cons (show InB (((k : Nat) : Int)) (no + 1) from ⟨by omega, by omega⟩) (.cons ((SlR.own (hp31.get1)).some (by omega)) (.cons (Ld.add0 (Ld.el1 (P := Try.prog) (t := 3) (SlR.own (hp31.get1)).rd 1 (fun _ => rfl) hy33 (o := 0) (v := .int .i64 (cur[k]!)) (by kernel_rfl))) (.cons (show Rng .i64 (((k : Nat) : Int) - 1) from Rng.i64 (by omega)) (.cons (show (.int .i64 (((k : Nat) : Int) - 1) : Go.Value) = .int .i64 ((k - 1 : Nat) : Int) from congrArg (Value.int .i64) ((show ((k : Nat) : Int) - 1 = ((k - 1 : Nat) : Int) by omega))) (.cons (show InB (((k - 1 : Nat) : Int)) (no + 1) from ⟨by omega, by omega⟩) (.cons ((SlR.own (hp31.get1)).some (by omega)) (.cons (Ld.add0 (Ld.el1 (P := Try.prog) (t := 3) (SlR.own (hp31.get1)).rd 1 (fun _ => rfl) hy35 (o := 0) (v := .int .i64 (cur[(k - 1)]!)) (by kernel_rfl))) .nil)))))))) (by kernel_rfl)) (fun b36 => ?_)
      refine QOPS.call (some 32) [.slice a n c, .int .i64 (cur[k]!), .int .i64 (cur[(k - 1)]!)] (by kernel_rfl) (fun w37 hp38 => (r21_ahead l _ _ _ _ (by omega) (by omega) (hs.at hp38) (cur[k]!) (cur[(k - 1)]!) (by omega) (by omega)).mono fun _ _ h => by obtain ⟨b, h1, h2, h3⟩ := h; exact ⟨by rw [h1, h2.eq_bo], hp38.step h3⟩) ?_
      refine QOPS.batch 1 { wraps := [33] } [] [0, 1, 2, 9, 33] [.slice a n c, .slice a8 (no + 1) c9, .int .i64 (fr : Int), .int .i64 ((k : Nat) : Int), .bool (bo (stR (frLt l) (cur[k]!) (cur[(k - 1)]!)))] hnehp24 (fun w39 hp40 => QB.mk .nil (by kernel_rfl)) (fun b41 => ?_)
      refine QOPS.nil (fun w42 hp43 => ?_)
      refine thn_n ?_
      exact ⟨bo (stR (frLt l) (cur[k]!) (cur[(k - 1)]!)), trivial, Bp.of Bp.bo (by first | (simp only [h28, iff_false, false_iff, iff_true, true_iff, Classical.not_not, and_true, true_and, and_false, false_and, or_true, true_or, or_false, false_or, not_true_eq_false, not_false_eq_true, and_self, or_self, iff_self]; done) | (simp [h28]; done) | grind | (simp_all; done)), by kernel_rfl, hp43⟩
    · refine QOPS.batch 0 {} [] [0, 1, 2, 9, 21] [.slice a n c, .slice a8 (no + 1) c9, .int .i64 (fr : Int), .int .i64 ((k : Nat) : Int), .bool (decide ((fr : Int) < ((k : Nat) : Int)))] hnehp24 (fun _ _ => QB.mk .nil (by kernel_rfl)) (fun b44 => ?_)
      refine QOPS.re [.slice a n c, .slice a8 (no + 1) c9, .int .i64 (fr : Int), .int .i64 ((k : Nat) : Int), .bool false] (by rw [show (decide ((fr : Int) < ((k : Nat) : Int))) = false from Bp.dec.ff h28]) ?_
      refine QOPS.batch 12 { wraps := [33] } [] [0, 1, 2, 9, 33] [.slice a n c, .slice a8 (no + 1) c9, .int .i64 (fr : Int), .int .i64 ((k : Nat) : Int), .bool false] hnehp24 (fun w45 hp46 => QB.mk .nil (by kernel_rfl)) (fun b47 => ?_)
      refine QOPS.nil (fun w48 hp49 => ?_)
      refine thn_n ?_
      exact ⟨false, trivial, Bp.of Bp.f (by first | (simp only [h28, iff_false, false_iff, iff_true, true_iff, Classical.not_not, and_true, true_and, and_false, false_and, or_true, true_or, or_false, false_or, not_true_eq_false, not_false_eq_true, and_self, or_self, iff_self]; done) | (simp [h28]; done) | grind | (simp_all; done)), by kernel_rfl, hp49⟩
  rintro e52 w53 ⟨x50, hd55, hb51, hE56, hp54⟩
  obtain ⟨b57, rfl⟩ := toMk hE56
  clear hE56
  clear hd55
  refine WP.test (p := ((fr : Int) < ((k : Nat) : Int)) ∧ (stR (frLt l) (cur[k]!) (cur[(k - 1)]!))) rfl hb51 (fun h58 => ?_) (fun h58 => ?_)
  · refine WP.skip ?_
    refine thn_n ?_
    refine WP.seq ?_
    refine WP.block ?_
    refine WP.seq ?_
    have := own_flat (sz := 1) (fun _ => rfl) (by decide) hp54.get1
    have hy60 : (cur)[k]? = some cur[k]! := get_bang (by first | (omega) | (simp only [List.length_append, List.length_cons, List.length_nil]; omega) | (simp only [List.length_take, List.length_append, List.length_cons, List.length_nil]; omega))
    refine WP.pure {} [.int .i64 (cur[k]!)] [0, 1, 2, 9, 10] [.slice a n c, .slice a8 (no + 1) c9, .int .i64 (fr : Int), .int .i64 ((k : Nat) : Int), .int .i64 (cur[k]!)] (.cons (show InB (((k : Nat) : Int)) (no + 1) from ⟨by omega, by omega⟩) (.cons ((SlR.own (hp54.get1)).some (by omega)) (.cons (Ld.add0 (Ld.el1 (P := Try.prog) (t := 3) (SlR.own (hp54.get1)).rd 1 (fun _ => rfl) hy60 (o := 0) (v := .int .i64 (cur[k]!)) (by kernel_rfl))) .nil))) (by kernel_rfl) (fun b61 => ?_)
    refine thn_n ?_
    refine WP.seq ?_
    refine WP.region _ rfl (by kernel_rfl) ?_
    have := own_flat (sz := 1) (fun _ => rfl) (by decide) hp54.get1
    have hy65 : (cur)[(k - 1)]? = some cur[(k - 1)]! := get_bang (by first | (omega) | (simp only [List.length_append, List.length_cons, List.length_nil]; omega) | (simp only [List.length_take, List.length_append, List.length_cons, List.length_nil]; omega))
    refine OPS.batch 8 { subs := [44] } [.int .i64 ((k - 1 : Nat) : Int), .int .i64 (cur[(k - 1)]!)] [0, 1, 2, 9, 10, 46, 47] [.slice a n c, .slice a8 (no + 1) c9, .int .i64 (fr : Int), .int .i64 ((k : Nat) : Int), .int .i64 (cur[k]!), .int .i64 (cur[(k - 1)]!), .pointer (some ((adr a8).add (k * 1)))] (.cons (show Rng .i64 (((k : Nat) : Int) - 1) from Rng.i64 (by omega)) (.cons (show (.int .i64 (((k : Nat) : Int) - 1) : Go.Value) = .int .i64 ((k - 1 : Nat) : Int) from congrArg (Value.int .i64) ((show ((k : Nat) : Int) - 1 = ((k - 1 : Nat) : Int) by omega))) (.cons (show InB (((k - 1 : Nat) : Int)) (no + 1) from ⟨by omega, by omega⟩) (.cons ((SlR.own (hp54.get1)).some (by omega)) (.cons (Ld.add0 (Ld.el1 (P := Try.prog) (t := 3) (SlR.own (hp54.get1)).rd 1 (fun _ => rfl) hy65 (o := 0) (v := .int .i64 (cur[(k - 1)]!)) (by kernel_rfl))) (.cons (show InB (((k : Nat) : Int)) (no + 1) from ⟨by omega, by omega⟩) (.cons ((SlR.own (hp54.get1)).some (by omega)) .nil))))))) (by kernel_rfl) (fun b66 => ?_)
    have := own_flat (sz := 1) (fun _ => rfl) (by decide) hp54.get1
    try simp only [List.length_set] at this
    refine OPS.cons (opStep.storeOwn1 (k * 1) hp54 rfl [.int .i64 (cur[(k - 1)]!)] (by kernel_rfl) (by simp) (show k * 1 + 1 ≤ (no + 1) * 1 by omega) (fun w67 hp68 => ?_))
    have hp69 := hp68
    rw [show ow (List.flatMap (fun (y : Int) => [Go.Value.int .i64 y]) cur) (k * 1) [.int .i64 (cur[(k - 1)]!)] = List.flatMap (fun (y : Int) => [Go.Value.int .i64 y]) (cur.set k (cur[(k - 1)]!)) from ow_flat (sz := 1) (fun _ => rfl) (by first | (omega) | (simp only [List.length_set]; omega)) (cur[(k - 1)]!)] at hp69
    refine OPS.nil ?_
    refine thn_n ?_
    refine WP.region _ rfl (by kernel_rfl) ?_
    refine OPS.batch 5 { subs := [50] } [.int .i64 ((k - 1 : Nat) : Int)] [0, 1, 2, 9, 51, 52] [.slice a n c, .slice a8 (no + 1) c9, .int .i64 (fr : Int), .int .i64 ((k : Nat) : Int), .int .i64 (cur[k]!), .pointer (some ((adr a8).add ((k - 1) * 1)))] (.cons (show Rng .i64 (((k : Nat) : Int) - 1) from Rng.i64 (by omega)) (.cons (show (.int .i64 (((k : Nat) : Int) - 1) : Go.Value) = .int .i64 ((k - 1 : Nat) : Int) from congrArg (Value.int .i64) ((show ((k : Nat) : Int) - 1 = ((k - 1 : Nat) : Int) by omega))) (.cons (show InB (((k - 1 : Nat) : Int)) (no + 1) from ⟨by omega, by omega⟩) (.cons ((SlR.own (hp69.get1)).some (by omega)) .nil)))) (by kernel_rfl) (fun b70 => ?_)
    have := own_flat (sz := 1) (fun _ => rfl) (by decide) hp69.get1
    try simp only [List.length_set] at this
    refine OPS.cons (opStep.storeOwn1 ((k - 1) * 1) hp69 rfl [.int .i64 (cur[k]!)] (by kernel_rfl) (by simp) (show (k - 1) * 1 + 1 ≤ (no + 1) * 1 by omega) (fun w71 hp72 => ?_))
    have hp73 := hp72
    rw [show ow (List.flatMap (fun (y : Int) => [Go.Value.int .i64 y]) (cur.set k (cur[(k - 1)]!))) ((k - 1) * 1) [.int .i64 (cur[k]!)] = List.flatMap (fun (y : Int) => [Go.Value.int .i64 y]) ((cur.set k (cur[(k - 1)]!)).set (k - 1) (cur[k]!)) from ow_flat (sz := 1) (fun _ => rfl) (by first | (omega) | (simp only [List.length_set]; omega)) (cur[k]!)] at hp73
    refine OPS.nil ?_
    refine blk_n ?_
    refine thn_n ?_
    refine WP.pure { subs := [35] } [.int .i64 ((k - 1 : Nat) : Int)] [0, 1, 2, 9] [.slice a n c, .slice a8 (no + 1) c9, .int .i64 (fr : Int), .int .i64 ((k - 1 : Nat) : Int)] (.cons (show Rng .i64 (((k : Nat) : Int) - 1) from Rng.i64 (by omega)) (.cons (show (.int .i64 (((k : Nat) : Int) - 1) : Go.Value) = .int .i64 ((k - 1 : Nat) : Int) from congrArg (Value.int .i64) ((show ((k : Nat) : Int) - 1 = ((k - 1 : Nat) : Int) by omega))) .nil)) (by kernel_rfl) (fun b74 => ?_)
    refine thn_n ?_
    exact ⟨(k - 1) - fr, (by omega), k - 1, (cur.set k (cur[(k - 1)]!)).set (k - 1) (cur[k]!), rfl, ⟨by omega, by omega, by rw [c0, c1 (by omega), pc]; exact ins_swap (by omega) pb, fun j h1 h2 => by by_cases e : j = k - 1; subst e; rw [← c0, ← c1 (by omega)]; have h_ := h58; grind; exact pd j (by omega) h2⟩, by kernel_rfl, hp73⟩
  · refine WP.exit ?_
    refine thn_x ?_
    refine thn_x ?_
    refine blk_hit ?_
    refine thn_n ?_
    refine WP.seq ?_
    refine WP.pure {} [] [8] [.slice a8 (no + 1) c9] .nil (by kernel_rfl) (fun b75 => ?_)
    refine thn_n ?_
    refine WP.ret ?_
    refine bodyQ.of _ rfl [.slice a8 (no + 1) c9] ⟨rfl, trivial⟩ ?_
    refine ⟨_, _, _, k, rfl, ⟨pa, pb, by omega, pd, ?_⟩, ?_⟩
    · by_cases e : k = fr
      · exact .inl e
      · refine .inr (fun q => ?_)
        rw [← c0, ← c1 (by omega)] at q
        have h_ := h58
        grind
    · rw [← pc]; exact (hp54.sub (.cons _ (.cons_cons _ (.refl _))))

end Go.Proofs.Ytdahgdkadfdkeaa.K
