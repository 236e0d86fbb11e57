/- The walks of LinB: what each function computes. -/
import Derived.Test.YtdahgdkadfdkeaaProg
import Derived.Test.YtdahgdkadfdkeaaCoreO
import Derived.Test.YtdahgdkadfdkeaaTag
import Derived.Test.YtdahgdkadfdkeaaStr
import Derived.Test.YtdahgdkadfdkeaaBits
namespace Go.Proofs.Ytdahgdkadfdkeaa.K
open Go Go.Proofs Go.RowKit
set_option linter.unusedVariables false
set_option linter.unusedSimpArgs false
set_option maxRecDepth 20000
set_option maxHeartbeats 4000000

def mustC (c : GCall) : Prop := (c.Put = true ∧ ¬ c.Open = true) ∨ (¬ c.Put = true ∧ 0 ≤ c.To ∧ (c.Status = 0 ∨ c.Status = 76))
def partC (c : GCall) : Prop := mustC c ∨ c.Put = true
instance (c : GCall) : Decidable (mustC c) := by unfold mustC; exact inferInstance
instance (c : GCall) : Decidable (partC c) := by unfold partC; exact inferInstance
def explP (val : SlH → ByteArray) (l : List GCall) (c : GCall) (last : Int) : Prop := if c.Status = 76 then last < 0 else 0 ≤ last ∧ ∃ y, l[last.toNat]? = some y ∧ val y.Value = val c.Value

theorem linear_must (c : GCall) (w : World) :
    Calls Try.prog 94 #[GCall.val c] w (fun r_ w' => ∃ f_, r_ = .returned (.bool f_) ∧ Bp f_ (mustC c) ∧ Fram Non w w') := by
  refine calls_of Try.func94 rfl 21 rfl (by simp) ?_
  have hp0 := Hp.init w
  have he0 : List.map (env0 [GCall.val c]) [0] = [GCall.val c] := by kernel_rfl
  obtain ⟨b0, he0⟩ := toMk he0
  rw [he0]
  clear he0
  refine WP.seq ?_
  refine WP.region _ rfl (by kernel_rfl) ?_
  refine OPS.cons (opStep.box hp0 [.int .i64 c.Client, .int .i64 c.Op, .bool c.Put, .string c.Key, .slice c.Value.a c.Value.n c.Value.c, .int .i64 c.Status, .int .i64 c.From, .int .i64 c.To, .bool c.Open, .int .i64 c.Tag.Count, .int .i64 c.Tag.Client] (by kernel_rfl) (fun g3 w1 hp2 => ?_))
  refine OPS.batch 1 {} [] [1] [.pointer (some ⟨g3, 0, none⟩)] .nil (by kernel_rfl) (fun b4 => ?_)
  refine OPS.nil ?_
  refine thn_n ?_
  refine WP.seq ?_
  refine WP.seq ?_
  refine WP.pure {} [.bool c.Put] [1, 4] [.pointer (some ⟨g3, 0, none⟩), .bool c.Put] (.cons (Ld.row1 (P := Try.prog) (t := 4) (o := 2) (v := .bool c.Put) hp2.get0 (by kernel_rfl)) .nil) (by kernel_rfl) (fun b5 => ?_)
  refine thn_n ?_
  refine WP.test (p := c.Put = true) rfl Bp.var (fun h6 => ?_) (fun h6 => ?_)
  · refine WP.seq ?_
    refine WP.pure {} [.bool c.Open] [2] [.bool (!c.Open)] (.cons (Ld.row1 (P := Try.prog) (t := 4) (o := 8) (v := .bool c.Open) hp2.get0 (by kernel_rfl)) .nil) (by kernel_rfl) (fun b7 => ?_)
    refine thn_n ?_
    refine WP.ret ?_
    refine thn_r ?_
    refine bodyQ.of _ rfl [.bool (!c.Open)] ⟨rfl, trivial⟩ ?_
    exact ⟨_, rfl, Bp.of (Bp.not Bp.var) (by simp only [mustC]; simp_all <;> omega), hp2.fr⟩
  · refine WP.skip ?_
    refine thn_n ?_
    refine WP.cut (fun e22 w23 => ∃ (x20 : Bool), (True) ∧ Bp x20 (((0 ≤ c.To) ∧ (c.Status = 0)) ∨ ((0 ≤ c.To) ∧ (¬ (c.Status = 0)) ∧ (c.Status = 76))) ∧ List.map e22 [2] = [.bool x20] ∧ Hp w Non [Res.row g3 [.int .i64 c.Client, .int .i64 c.Op, .bool c.Put, .string c.Key, .slice c.Value.a c.Value.n c.Value.c, .int .i64 c.Status, .int .i64 c.From, .int .i64 c.To, .bool c.Open, .int .i64 c.Tag.Count, .int .i64 c.Tag.Client] 73] w23) ?_ ?_
    · refine WP.region _ rfl (by kernel_rfl) ?_
      refine OPS.batch 4 {} [.int .i64 c.To] [1, 11] [.pointer (some ⟨g3, 0, none⟩), .bool (decide (0 ≤ c.To))] (.cons (Ld.row1 (P := Try.prog) (t := 3) (o := 7) (v := .int .i64 c.To) hp2.get0 (by kernel_rfl)) .nil) (by kernel_rfl) (fun b9 => ?_)
      by_cases h10 : 0 ≤ c.To
      · refine OPS.batch 0 {} [] [1, 11] [.pointer (some ⟨g3, 0, none⟩), .bool (decide (0 ≤ c.To))] .nil (by kernel_rfl) (fun b11 => ?_)
        refine OPS.re [.pointer (some ⟨g3, 0, none⟩), .bool true] (by rw [show (decide (0 ≤ c.To)) = true from Bp.dec.tt h10]) ?_
        refine OPS.batch 4 {} [.int .i64 c.Status] [1, 11, 15] [.pointer (some ⟨g3, 0, none⟩), .bool true, .bool (decide (c.Status = 0))] (.cons (Ld.row1 (P := Try.prog) (t := 25) (o := 5) (v := .int .i64 c.Status) hp2.get0 (by kernel_rfl)) .nil) (by kernel_rfl) (fun b12 => ?_)
        by_cases h13 : c.Status = 0
        · refine OPS.batch 0 {} [] [1, 11, 15] [.pointer (some ⟨g3, 0, none⟩), .bool true, .bool (decide (c.Status = 0))] .nil (by kernel_rfl) (fun b14 => ?_)
          refine OPS.re [.pointer (some ⟨g3, 0, none⟩), .bool true, .bool true] (by rw [show (decide (c.Status = 0)) = true from Bp.dec.tt h13]) ?_
          refine OPS.batch 6 { wraps := [19, 20] } [] [2] [.bool true] .nil (by kernel_rfl) (fun b15 => ?_)
          refine OPS.nil ?_
          refine thn_n ?_
          exact ⟨true, trivial, Bp.of Bp.t (by first | (simp only [h10, h13, iff_false, false_iff, iff_true, true_iff, Classical.not_not, and_true, true_and, and_false, false_and, or_true, true_or, or_false, false_or, not_true_eq_false, not_false_eq_true, and_self, or_self, iff_self]; done) | (simp [h10, h13]; done) | grind | (simp_all; done)), by kernel_rfl, hp2⟩
        · refine OPS.batch 0 {} [] [1, 11, 15] [.pointer (some ⟨g3, 0, none⟩), .bool true, .bool (decide (c.Status = 0))] .nil (by kernel_rfl) (fun b16 => ?_)
          refine OPS.re [.pointer (some ⟨g3, 0, none⟩), .bool true, .bool false] (by rw [show (decide (c.Status = 0)) = false from Bp.dec.ff h13]) ?_
          refine OPS.batch 6 { wraps := [19, 20] } [.int .i64 c.Status] [2] [.bool (decide (c.Status = 76))] (.cons (Ld.row1 (P := Try.prog) (t := 25) (o := 5) (v := .int .i64 c.Status) hp2.get0 (by kernel_rfl)) .nil) (by kernel_rfl) (fun b17 => ?_)
          refine OPS.nil ?_
          refine thn_n ?_
          exact ⟨decide (c.Status = 76), trivial, Bp.of Bp.dec (by first | (simp only [h10, h13, iff_false, false_iff, iff_true, true_iff, Classical.not_not, and_true, true_and, and_false, false_and, or_true, true_or, or_false, false_or, not_true_eq_false, not_false_eq_true, and_self, or_self, iff_self]; done) | (simp [h10, h13]; done) | grind | (simp_all; done)), by kernel_rfl, hp2⟩
      · refine OPS.batch 0 {} [] [1, 11] [.pointer (some ⟨g3, 0, none⟩), .bool (decide (0 ≤ c.To))] .nil (by kernel_rfl) (fun b18 => ?_)
        refine OPS.re [.pointer (some ⟨g3, 0, none⟩), .bool false] (by rw [show (decide (0 ≤ c.To)) = false from Bp.dec.ff h10]) ?_
        refine OPS.batch 10 { wraps := [20] } [] [2] [.bool false] .nil (by kernel_rfl) (fun b19 => ?_)
        refine OPS.nil ?_
        refine thn_n ?_
        exact ⟨false, trivial, Bp.of Bp.f (by first | (simp only [h10, iff_false, false_iff, iff_true, true_iff, Classical.not_not, and_true, true_and, and_false, false_and, or_true, true_or, or_false, false_or, not_true_eq_false, not_false_eq_true, and_self, or_self, iff_self]; done) | (simp [h10]; done) | grind | (simp_all; done)), by kernel_rfl, hp2⟩
    rintro e22 w23 ⟨x20, hd25, hb21, hE26, hp24⟩
    obtain ⟨b27, rfl⟩ := toMk hE26
    clear hE26
    clear hd25
    refine WP.ret ?_
    refine bodyQ.of _ rfl [.bool x20] ⟨rfl, trivial⟩ ?_
    exact ⟨_, rfl, Bp.of hb21 (by simp only [mustC]; simp_all <;> omega), hp24.fr⟩

theorem linear_part (c : GCall) (w : World) :
    Calls Try.prog 93 #[GCall.val c] w (fun r_ w' => ∃ f_, r_ = .returned (.bool f_) ∧ Bp f_ (partC c) ∧ Fram Non w w') := by
  refine calls_of Try.func93 rfl 9 rfl (by simp) ?_
  have hp0 := Hp.init w
  have he0 : List.map (env0 [GCall.val c]) [0] = [GCall.val c] := by kernel_rfl
  obtain ⟨b0, he0⟩ := toMk he0
  rw [he0]
  clear he0
  refine WP.seq ?_
  refine WP.region _ rfl (by kernel_rfl) ?_
  refine OPS.cons (opStep.box hp0 [.int .i64 c.Client, .int .i64 c.Op, .bool c.Put, .string c.Key, .slice c.Value.a c.Value.n c.Value.c, .int .i64 c.Status, .int .i64 c.From, .int .i64 c.To, .bool c.Open, .int .i64 c.Tag.Count, .int .i64 c.Tag.Client] (by kernel_rfl) (fun g3 w1 hp2 => ?_))
  refine OPS.batch 1 {} [] [1] [.pointer (some ⟨g3, 0, none⟩)] .nil (by kernel_rfl) (fun b4 => ?_)
  refine OPS.nil ?_
  refine thn_n ?_
  refine WP.cut (fun e20 w21 => ∃ (x18 : Bool), (True) ∧ Bp x18 (((mustC c)) ∨ ((¬ (mustC c)) ∧ (c.Put = true))) ∧ List.map e20 [2] = [.bool x18] ∧ Hp w Non [Res.row g3 [.int .i64 c.Client, .int .i64 c.Op, .bool c.Put, .string c.Key, .slice c.Value.a c.Value.n c.Value.c, .int .i64 c.Status, .int .i64 c.From, .int .i64 c.To, .bool c.Open, .int .i64 c.Tag.Count, .int .i64 c.Tag.Client] 73] w21) ?_ ?_
  · refine WP.region _ rfl (by kernel_rfl) ?_
    refine OPS.batch 1 {} [GCall.val c] [1, 3] [.pointer (some ⟨g3, 0, none⟩), GCall.val c] (.cons (show Ld Try.prog w1 73 ⟨g3, 0, none⟩ (GCall.val c) from Ld.rowN (cs := [.int .i64 c.Client, .int .i64 c.Op, .bool c.Put, .string c.Key, .slice c.Value.a c.Value.n c.Value.c, .int .i64 c.Status, .int .i64 c.From, .int .i64 c.To, .bool c.Open, .int .i64 c.Tag.Count, .int .i64 c.Tag.Client]) hp2.get0 (by kernel_rfl)) .nil) (by kernel_rfl) (fun b6 => ?_)
    refine OPS.cons (opStep.call (some 4) [GCall.val c] (by kernel_rfl) (linear_must c _) ?_)
    rintro _ w9 ⟨b12, rfl, hb13, hf10⟩
    refine ⟨_, rfl, ?_⟩
    have hp11 := hp2.step hf10
    refine OPS.batch 1 {} [] [1, 5] [.pointer (some ⟨g3, 0, none⟩), .bool b12] .nil (by kernel_rfl) (fun b14 => ?_)
    by_cases h15 : mustC c
    · rw [show b12 = true from hb13.tt h15]
      refine OPS.batch 4 { wraps := [8] } [] [2] [.bool true] .nil (by kernel_rfl) (fun b16 => ?_)
      refine OPS.nil ?_
      refine thn_n ?_
      exact ⟨true, trivial, Bp.of Bp.t (by first | (simp only [h15, iff_false, false_iff, iff_true, true_iff, Classical.not_not, and_true, true_and, and_false, false_and, or_true, true_or, or_false, false_or, not_true_eq_false, not_false_eq_true, and_self, or_self, iff_self]; done) | (simp [h15]; done) | grind | (simp_all; done)), by kernel_rfl, hp11⟩
    · rw [show b12 = false from hb13.ff h15]
      refine OPS.batch 4 { wraps := [8] } [.bool c.Put] [2] [.bool c.Put] (.cons (Ld.row1 (P := Try.prog) (t := 4) (o := 2) (v := .bool c.Put) hp11.get0 (by kernel_rfl)) .nil) (by kernel_rfl) (fun b17 => ?_)
      refine OPS.nil ?_
      refine thn_n ?_
      exact ⟨c.Put, trivial, Bp.of Bp.var (by first | (simp only [h15, iff_false, false_iff, iff_true, true_iff, Classical.not_not, and_true, true_and, and_false, false_and, or_true, true_or, or_false, false_or, not_true_eq_false, not_false_eq_true, and_self, or_self, iff_self]; done) | (simp [h15]; done) | grind | (simp_all; done)), by kernel_rfl, hp11⟩
  rintro e20 w21 ⟨x18, hd23, hb19, hE24, hp22⟩
  obtain ⟨b25, rfl⟩ := toMk hE24
  clear hE24
  clear hd23
  refine WP.ret ?_
  refine bodyQ.of _ rfl [.bool x18] ⟨rfl, trivial⟩ ?_
  exact ⟨_, rfl, Bp.of hb19 (by simp only [partC]; simp only [mustC] at *; rcases Bool.eq_false_or_eq_true c.Put with h1 | h1 <;> rcases Bool.eq_false_or_eq_true c.Open with h2 | h2 <;> simp_all), hp22.fr⟩

theorem lin_explained (sb : Nat) (l : List GCall) (a : Option Addr) (cp : Nat) (x1 x2 x3 x4 x5 : Value) (c : GCall) (last : Int) (w0 w : World) (L : List Res) (hp0 : Hp w0 Non (Res.row sb [.slice a l.length cp, x1, x2, x3, x4, x5] 131 :: L) w) (hs : SlR w0 a l.length (l.flatMap GCall.cells)) (hv : ∀ x ∈ l, VB w0 x.Value) (hc : VB w0 c.Value) (hl : last < l.length) :
    Calls Try.prog 116 #[.pointer (some ⟨sb, 0, none⟩), GCall.val c, .int .i64 last] w (fun x w' => ∃ b, x = .returned (.bool b) ∧ Bp b (explP (valAt w0) l c last) ∧ Hp w0 Non (Res.row sb [.slice a l.length cp, x1, x2, x3, x4, x5] 131 :: L) w') := by
  refine calls_of Try.func116 rfl 29 rfl (by simp) ?_
  have he0 : List.map (env0 [.pointer (some ⟨sb, 0, none⟩), GCall.val c, .int .i64 last]) [0, 1, 2] = [.pointer (some ⟨sb, 0, none⟩), GCall.val c, .int .i64 last] := by kernel_rfl
  obtain ⟨b0, he0⟩ := toMk he0
  rw [he0]
  clear he0
  refine WP.seq ?_
  refine WP.region _ rfl (by kernel_rfl) ?_
  refine OPS.cons (opStep.box hp0 [.int .i64 c.Client, .int .i64 c.Op, .bool c.Put, .string c.Key, .slice c.Value.a c.Value.n c.Value.c, .int .i64 c.Status, .int .i64 c.From, .int .i64 c.To, .bool c.Open, .int .i64 c.Tag.Count, .int .i64 c.Tag.Client] (by kernel_rfl) (fun g3 w1 hp2 => ?_))
  refine OPS.batch 1 {} [] [0, 2, 4] [.pointer (some ⟨sb, 0, none⟩), .int .i64 last, .pointer (some ⟨g3, 0, none⟩)] .nil (by kernel_rfl) (fun b4 => ?_)
  refine OPS.nil ?_
  refine thn_n ?_
  refine WP.seq ?_
  refine WP.seq ?_
  refine WP.pure {} [.int .i64 c.Status] [0, 2, 4, 9] [.pointer (some ⟨sb, 0, none⟩), .int .i64 last, .pointer (some ⟨g3, 0, none⟩), .bool (decide (c.Status = 76))] (.cons (Ld.row1 (P := Try.prog) (t := 25) (o := 5) (v := .int .i64 c.Status) hp2.get0 (by kernel_rfl)) .nil) (by kernel_rfl) (fun b5 => ?_)
  refine thn_n ?_
  refine WP.test (p := c.Status = 76) rfl Bp.dec (fun h6 => ?_) (fun h6 => ?_)
  · refine WP.seq ?_
    refine WP.pure {} [] [6] [.bool (decide (last < 0))] .nil (by kernel_rfl) (fun b7 => ?_)
    refine thn_n ?_
    refine WP.ret ?_
    refine thn_r ?_
    refine bodyQ.of _ rfl [.bool (decide (last < 0))] ⟨rfl, trivial⟩ ?_
    exact ⟨_, rfl, Bp.of Bp.dec (by simp only [explP]; simp_all), (hp2.sub (.cons _ (.cons_cons _ (.refl _))))⟩
  · refine WP.skip ?_
    refine thn_n ?_
    refine WP.cut (fun e32 w33 => ∃ (x30 : Bool), (True) ∧ Bp x30 ((0 ≤ last) ∧ ((valAt w0 l[(last : Int).toNat]!.Value) = (valAt w0 c.Value))) ∧ List.map e32 [6] = [.bool x30] ∧ Hp w0 Non (Res.row g3 [.int .i64 c.Client, .int .i64 c.Op, .bool c.Put, .string c.Key, .slice c.Value.a c.Value.n c.Value.c, .int .i64 c.Status, .int .i64 c.From, .int .i64 c.To, .bool c.Open, .int .i64 c.Tag.Count, .int .i64 c.Tag.Client] 73 :: Res.row sb [.slice a l.length cp, x1, x2, x3, x4, x5] 131 :: L) w33) ?_ ?_
    · have hp11 := hp2.drew
      refine WP.quiet (fun w9 => Hp w0 Non (Res.row g3 [.int .i64 c.Client, .int .i64 c.Op, .bool c.Put, .string c.Key, .slice c.Value.a c.Value.n c.Value.c, .int .i64 c.Status, .int .i64 c.From, .int .i64 c.To, .bool c.Open, .int .i64 c.Tag.Count, .int .i64 c.Tag.Client] 73 :: Res.row sb [.slice a l.length cp, x1, x2, x3, x4, x5] 131 :: L) w9) (by kernel_rfl) hp11 ?_
      have hnehp11 : ∃ wz_, (fun w9 => Hp w0 Non (Res.row g3 [.int .i64 c.Client, .int .i64 c.Op, .bool c.Put, .string c.Key, .slice c.Value.a c.Value.n c.Value.c, .int .i64 c.Status, .int .i64 c.From, .int .i64 c.To, .bool c.Open, .int .i64 c.Tag.Count, .int .i64 c.Tag.Client] 73 :: Res.row sb [.slice a l.length cp, x1, x2, x3, x4, x5] 131 :: L) w9) wz_ := ⟨_, hp11⟩
      refine QOPS.batch 3 {} [] [0, 2, 4, 14] [.pointer (some ⟨sb, 0, none⟩), .int .i64 last, .pointer (some ⟨g3, 0, none⟩), .bool (decide (0 ≤ last))] hnehp11 (fun w12 hp13 => QB.mk .nil (by kernel_rfl)) (fun b14 => ?_)
      by_cases h15 : 0 ≤ last
      · refine QOPS.batch 0 {} [] [0, 2, 4, 14] [.pointer (some ⟨sb, 0, none⟩), .int .i64 last, .pointer (some ⟨g3, 0, none⟩), .bool (decide (0 ≤ last))] hnehp11 (fun _ _ => QB.mk .nil (by kernel_rfl)) (fun b16 => ?_)
        refine QOPS.re [.pointer (some ⟨sb, 0, none⟩), .int .i64 last, .pointer (some ⟨g3, 0, none⟩), .bool true] (by rw [show (decide (0 ≤ last)) = true from Bp.dec.tt h15]) ?_
        have hy20 : (l)[(last : Int).toNat]? = some l[(last : Int).toNat]! := get_bang (by first | (omega) | (simp only [List.length_append, List.length_cons, List.length_nil]; omega) | (simp only [List.length_take, List.length_append, List.length_cons, List.length_nil]; omega))
        refine QOPS.batch 15 { wraps := [28] } [.slice a l.length cp, .slice (l[(last : Int).toNat]!.Value.a) (l[(last : Int).toNat]!.Value.n) (l[(last : Int).toNat]!.Value.c), .string (valAt w0 l[(last : Int).toNat]!.Value), .slice c.Value.a c.Value.n c.Value.c, .string (valAt w0 c.Value)] [6] [.bool (decide ((valAt w0 l[(last : Int).toNat]!.Value) = (valAt w0 c.Value)))] hnehp11 (fun w17 hp18 => QB.mk (.cons (Ld.row1 (P := Try.prog) (t := 55) (o := 0) (v := .slice a l.length cp) hp18.get1 (by kernel_rfl)) (.cons (show InB (last) (l.length) from ⟨by omega, by omega⟩) (.cons ((hs.at hp18).some (by omega)) (.cons (Ld.el1 (P := Try.prog) (t := 71) (hs.at hp18).rd 11 (fun _ => rfl) hy20 (o := 4) (v := .slice (l[(last : Int).toNat]!.Value.a) (l[(last : Int).toNat]!.Value.n) (l[(last : Int).toNat]!.Value.c)) (by kernel_rfl)) (.cons (VB.bs (P := Try.prog) (hv l[(last : Int).toNat]! (List.mem_of_getElem? hy20)) hp18) (.cons (Ld.row1 (P := Try.prog) (t := 71) (o := 4) (v := .slice c.Value.a c.Value.n c.Value.c) hp18.get0 (by kernel_rfl)) (.cons (VB.bs (P := Try.prog) hc hp18) .nil))))))) (by kernel_rfl)) (fun b21 => ?_)
        refine QOPS.nil (fun w22 hp23 => ?_)
        refine thn_n ?_
        exact ⟨decide ((valAt w0 l[(last : Int).toNat]!.Value) = (valAt w0 c.Value)), trivial, Bp.of Bp.dec (by first | (simp only [h15, iff_false, false_iff, iff_true, true_iff, Classical.not_not, and_true, true_and, and_false, false_and, or_true, true_or, or_false, false_or, not_true_eq_false, not_false_eq_true, and_self, or_self, iff_self]; done) | (simp [h15]; done) | grind | (simp_all; done)), by kernel_rfl, hp23⟩
      · refine QOPS.batch 0 {} [] [0, 2, 4, 14] [.pointer (some ⟨sb, 0, none⟩), .int .i64 last, .pointer (some ⟨g3, 0, none⟩), .bool (decide (0 ≤ last))] hnehp11 (fun _ _ => QB.mk .nil (by kernel_rfl)) (fun b24 => ?_)
        refine QOPS.re [.pointer (some ⟨sb, 0, none⟩), .int .i64 last, .pointer (some ⟨g3, 0, none⟩), .bool false] (by rw [show (decide (0 ≤ last)) = false from Bp.dec.ff h15]) ?_
        refine QOPS.batch 15 { wraps := [28] } [] [6] [.bool false] hnehp11 (fun w25 hp26 => QB.mk .nil (by kernel_rfl)) (fun b27 => ?_)
        refine QOPS.nil (fun w28 hp29 => ?_)
        refine thn_n ?_
        exact ⟨false, trivial, Bp.of Bp.f (by first | (simp only [h15, iff_false, false_iff, iff_true, true_iff, Classical.not_not, and_true, true_and, and_false, false_and, or_true, true_or, or_false, false_or, not_true_eq_false, not_false_eq_true, and_self, or_self, iff_self]; done) | (simp [h15]; done) | grind | (simp_all; done)), by kernel_rfl, hp29⟩
    rintro e32 w33 ⟨x30, hd35, hb31, hE36, hp34⟩
    obtain ⟨b37, rfl⟩ := toMk hE36
    clear hE36
    clear hd35
    refine WP.ret ?_
    refine bodyQ.of _ rfl [.bool x30] ⟨rfl, trivial⟩ ?_
    exact ⟨_, rfl, Bp.of hb31 (by simp only [explP]; simp_all), (hp34.sub (.cons _ (.cons_cons _ (.refl _))))⟩

end Go.Proofs.Ytdahgdkadfdkeaa.K
