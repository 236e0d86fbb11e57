/- The walks of LinW: what each function computes. -/
import Derived.Test.YtdahgdkadfdkeaaProg
import Derived.Test.YtdahgdkadfdkeaaCoreO
import Derived.Test.YtdahgdkadfdkeaaLinO
namespace Go.Proofs.Ytdahgdkadfdkeaa.K
open Go Go.Proofs Go.RowKit
set_option linter.unusedVariables false
set_option linter.unusedSimpArgs false
set_option maxRecDepth 20000
set_option maxHeartbeats 4000000

theorem lin_One (l : List GCall) (a : Option Addr) (cp : Nat) (w : World) (hs : SlR w a l.length (l.flatMap GCall.cells)) (hv : ∀ x ∈ l, VB w x.Value) (hll : l.length ≤ 8796093022207) :
    Calls Try.prog 44 #[.slice a l.length cp] w (fun x w' => ∃ (xs : List Nat) (ok : Bool) (e : Int) (ao : Option Addr) (no co : Nat), x = .returned (.tuple #[.slice ao no co, .bool ok, .int .i64 e]) ∧ oneR (valAt w) l xs ok e ∧ Hp w Non [Res.own 3 1 (.slice ao no co) no (List.flatMap (fun (y : Nat) => [Go.Value.int .i64 (y : Int)]) xs)] w') := by
  refine calls_of Try.func44 rfl 138 rfl (by simp) ?_
  have hp0 := Hp.init w
  have he0 : List.map (env0 [.slice a l.length cp]) [0] = [.slice a l.length cp] := by kernel_rfl
  obtain ⟨b0, he0⟩ := toMk he0
  rw [he0]
  clear he0
  refine WP.seq ?_
  refine WP.pure {} [] [0] [.slice a l.length cp] .nil (by kernel_rfl) (fun b1 => ?_)
  refine thn_n ?_
  refine WP.seq ?_
  refine WP.region _ rfl (by kernel_rfl) ?_
  refine OPS.batch 1 {} [] [0, 15] [.slice a l.length cp, .slice a l.length cp] .nil (by kernel_rfl) (fun b2 => ?_)
  refine OPS.cons (opStep.makeMapK kfS (fun y : Int => Go.Value.int .i64 y) hp0 (fun g5 w3 hp4 => ?_))
  refine OPS.batch 1 {} [] [0, 17] [.slice a l.length cp, .agg #[.slice a l.length cp, .slice none 0 0, .slice none 0 0, .int .u32 0, .map (some g5), .slice none 0 0]] .nil (by kernel_rfl) (fun b6 => ?_)
  refine OPS.cons (opStep.box hp4 [.slice a l.length cp, .slice none 0 0, .slice none 0 0, .int .u32 0, .map (some g5), .slice none 0 0] (by kernel_rfl) (fun g9 w7 hp8 => ?_))
  refine OPS.batch 1 {} [] [0, 5] [.slice a l.length cp, .pointer (some ⟨g9, 0, none⟩)] .nil (by kernel_rfl) (fun b10 => ?_)
  refine OPS.nil ?_
  refine thn_n ?_
  refine WP.seq ?_
  refine WP.pure {} [] [0, 5, 6] [.slice a l.length cp, .pointer (some ⟨g9, 0, none⟩), .int .i64 0] .nil (by kernel_rfl) (fun b11 => ?_)
  refine thn_n ?_
  refine WP.seq ?_
  refine WP.seq ?_
  refine WP.pure {} [] [0, 5, 6, 19, 20, 21] [.slice a l.length cp, .pointer (some ⟨g9, 0, none⟩), .int .i64 0, .slice a l.length cp, .int .i64 ((l.length : Nat) : Int), .int .i64 0] .nil (by kernel_rfl) (fun b12 => ?_)
  refine thn_n ?_
  refine WP.block ?_
  have hp13 := (show Hp w Non [Res.own 3 1 (.slice none 0 0) 0 (List.flatMap (fun (y : Int) => [Go.Value.int .i64 y]) ([] : List Int)), Res.row g9 [.slice a l.length cp, .slice none 0 0, .slice none 0 0, .int .u32 0, .map (some g5), .slice none 0 0] 131, Res.mp g5 kfS (fun y : Int => Go.Value.int .i64 y) ([] : List ((Nat × Int) × Int))] w7 from hp8.nilOwn 3 1)
  refine WP.loop (fun mz_ e14 w15 => ∃ (k : Nat) (ct : Int) (bs : List Int) (a2 : Option Addr) (n2 : Nat) (c2 : Nat), mz_ = l.length - k ∧ (k ≤ l.length ∧ ct = (cntN l k : Int) ∧ bs = bitsL l k ∧ n2 = k ∧ (∀ j, j < k → okArg l[j]!)) ∧ List.map e14 [0, 5, 6, 19, 20, 21] = [.slice a l.length cp, .pointer (some ⟨g9, 0, none⟩), .int .i64 ct, .slice a l.length cp, .int .i64 ((l.length : Nat) : Int), .int .i64 (k : Int)] ∧ Hp w Non [Res.own 3 1 (.slice a2 n2 c2) n2 (List.flatMap (fun (y : Int) => [Go.Value.int .i64 y]) bs), Res.row g9 [.slice a l.length cp, .slice none 0 0, .slice a2 n2 c2, .int .u32 0, .map (some g5), .slice none 0 0] 131, Res.mp g5 kfS (fun y : Int => Go.Value.int .i64 y) ([] : List ((Nat × Int) × Int))] w15) (l.length - (0)) ⟨0, 0, ([] : List Int), none, 0, 0, rfl, ⟨by omega, rfl, rfl, rfl, fun j hj => by omega⟩, by kernel_rfl, hp13⟩ ?_
  rintro _ e14 w15 ⟨k, ct, bs, a2, n2, c2, rfl, hI17, hE18, hp16⟩
  obtain ⟨b19, rfl⟩ := toMk hE18
  clear hE18
  obtain ⟨h1, h2, h3, h4, h5⟩ := hI17
  have hck := cntN_le l k
  refine WP.seq ?_
  refine WP.pure {} [] [0, 5, 6, 19, 20, 21, 22] [.slice a l.length cp, .pointer (some ⟨g9, 0, none⟩), .int .i64 ct, .slice a l.length cp, .int .i64 ((l.length : Nat) : Int), .int .i64 (k : Int), .bool (decide ((k : Int) < ((l.length : Nat) : Int)))] .nil (by kernel_rfl) (fun b20 => ?_)
  refine thn_n ?_
  refine WP.seq ?_
  refine WP.test (p := (k : Int) < ((l.length : Nat) : Int)) rfl Bp.dec (fun h21 => ?_) (fun h21 => ?_)
  · refine WP.skip ?_
    refine thn_n ?_
    refine WP.seq ?_
    refine WP.block ?_
    refine WP.seq ?_
    refine WP.region _ rfl (by kernel_rfl) ?_
    have hy25 : (l)[k]? = some l[k]! := get_bang (by first | (omega) | (simp only [List.length_append, List.length_cons, List.length_nil]; omega) | (simp only [List.length_take, List.length_append, List.length_cons, List.length_nil]; omega))
    refine OPS.batch 2 {} [GCall.val (l[k]!)] [0, 5, 6, 19, 20, 21, 24] [.slice a l.length cp, .pointer (some ⟨g9, 0, none⟩), .int .i64 ct, .slice a l.length cp, .int .i64 ((l.length : Nat) : Int), .int .i64 (k : Int), GCall.val (l[k]!)] (.cons (show InB ((k : Int)) (l.length) from ⟨by omega, by omega⟩) (.cons ((hs.at hp16).some (by omega)) (.cons (Ld.add0 (Ld.elN (P := Try.prog) (t := 73) (hs.at hp16).rd 11 (fun _ => rfl) hy25 (o := 0) (cs := [.int .i64 (l[k]!.Client), .int .i64 (l[k]!.Op), .bool (l[k]!.Put), .string (l[k]!.Key), .slice (l[k]!.Value.a) (l[k]!.Value.n) (l[k]!.Value.c), .int .i64 (l[k]!.Status), .int .i64 (l[k]!.From), .int .i64 (l[k]!.To), .bool (l[k]!.Open), .int .i64 (l[k]!.Tag.Count), .int .i64 (l[k]!.Tag.Client)]) (by kernel_rfl))) .nil))) (by kernel_rfl) (fun b26 => ?_)
    refine OPS.cons (opStep.alloc hp16 [.int .i64 0, .int .i64 0, .bool false, .string ByteArray.empty, .slice none 0 0, .int .i64 0, .int .i64 0, .int .i64 0, .bool false, .int .i64 0, .int .i64 0] (by kernel_rfl) (fun g29 w27 hp28 => ?_))
    refine OPS.cons (opStep.store0 hp28 rfl [.int .i64 (l[k]!.Client), .int .i64 (l[k]!.Op), .bool (l[k]!.Put), .string (l[k]!.Key), .slice (l[k]!.Value.a) (l[k]!.Value.n) (l[k]!.Value.c), .int .i64 (l[k]!.Status), .int .i64 (l[k]!.From), .int .i64 (l[k]!.To), .bool (l[k]!.Open), .int .i64 (l[k]!.Tag.Count), .int .i64 (l[k]!.Tag.Client)] [.int .i64 (l[k]!.Client), .int .i64 (l[k]!.Op), .bool (l[k]!.Put), .string (l[k]!.Key), .slice (l[k]!.Value.a) (l[k]!.Value.n) (l[k]!.Value.c), .int .i64 (l[k]!.Status), .int .i64 (l[k]!.From), .int .i64 (l[k]!.To), .bool (l[k]!.Open), .int .i64 (l[k]!.Tag.Count), .int .i64 (l[k]!.Tag.Client)] (by kernel_rfl) (fun w30 hp31 => ?_))
    refine OPS.nil ?_
    refine thn_n ?_
    refine WP.seq ?_
    refine WP.cut (fun e46 w47 => ∃ (x44 : Bool), (True) ∧ Bp x44 ((((l[k]!.From) < 0)) ∨ ((¬ ((l[k]!.From) < 0)) ∧ (¬ ((l[k]!.To) = (-1))) ∧ ((l[k]!.To) ≤ (l[k]!.From)))) ∧ List.map e46 [0, 5, 6, 8, 19, 20, 21, 39] = [.slice a l.length cp, .pointer (some ⟨g9, 0, none⟩), .int .i64 ct, .pointer (some ⟨g29, 0, none⟩), .slice a l.length cp, .int .i64 ((l.length : Nat) : Int), .int .i64 (k : Int), .bool x44] ∧ Hp w Non [Res.row g29 [.int .i64 (l[k]!.Client), .int .i64 (l[k]!.Op), .bool (l[k]!.Put), .string (l[k]!.Key), .slice (l[k]!.Value.a) (l[k]!.Value.n) (l[k]!.Value.c), .int .i64 (l[k]!.Status), .int .i64 (l[k]!.From), .int .i64 (l[k]!.To), .bool (l[k]!.Open), .int .i64 (l[k]!.Tag.Count), .int .i64 (l[k]!.Tag.Client)] 73, Res.own 3 1 (.slice a2 n2 c2) n2 (List.flatMap (fun (y : Int) => [Go.Value.int .i64 y]) bs), Res.row g9 [.slice a l.length cp, .slice none 0 0, .slice a2 n2 c2, .int .u32 0, .map (some g5), .slice none 0 0] 131, Res.mp g5 kfS (fun y : Int => Go.Value.int .i64 y) ([] : List ((Nat × Int) × Int))] w47) ?_ ?_
    · refine WP.region _ rfl (by kernel_rfl) ?_
      refine OPS.batch 4 {} [.int .i64 (l[k]!.From)] [0, 5, 6, 8, 19, 20, 21, 28] [.slice a l.length cp, .pointer (some ⟨g9, 0, none⟩), .int .i64 ct, .pointer (some ⟨g29, 0, none⟩), .slice a l.length cp, .int .i64 ((l.length : Nat) : Int), .int .i64 (k : Int), .bool (decide ((l[k]!.From) < 0))] (.cons (Ld.row1 (P := Try.prog) (t := 3) (o := 6) (v := .int .i64 (l[k]!.From)) hp31.get0 (by kernel_rfl)) .nil) (by kernel_rfl) (fun b33 => ?_)
      by_cases h34 : (l[k]!.From) < 0
      · refine OPS.batch 0 {} [] [0, 5, 6, 8, 19, 20, 21, 28] [.slice a l.length cp, .pointer (some ⟨g9, 0, none⟩), .int .i64 ct, .pointer (some ⟨g29, 0, none⟩), .slice a l.length cp, .int .i64 ((l.length : Nat) : Int), .int .i64 (k : Int), .bool (decide ((l[k]!.From) < 0))] .nil (by kernel_rfl) (fun b35 => ?_)
        refine OPS.re [.slice a l.length cp, .pointer (some ⟨g9, 0, none⟩), .int .i64 ct, .pointer (some ⟨g29, 0, none⟩), .slice a l.length cp, .int .i64 ((l.length : Nat) : Int), .int .i64 (k : Int), .bool true] (by rw [show (decide ((l[k]!.From) < 0)) = true from Bp.dec.tt h34]) ?_
        refine OPS.batch 11 { wraps := [39] } [] [0, 5, 6, 8, 19, 20, 21, 39] [.slice a l.length cp, .pointer (some ⟨g9, 0, none⟩), .int .i64 ct, .pointer (some ⟨g29, 0, none⟩), .slice a l.length cp, .int .i64 ((l.length : Nat) : Int), .int .i64 (k : Int), .bool true] .nil (by kernel_rfl) (fun b36 => ?_)
        refine OPS.nil ?_
        refine thn_n ?_
        exact ⟨true, trivial, Bp.of Bp.t (by first | (simp only [h34, iff_false, false_iff, iff_true, true_iff, Classical.not_not, and_true, true_and, and_false, false_and, or_true, true_or, or_false, false_or, not_true_eq_false, not_false_eq_true, and_self, or_self, iff_self]; done) | (simp [h34]; done) | grind | (simp_all; done)), by kernel_rfl, hp31⟩
      · refine OPS.batch 0 {} [] [0, 5, 6, 8, 19, 20, 21, 28] [.slice a l.length cp, .pointer (some ⟨g9, 0, none⟩), .int .i64 ct, .pointer (some ⟨g29, 0, none⟩), .slice a l.length cp, .int .i64 ((l.length : Nat) : Int), .int .i64 (k : Int), .bool (decide ((l[k]!.From) < 0))] .nil (by kernel_rfl) (fun b37 => ?_)
        refine OPS.re [.slice a l.length cp, .pointer (some ⟨g9, 0, none⟩), .int .i64 ct, .pointer (some ⟨g29, 0, none⟩), .slice a l.length cp, .int .i64 ((l.length : Nat) : Int), .int .i64 (k : Int), .bool false] (by rw [show (decide ((l[k]!.From) < 0)) = false from Bp.dec.ff h34]) ?_
        refine OPS.batch 4 {} [.int .i64 (l[k]!.To)] [0, 5, 6, 8, 19, 20, 21, 28, 32] [.slice a l.length cp, .pointer (some ⟨g9, 0, none⟩), .int .i64 ct, .pointer (some ⟨g29, 0, none⟩), .slice a l.length cp, .int .i64 ((l.length : Nat) : Int), .int .i64 (k : Int), .bool false, .bool (decide (¬ ((l[k]!.To) = (-1))))] (.cons (Ld.row1 (P := Try.prog) (t := 3) (o := 7) (v := .int .i64 (l[k]!.To)) hp31.get0 (by kernel_rfl)) .nil) (by kernel_rfl) (fun b38 => ?_)
        by_cases h39 : (l[k]!.To) = (-1)
        · refine OPS.batch 0 {} [] [0, 5, 6, 8, 19, 20, 21, 28, 32] [.slice a l.length cp, .pointer (some ⟨g9, 0, none⟩), .int .i64 ct, .pointer (some ⟨g29, 0, none⟩), .slice a l.length cp, .int .i64 ((l.length : Nat) : Int), .int .i64 (k : Int), .bool false, .bool (decide (¬ ((l[k]!.To) = (-1))))] .nil (by kernel_rfl) (fun b42 => ?_)
          refine OPS.re [.slice a l.length cp, .pointer (some ⟨g9, 0, none⟩), .int .i64 ct, .pointer (some ⟨g29, 0, none⟩), .slice a l.length cp, .int .i64 ((l.length : Nat) : Int), .int .i64 (k : Int), .bool false, .bool false] (by rw [show (decide (¬ ((l[k]!.To) = (-1)))) = false from Bp.dec.ff (fun k => k h39)]) ?_
          refine OPS.batch 7 { wraps := [38, 39] } [] [0, 5, 6, 8, 19, 20, 21, 39] [.slice a l.length cp, .pointer (some ⟨g9, 0, none⟩), .int .i64 ct, .pointer (some ⟨g29, 0, none⟩), .slice a l.length cp, .int .i64 ((l.length : Nat) : Int), .int .i64 (k : Int), .bool false] .nil (by kernel_rfl) (fun b43 => ?_)
          refine OPS.nil ?_
          refine thn_n ?_
          exact ⟨false, trivial, Bp.of Bp.f (by first | (simp only [h34, h39, iff_false, false_iff, iff_true, true_iff, Classical.not_not, and_true, true_and, and_false, false_and, or_true, true_or, or_false, false_or, not_true_eq_false, not_false_eq_true, and_self, or_self, iff_self]; done) | (simp [h34, h39]; done) | grind | (simp_all; done)), by kernel_rfl, hp31⟩
        · refine OPS.batch 0 {} [] [0, 5, 6, 8, 19, 20, 21, 28, 32] [.slice a l.length cp, .pointer (some ⟨g9, 0, none⟩), .int .i64 ct, .pointer (some ⟨g29, 0, none⟩), .slice a l.length cp, .int .i64 ((l.length : Nat) : Int), .int .i64 (k : Int), .bool false, .bool (decide (¬ ((l[k]!.To) = (-1))))] .nil (by kernel_rfl) (fun b40 => ?_)
          refine OPS.re [.slice a l.length cp, .pointer (some ⟨g9, 0, none⟩), .int .i64 ct, .pointer (some ⟨g29, 0, none⟩), .slice a l.length cp, .int .i64 ((l.length : Nat) : Int), .int .i64 (k : Int), .bool false, .bool true] (by rw [show (decide (¬ ((l[k]!.To) = (-1)))) = true from Bp.dec.tt h39]) ?_
          refine OPS.batch 7 { wraps := [38, 39] } [.int .i64 (l[k]!.To), .int .i64 (l[k]!.From)] [0, 5, 6, 8, 19, 20, 21, 39] [.slice a l.length cp, .pointer (some ⟨g9, 0, none⟩), .int .i64 ct, .pointer (some ⟨g29, 0, none⟩), .slice a l.length cp, .int .i64 ((l.length : Nat) : Int), .int .i64 (k : Int), .bool (decide ((l[k]!.To) ≤ (l[k]!.From)))] (.cons (Ld.row1 (P := Try.prog) (t := 3) (o := 7) (v := .int .i64 (l[k]!.To)) hp31.get0 (by kernel_rfl)) (.cons (Ld.row1 (P := Try.prog) (t := 3) (o := 6) (v := .int .i64 (l[k]!.From)) hp31.get0 (by kernel_rfl)) .nil)) (by kernel_rfl) (fun b41 => ?_)
          refine OPS.nil ?_
          refine thn_n ?_
          exact ⟨decide ((l[k]!.To) ≤ (l[k]!.From)), trivial, Bp.of Bp.dec (by first | (simp only [h34, h39, iff_false, false_iff, iff_true, true_iff, Classical.not_not, and_true, true_and, and_false, false_and, or_true, true_or, or_false, false_or, not_true_eq_false, not_false_eq_true, and_self, or_self, iff_self]; done) | (simp [h34, h39]; done) | grind | (simp_all; done)), by kernel_rfl, hp31⟩
    rintro e46 w47 ⟨x44, hd49, hb45, hE50, hp48⟩
    obtain ⟨b51, rfl⟩ := toMk hE50
    clear hE50
    clear hd49
    refine WP.test (p := (((l[k]!.From) < 0)) ∨ ((¬ ((l[k]!.From) < 0)) ∧ (¬ ((l[k]!.To) = (-1))) ∧ ((l[k]!.To) ≤ (l[k]!.From)))) rfl hb45 (fun h52 => ?_) (fun h52 => ?_)
    · refine WP.seq ?_
      refine WP.pure {} [] [2, 3, 4] [.slice none 0 0, .bool false, .int .i64 1] .nil (by kernel_rfl) (fun b53 => ?_)
      refine thn_n ?_
      refine WP.ret ?_
      refine thn_r ?_
      refine blk_r ?_
      refine thn_r ?_
      refine thn_r ?_
      refine blk_r ?_
      refine thn_r ?_
      refine bodyQ.of _ rfl [.slice none 0 0, .bool false, .int .i64 1] ⟨rfl, rfl, rfl, trivial⟩ ?_
      exact ⟨[], false, 1, none, 0, 0, rfl, .inl ⟨⟨k, by omega, by simp only [okArg]; omega⟩, rfl, rfl, rfl⟩, ((hp48.nil).nilOwn 3 1)⟩
    · refine WP.skip ?_
      refine thn_n ?_
      refine WP.seq ?_
      refine WP.pure {} [] [0, 5, 6, 8, 9, 19, 20, 21] [.slice a l.length cp, .pointer (some ⟨g9, 0, none⟩), .int .i64 ct, .pointer (some ⟨g29, 0, none⟩), .int .i64 (-1), .slice a l.length cp, .int .i64 ((l.length : Nat) : Int), .int .i64 (k : Int)] .nil (by kernel_rfl) (fun b54 => ?_)
      refine thn_n ?_
      refine WP.cut (fun e69 w70 => ∃ (x67 : Int) (x68 : Int), ((x67 = ct + 1 ∧ x68 = ct ∧ (partC (l[k]!)) ∧ True) ∨ (x67 = ct ∧ x68 = (-1) ∧ (¬ (partC (l[k]!))) ∧ True)) ∧ List.map e69 [0, 5, 6, 9, 19, 20, 21] = [.slice a l.length cp, .pointer (some ⟨g9, 0, none⟩), .int .i64 x67, .int .i64 x68, .slice a l.length cp, .int .i64 ((l.length : Nat) : Int), .int .i64 (k : Int)] ∧ Hp w Non [Res.row g29 [.int .i64 (l[k]!.Client), .int .i64 (l[k]!.Op), .bool (l[k]!.Put), .string (l[k]!.Key), .slice (l[k]!.Value.a) (l[k]!.Value.n) (l[k]!.Value.c), .int .i64 (l[k]!.Status), .int .i64 (l[k]!.From), .int .i64 (l[k]!.To), .bool (l[k]!.Open), .int .i64 (l[k]!.Tag.Count), .int .i64 (l[k]!.Tag.Client)] 73, Res.own 3 1 (.slice a2 n2 c2) n2 (List.flatMap (fun (y : Int) => [Go.Value.int .i64 y]) bs), Res.row g9 [.slice a l.length cp, .slice none 0 0, .slice a2 n2 c2, .int .u32 0, .map (some g5), .slice none 0 0] 131, Res.mp g5 kfS (fun y : Int => Go.Value.int .i64 y) ([] : List ((Nat × Int) × Int))] w70) ?_ ?_
      · refine WP.seq ?_
        refine WP.region _ rfl (by kernel_rfl) ?_
        refine OPS.batch 1 {} [GCall.val (l[k]!)] [0, 5, 6, 9, 19, 20, 21, 40] [.slice a l.length cp, .pointer (some ⟨g9, 0, none⟩), .int .i64 ct, .int .i64 (-1), .slice a l.length cp, .int .i64 ((l.length : Nat) : Int), .int .i64 (k : Int), GCall.val (l[k]!)] (.cons (show Ld Try.prog w47 73 ⟨g29, 0, none⟩ (GCall.val (l[k]!)) from Ld.rowN (cs := [.int .i64 (l[k]!.Client), .int .i64 (l[k]!.Op), .bool (l[k]!.Put), .string (l[k]!.Key), .slice (l[k]!.Value.a) (l[k]!.Value.n) (l[k]!.Value.c), .int .i64 (l[k]!.Status), .int .i64 (l[k]!.From), .int .i64 (l[k]!.To), .bool (l[k]!.Open), .int .i64 (l[k]!.Tag.Count), .int .i64 (l[k]!.Tag.Client)]) hp48.get0 (by kernel_rfl)) .nil) (by kernel_rfl) (fun b56 => ?_)
        refine OPS.cons (opStep.call (some 41) [GCall.val (l[k]!)] (by kernel_rfl) (linear_part (l[k]!) _) ?_)
        rintro _ w59 ⟨b62, rfl, hb63, hf60⟩
        refine ⟨_, rfl, ?_⟩
        have hp61 := hp48.step hf60
        refine OPS.nil ?_
        refine thn_n ?_
        refine WP.test (p := partC (l[k]!)) rfl hb63 (fun h64 => ?_) (fun h64 => ?_)
        · refine WP.seq ?_
          refine WP.pure {} [] [0, 5, 6, 9, 19, 20, 21] [.slice a l.length cp, .pointer (some ⟨g9, 0, none⟩), .int .i64 ct, .int .i64 ct, .slice a l.length cp, .int .i64 ((l.length : Nat) : Int), .int .i64 (k : Int)] .nil (by kernel_rfl) (fun b65 => ?_)
          refine thn_n ?_
          refine WP.pure {} [] [0, 5, 6, 9, 19, 20, 21] [.slice a l.length cp, .pointer (some ⟨g9, 0, none⟩), .int .i64 (ct + 1), .int .i64 ct, .slice a l.length cp, .int .i64 ((l.length : Nat) : Int), .int .i64 (k : Int)] (.cons (show Rng .i64 (ct + 1) from Rng.i64 (by omega)) .nil) (by kernel_rfl) (fun b66 => ?_)
          refine thn_n ?_
          exact ⟨ct + 1, ct, Or.inl ⟨rfl, rfl, h64, trivial⟩, by kernel_rfl, hp61⟩
        · refine WP.skip ?_
          refine thn_n ?_
          exact ⟨ct, (-1), Or.inr (⟨rfl, rfl, h64, trivial⟩), by kernel_rfl, hp61⟩
      rintro e69 w70 ⟨x67, x68, hd72, hE73, hp71⟩
      obtain ⟨b74, rfl⟩ := toMk hE73
      clear hE73
      refine WP.region _ rfl (by kernel_rfl) ?_
      refine OPS.batch 6 {} [.slice a2 n2 c2] [0, 5, 6, 19, 20, 21, 45, 49, 50] [.slice a l.length cp, .pointer (some ⟨g9, 0, none⟩), .int .i64 x67, .slice a l.length cp, .int .i64 ((l.length : Nat) : Int), .int .i64 (k : Int), .pointer (some ⟨g9, 0, none⟩), .slice a2 n2 c2, .int .i64 x68] (.cons (Ld.row1 (P := Try.prog) (t := 24) (o := 2) (v := .slice a2 n2 c2) hp71.get2 (by kernel_rfl)) .nil) (by kernel_rfl) (fun b75 => ?_)
      refine OPS.cons (opStep.buildSlice (E := 3) hp71 [.int .i64 x68] (by kernel_rfl) (fun g78 w76 hp77 => ?_))
      refine OPS.cons (opStep.append2 [.int .i64 x68] hp77 8 (by kernel_rfl) rfl rfl rfl (SlR.row (n := 1) hp77.get0 rfl).rd (List.all_eq_true.1 (by kernel_rfl)) (by decide) (by omega) (by omega) (fun a81 c82 w83 hp84 hn85 => ?_))
      rw [(show List.flatMap (fun (y : Int) => [Go.Value.int .i64 y]) bs ++ [.int .i64 x68] = List.flatMap (fun (y : Int) => [Go.Value.int .i64 y]) (bs ++ [x68]) from (List.flatMap_append (xs := bs) (ys := [x68])).symm)] at hp84
      refine OPS.batch 2 {} [] [0, 5, 6, 19, 20, 21, 52, 54] [.slice a l.length cp, .pointer (some ⟨g9, 0, none⟩), .int .i64 x67, .slice a l.length cp, .int .i64 ((l.length : Nat) : Int), .int .i64 (k : Int), .slice a81 (n2 + 1) c82, .pointer (some ⟨g9, 2, none⟩)] .nil (by kernel_rfl) (fun b86 => ?_)
      refine OPS.cons (opStep.store3 hp84 rfl [.slice a81 (n2 + 1) c82] [.slice a l.length cp, .slice none 0 0, .slice a81 (n2 + 1) c82, .int .u32 0, .map (some g5), .slice none 0 0] (by kernel_rfl) (fun w87 hp88 => ?_))
      refine OPS.nil ?_
      refine blk_n ?_
      refine thn_n ?_
      refine WP.pure {} [] [0, 5, 6, 19, 20, 21] [.slice a l.length cp, .pointer (some ⟨g9, 0, none⟩), .int .i64 x67, .slice a l.length cp, .int .i64 ((l.length : Nat) : Int), .int .i64 ((k : Int) + 1)] (.cons (show Rng .i64 ((k : Int) + 1) from Rng.i64 (by omega)) .nil) (by kernel_rfl) (fun b89 => ?_)
      refine thn_n ?_
      exact ⟨l.length - (k + 1), (by omega), k + 1, x67, bs ++ [x68], a81, n2 + 1, c82, rfl, ⟨by omega, (bits_step h2 h3 (by rcases hd72 with hq | hq; exact .inl ⟨hq.1, hq.2.1, hq.2.2.1⟩; exact .inr ⟨hq.1, hq.2.1, hq.2.2.1⟩)).1, (bits_step h2 h3 (by rcases hd72 with hq | hq; exact .inl ⟨hq.1, hq.2.1, hq.2.2.1⟩; exact .inr ⟨hq.1, hq.2.1, hq.2.2.1⟩)).2, by omega, fun j hj => by rcases Nat.lt_or_ge j k with q | q; exact h5 j q; (obtain rfl : j = k := by omega); simp only [okArg]; omega⟩, by kernel_rfl, (hp88.sub (.cons _ (.cons _ (.cons_cons _ (.cons_cons _ (.cons_cons _ (.slnil)))))))⟩
  · refine WP.exit ?_
    refine thn_x ?_
    refine thn_x ?_
    refine blk_hit ?_
    refine thn_n ?_
    refine WP.seq ?_
    refine WP.seq ?_
    refine WP.pure {} [] [0, 5, 57] [.slice a l.length cp, .pointer (some ⟨g9, 0, none⟩), .bool (decide (24 < ct))] .nil (by kernel_rfl) (fun b90 => ?_)
    refine thn_n ?_
    refine WP.test (p := 24 < ct) rfl Bp.dec (fun h91 => ?_) (fun h91 => ?_)
    · refine WP.seq ?_
      refine WP.pure {} [] [2, 3, 4] [.slice none 0 0, .bool false, .int .i64 4] .nil (by kernel_rfl) (fun b92 => ?_)
      refine thn_n ?_
      refine WP.ret ?_
      refine thn_r ?_
      refine bodyQ.of _ rfl [.slice none 0 0, .bool false, .int .i64 4] ⟨rfl, rfl, rfl, trivial⟩ ?_
      exact ⟨[], false, 4, none, 0, 0, rfl, .inr (.inl ⟨fun j hj => h5 j (by omega), (by have hk : k = l.length := (by omega); rw [hk] at h2; omega), rfl, rfl, rfl⟩), ((hp16.nil).nilOwn 3 1)⟩
    · refine WP.skip ?_
      refine thn_n ?_
      refine WP.seq ?_
      refine WP.seq ?_
      refine WP.pure {} [] [0, 5, 58, 59, 60] [.slice a l.length cp, .pointer (some ⟨g9, 0, none⟩), .slice a l.length cp, .int .i64 ((l.length : Nat) : Int), .int .i64 0] .nil (by kernel_rfl) (fun b93 => ?_)
      refine thn_n ?_
      refine WP.block ?_
      have hk : k = l.length := by omega
      have hbsE : bs = bitsL l l.length := by rw [h3, hk]
      have hct : cntN l l.length ≤ 24 := by rw [hk] at h2; omega
      have hoks : ∀ j, j < l.length → okArg l[j]! := fun j hj => h5 j (by omega)
      have hball : ∀ j, j < l.length → mustC l[j]! → 0 ≤ bitN l j ∧ bitN l j < 24 := fun j hj hm => bit_part hj hct (.inl hm)
      have hbs : ∀ x ∈ bs, x < 32 := by rw [hbsE]; exact bit_lt hct
      have hlb : bs.length = l.length := by rw [hbsE]; exact bitsL_len _ _
      have hp94 := (show Hp w Non [Res.own 129 1 (.slice none 0 0) 0 (List.flatMap (fun (y : Nat) => [Go.Value.int .u32 (y : Int)]) ([] : List Nat)), Res.own 3 1 (.slice a2 n2 c2) n2 (List.flatMap (fun (y : Int) => [Go.Value.int .i64 y]) bs), Res.row g9 [.slice a l.length cp, .slice none 0 0, .slice a2 n2 c2, .int .u32 0, .map (some g5), .slice none 0 0] 131, Res.mp g5 kfS (fun y : Int => Go.Value.int .i64 y) ([] : List ((Nat × Int) × Int))] w15 from hp16.nilOwn 129 1)
      refine WP.loop (fun mz_ e95 w96 => ∃ (k2 : Nat) (nd : Nat) (ah : List Nat) (a1 : Option Addr) (n1 : Nat) (c1 : Nat), mz_ = l.length - k2 ∧ (k2 ≤ l.length ∧ nd = needN l k2 ∧ nd < 4294967296 ∧ ah = ahL l k2 ∧ n1 = k2 ∧ (∀ x ∈ ah, x < 4294967296)) ∧ List.map e95 [0, 5, 58, 59, 60] = [.slice a l.length cp, .pointer (some ⟨g9, 0, none⟩), .slice a l.length cp, .int .i64 ((l.length : Nat) : Int), .int .i64 (k2 : Int)] ∧ Hp w Non [Res.own 129 1 (.slice a1 n1 c1) n1 (List.flatMap (fun (y : Nat) => [Go.Value.int .u32 (y : Int)]) ah), Res.own 3 1 (.slice a2 n2 c2) n2 (List.flatMap (fun (y : Int) => [Go.Value.int .i64 y]) bs), Res.row g9 [.slice a l.length cp, .slice a1 n1 c1, .slice a2 n2 c2, .int .u32 ((nd : Nat) : Int), .map (some g5), .slice none 0 0] 131, Res.mp g5 kfS (fun y : Int => Go.Value.int .i64 y) ([] : List ((Nat × Int) × Int))] w96) (l.length - (0)) ⟨0, 0, ([] : List Nat), none, 0, 0, rfl, ⟨by omega, rfl, by decide, rfl, rfl, by simp⟩, by kernel_rfl, hp94⟩ ?_
      rintro _ e95 w96 ⟨k2, nd, ah, a1, n1, c1, rfl, hI98, hE99, hp97⟩
      obtain ⟨b100, rfl⟩ := toMk hE99
      clear hE99
      obtain ⟨u1, u2, u3, u4, u5, u6⟩ := hI98
      refine WP.seq ?_
      refine WP.pure {} [] [0, 5, 58, 59, 60, 61] [.slice a l.length cp, .pointer (some ⟨g9, 0, none⟩), .slice a l.length cp, .int .i64 ((l.length : Nat) : Int), .int .i64 (k2 : Int), .bool (decide ((k2 : Int) < ((l.length : Nat) : Int)))] .nil (by kernel_rfl) (fun b101 => ?_)
      refine thn_n ?_
      refine WP.seq ?_
      refine WP.test (p := (k2 : Int) < ((l.length : Nat) : Int)) rfl Bp.dec (fun h102 => ?_) (fun h102 => ?_)
      · refine WP.skip ?_
        refine thn_n ?_
        refine WP.seq ?_
        refine WP.block ?_
        refine WP.seq ?_
        refine WP.region _ rfl (by kernel_rfl) ?_
        have hy106 : (l)[k2]? = some l[k2]! := get_bang (by first | (omega) | (simp only [List.length_append, List.length_cons, List.length_nil]; omega) | (simp only [List.length_take, List.length_append, List.length_cons, List.length_nil]; omega))
        refine OPS.batch 3 {} [GCall.val (l[k2]!)] [0, 5, 58, 59, 60, 62, 64] [.slice a l.length cp, .pointer (some ⟨g9, 0, none⟩), .slice a l.length cp, .int .i64 ((l.length : Nat) : Int), .int .i64 (k2 : Int), .int .i64 (k2 : Int), GCall.val (l[k2]!)] (.cons (show InB ((k2 : Int)) (l.length) from ⟨by omega, by omega⟩) (.cons ((hs.at hp97).some (by omega)) (.cons (Ld.add0 (Ld.elN (P := Try.prog) (t := 73) (hs.at hp97).rd 11 (fun _ => rfl) hy106 (o := 0) (cs := [.int .i64 (l[k2]!.Client), .int .i64 (l[k2]!.Op), .bool (l[k2]!.Put), .string (l[k2]!.Key), .slice (l[k2]!.Value.a) (l[k2]!.Value.n) (l[k2]!.Value.c), .int .i64 (l[k2]!.Status), .int .i64 (l[k2]!.From), .int .i64 (l[k2]!.To), .bool (l[k2]!.Open), .int .i64 (l[k2]!.Tag.Count), .int .i64 (l[k2]!.Tag.Client)]) (by kernel_rfl))) .nil))) (by kernel_rfl) (fun b107 => ?_)
        refine OPS.cons (opStep.alloc hp97 [.int .i64 0, .int .i64 0, .bool false, .string ByteArray.empty, .slice none 0 0, .int .i64 0, .int .i64 0, .int .i64 0, .bool false, .int .i64 0, .int .i64 0] (by kernel_rfl) (fun g110 w108 hp109 => ?_))
        refine OPS.batch 1 {} [] [0, 5, 10, 11, 58, 59, 60, 64] [.slice a l.length cp, .pointer (some ⟨g9, 0, none⟩), .int .i64 (k2 : Int), .pointer (some ⟨g110, 0, none⟩), .slice a l.length cp, .int .i64 ((l.length : Nat) : Int), .int .i64 (k2 : Int), GCall.val (l[k2]!)] .nil (by kernel_rfl) (fun b111 => ?_)
        refine OPS.cons (opStep.store0 hp109 rfl [.int .i64 (l[k2]!.Client), .int .i64 (l[k2]!.Op), .bool (l[k2]!.Put), .string (l[k2]!.Key), .slice (l[k2]!.Value.a) (l[k2]!.Value.n) (l[k2]!.Value.c), .int .i64 (l[k2]!.Status), .int .i64 (l[k2]!.From), .int .i64 (l[k2]!.To), .bool (l[k2]!.Open), .int .i64 (l[k2]!.Tag.Count), .int .i64 (l[k2]!.Tag.Client)] [.int .i64 (l[k2]!.Client), .int .i64 (l[k2]!.Op), .bool (l[k2]!.Put), .string (l[k2]!.Key), .slice (l[k2]!.Value.a) (l[k2]!.Value.n) (l[k2]!.Value.c), .int .i64 (l[k2]!.Status), .int .i64 (l[k2]!.From), .int .i64 (l[k2]!.To), .bool (l[k2]!.Open), .int .i64 (l[k2]!.Tag.Count), .int .i64 (l[k2]!.Tag.Client)] (by kernel_rfl) (fun w112 hp113 => ?_))
        refine OPS.nil ?_
        refine thn_n ?_
        refine WP.cut (fun e140 w141 => ∃ (x139 : Nat), ((x139 = nd ||| (2 ^ (bs[k2]!).toNat) ∧ x139 < 4294967296 ∧ (mustC (l[k2]!)) ∧ True) ∨ (x139 = nd ∧ x139 < 4294967296 ∧ (¬ (mustC (l[k2]!))) ∧ True)) ∧ List.map e140 [0, 5, 10, 11, 58, 59, 60] = [.slice a l.length cp, .pointer (some ⟨g9, 0, none⟩), .int .i64 (k2 : Int), .pointer (some ⟨g110, 0, none⟩), .slice a l.length cp, .int .i64 ((l.length : Nat) : Int), .int .i64 (k2 : Int)] ∧ Hp w Non [Res.row g110 [.int .i64 (l[k2]!.Client), .int .i64 (l[k2]!.Op), .bool (l[k2]!.Put), .string (l[k2]!.Key), .slice (l[k2]!.Value.a) (l[k2]!.Value.n) (l[k2]!.Value.c), .int .i64 (l[k2]!.Status), .int .i64 (l[k2]!.From), .int .i64 (l[k2]!.To), .bool (l[k2]!.Open), .int .i64 (l[k2]!.Tag.Count), .int .i64 (l[k2]!.Tag.Client)] 73, Res.own 129 1 (.slice a1 n1 c1) n1 (List.flatMap (fun (y : Nat) => [Go.Value.int .u32 (y : Int)]) ah), Res.own 3 1 (.slice a2 n2 c2) n2 (List.flatMap (fun (y : Int) => [Go.Value.int .i64 y]) bs), Res.row g9 [.slice a l.length cp, .slice a1 n1 c1, .slice a2 n2 c2, .int .u32 ((x139 : Nat) : Int), .map (some g5), .slice none 0 0] 131, Res.mp g5 kfS (fun y : Int => Go.Value.int .i64 y) ([] : List ((Nat × Int) × Int))] w141) ?_ ?_
        · refine WP.seq ?_
          refine WP.region _ rfl (by kernel_rfl) ?_
          refine OPS.batch 1 {} [GCall.val (l[k2]!)] [0, 5, 10, 11, 58, 59, 60, 65] [.slice a l.length cp, .pointer (some ⟨g9, 0, none⟩), .int .i64 (k2 : Int), .pointer (some ⟨g110, 0, none⟩), .slice a l.length cp, .int .i64 ((l.length : Nat) : Int), .int .i64 (k2 : Int), GCall.val (l[k2]!)] (.cons (show Ld Try.prog w112 73 ⟨g110, 0, none⟩ (GCall.val (l[k2]!)) from Ld.rowN (cs := [.int .i64 (l[k2]!.Client), .int .i64 (l[k2]!.Op), .bool (l[k2]!.Put), .string (l[k2]!.Key), .slice (l[k2]!.Value.a) (l[k2]!.Value.n) (l[k2]!.Value.c), .int .i64 (l[k2]!.Status), .int .i64 (l[k2]!.From), .int .i64 (l[k2]!.To), .bool (l[k2]!.Open), .int .i64 (l[k2]!.Tag.Count), .int .i64 (l[k2]!.Tag.Client)]) hp113.get0 (by kernel_rfl)) .nil) (by kernel_rfl) (fun b115 => ?_)
          refine OPS.cons (opStep.call (some 66) [GCall.val (l[k2]!)] (by kernel_rfl) (linear_must (l[k2]!) _) ?_)
          rintro _ w118 ⟨b121, rfl, hb122, hf119⟩
          refine ⟨_, rfl, ?_⟩
          have hp120 := hp113.step hf119
          refine OPS.nil ?_
          refine thn_n ?_
          refine WP.test (p := mustC (l[k2]!)) rfl hb122 (fun h123 => ?_) (fun h123 => ?_)
          · have hp124 := hp120.drew
            have := own_flat (sz := 1) (fun _ => rfl) (by decide) hp124.get2
            have hy126 : (bs)[k2]? = some bs[k2]! := get_bang (by first | (omega) | (simp only [List.length_append, List.length_cons, List.length_nil]; omega) | (simp only [List.length_take, List.length_append, List.length_cons, List.length_nil]; omega))
            have hqhy126 := hball k2 (by omega) (by first | assumption | exact And.left (by assumption))
            rw [show bitN l k2 = bs[k2]! from by rw [hbsE, bitsL_get (by omega)]] at hqhy126
            refine WP.held (fun w127 => Ld Try.prog w127 129 ⟨g9, 3, none⟩ (.int .u32 ((nd : Nat) : Int)) ∧ Ld Try.prog w127 24 ⟨g9, 2, none⟩ (.slice a2 n2 c2) ∧ Ld Try.prog w127 3 ((adr a2).add (k2 * 1)) (.int .i64 (bs[k2]!)) ∧ True) [15] [(0, true), (1, true), (2, true), (3, true), (4, true), (5, true), (6, true), (7, true), (8, true), (9, true), (10, true), (11, true), (12, true), (13, false), (14, true), (15, false)] (np_thn (np_blk (np_thn (np_thn (np_blk (np_thn np_body)))))) (by kernel_rfl) ?_
            refine HOPS.take 13 { wraps := [78], subs := [78, 79] } [.int .u32 ((nd : Nat) : Int), .slice a2 n2 c2, .int .i64 (bs[k2]!), .int .u32 ((2 ^ (bs[k2]!).toNat : Nat) : Int), .int .u32 ((nd ||| (2 ^ (bs[k2]!).toNat) : Nat) : Int)] [0, 5, 10, 11, 58, 59, 60, 67, 79] [.slice a l.length cp, .pointer (some ⟨g9, 0, none⟩), .int .i64 (k2 : Int), .pointer (some ⟨g110, 0, none⟩), .slice a l.length cp, .int .i64 ((l.length : Nat) : Int), .int .i64 (k2 : Int), .pointer (some ⟨g9, 0, none⟩), .int .u32 ((nd ||| (2 ^ (bs[k2]!).toNat) : Nat) : Int)] (by kernel_rfl) ⟨(show Ld Try.prog w118.drew 129 ⟨g9, 3, none⟩ (.int .u32 ((nd : Nat) : Int)) from (Ld.row1 (P := Try.prog) (t := 129) (o := 3) (v := .int .u32 ((nd : Nat) : Int)) hp124.get3 (by kernel_rfl))), (show Ld Try.prog w118.drew 24 ⟨g9, 2, none⟩ (.slice a2 n2 c2) from (Ld.row1 (P := Try.prog) (t := 24) (o := 2) (v := .slice a2 n2 c2) hp124.get3 (by kernel_rfl))), (show Ld Try.prog w118.drew 3 ((adr a2).add (k2 * 1)) (.int .i64 (bs[k2]!)) from (Ld.add0 (Ld.el1 (P := Try.prog) (t := 3) (SlR.own (hp124.get2)).rd 1 (fun _ => rfl) hy126 (o := 0) (v := .int .i64 (bs[k2]!)) (by kernel_rfl)))), trivial⟩ (fun w128 hS129 => QB.mk (.cons (hS129.1) (.cons (hS129.2.1) (.cons (show InB ((k2 : Int)) (n2) from ⟨by omega, by omega⟩) (.cons ((SlR.own (hp124.get2)).some (by omega)) (.cons (hS129.2.2.1) (.cons (show (0 : Int) ≤ (bs[k2]!) from by omega) (.cons (show (.int .u32 (IntKind.u32.wrap (1 * 2 ^ (min (bs[k2]! : Int).toNat IntKind.u32.bits))) : Go.Value) = .int .u32 ((2 ^ (bs[k2]!).toNat : Nat) : Int) from congrArg (Value.int .u32) (u32_one (y := bs[k2]!) (by omega) (by omega))) (.cons (show (.int .u32 (IntKind.u32.wrap (BitVec.ofInt IntKind.u32.bits ((nd : Nat) : Int) ||| BitVec.ofInt IntKind.u32.bits ((2 ^ (bs[k2]!).toNat : Nat) : Int)).toNat) : Go.Value) = .int .u32 ((nd ||| (2 ^ (bs[k2]!).toNat) : Nat) : Int) from congrArg (Value.int .u32) (u32_or (a := nd) (b := 2 ^ (bs[k2]!).toNat) u3 (pow_lt32 (by omega)))) .nil)))))))) (by kernel_rfl)) (fun b130 => ?_)
            refine HOPS.one _ rfl {} [] [0, 5, 10, 11, 58, 59, 60, 79, 80] [.slice a l.length cp, .pointer (some ⟨g9, 0, none⟩), .int .i64 (k2 : Int), .pointer (some ⟨g110, 0, none⟩), .slice a l.length cp, .int .i64 ((l.length : Nat) : Int), .int .i64 (k2 : Int), .int .u32 ((nd ||| (2 ^ (bs[k2]!).toNat) : Nat) : Int), .pointer (some ⟨g9, 0, none⟩)] .nil (by kernel_rfl) ⟨(show Ld Try.prog w118.drew 129 ⟨g9, 3, none⟩ (.int .u32 ((nd : Nat) : Int)) from (Ld.row1 (P := Try.prog) (t := 129) (o := 3) (v := .int .u32 ((nd : Nat) : Int)) hp124.get3 (by kernel_rfl))), (show Ld Try.prog w118.drew 24 ⟨g9, 2, none⟩ (.slice a2 n2 c2) from (Ld.row1 (P := Try.prog) (t := 24) (o := 2) (v := .slice a2 n2 c2) hp124.get3 (by kernel_rfl))), (show Ld Try.prog w118.drew 3 ((adr a2).add (k2 * 1)) (.int .i64 (bs[k2]!)) from (Ld.add0 (Ld.el1 (P := Try.prog) (t := 3) (SlR.own (hp124.get2)).rd 1 (fun _ => rfl) hy126 (o := 0) (v := .int .i64 (bs[k2]!)) (by kernel_rfl)))), trivial⟩ (fun b133 => ?_)
            refine HOPS.take 1 {} [] [0, 5, 10, 11, 58, 59, 60, 79, 81] [.slice a l.length cp, .pointer (some ⟨g9, 0, none⟩), .int .i64 (k2 : Int), .pointer (some ⟨g110, 0, none⟩), .slice a l.length cp, .int .i64 ((l.length : Nat) : Int), .int .i64 (k2 : Int), .int .u32 ((nd ||| (2 ^ (bs[k2]!).toNat) : Nat) : Int), .pointer (some ⟨g9, 3, none⟩)] (by kernel_rfl) ⟨(show Ld Try.prog w118.drew 129 ⟨g9, 3, none⟩ (.int .u32 ((nd : Nat) : Int)) from (Ld.row1 (P := Try.prog) (t := 129) (o := 3) (v := .int .u32 ((nd : Nat) : Int)) hp124.get3 (by kernel_rfl))), (show Ld Try.prog w118.drew 24 ⟨g9, 2, none⟩ (.slice a2 n2 c2) from (Ld.row1 (P := Try.prog) (t := 24) (o := 2) (v := .slice a2 n2 c2) hp124.get3 (by kernel_rfl))), (show Ld Try.prog w118.drew 3 ((adr a2).add (k2 * 1)) (.int .i64 (bs[k2]!)) from (Ld.add0 (Ld.el1 (P := Try.prog) (t := 3) (SlR.own (hp124.get2)).rd 1 (fun _ => rfl) hy126 (o := 0) (v := .int .i64 (bs[k2]!)) (by kernel_rfl)))), trivial⟩ (fun w134 hS135 => QB.mk .nil (by kernel_rfl)) (fun b136 => ?_)
            refine HOPS.eff _ rfl (opStep.store3 hp124 rfl [.int .u32 ((nd ||| (2 ^ (bs[k2]!).toNat) : Nat) : Int)] [.slice a l.length cp, .slice a1 n1 c1, .slice a2 n2 c2, .int .u32 ((nd ||| (2 ^ (bs[k2]!).toNat) : Nat) : Int), .map (some g5), .slice none 0 0] (by kernel_rfl) (fun w137 hp138 => ?_))
            refine ⟨.inl rfl, ?_⟩
            refine HOPS.nil ?_
            refine thn_n ?_
            exact ⟨nd ||| (2 ^ (bs[k2]!).toNat), Or.inl ⟨rfl, (or_lt32 u3 (pow_lt32 (by omega))), h123, trivial⟩, by kernel_rfl, hp138⟩
          · refine WP.skip ?_
            refine thn_n ?_
            exact ⟨nd, Or.inr (⟨rfl, u3, h123, trivial⟩), by kernel_rfl, hp120⟩
        rintro e140 w141 ⟨x139, hd143, hE144, hp142⟩
        obtain ⟨b145, rfl⟩ := toMk hE144
        clear hE144
        refine WP.seq ?_
        refine WP.pure {} [] [0, 5, 10, 11, 12, 58, 59, 60] [.slice a l.length cp, .pointer (some ⟨g9, 0, none⟩), .int .i64 (k2 : Int), .pointer (some ⟨g110, 0, none⟩), .int .u32 0, .slice a l.length cp, .int .i64 ((l.length : Nat) : Int), .int .i64 (k2 : Int)] .nil (by kernel_rfl) (fun b146 => ?_)
        refine thn_n ?_
        refine WP.seq ?_
        refine WP.seq ?_
        refine WP.pure {} [] [0, 5, 10, 11, 12, 58, 59, 60, 82, 83, 84] [.slice a l.length cp, .pointer (some ⟨g9, 0, none⟩), .int .i64 (k2 : Int), .pointer (some ⟨g110, 0, none⟩), .int .u32 0, .slice a l.length cp, .int .i64 ((l.length : Nat) : Int), .int .i64 (k2 : Int), .slice a l.length cp, .int .i64 ((l.length : Nat) : Int), .int .i64 0] .nil (by kernel_rfl) (fun b147 => ?_)
        refine thn_n ?_
        refine WP.block ?_
        refine WP.loop (fun mz_ e148 w149 => ∃ (j : Nat) (bf : Nat), mz_ = l.length - j ∧ (j ≤ l.length ∧ bf = befN l k2 j ∧ bf < 4294967296) ∧ List.map e148 [0, 5, 10, 11, 12, 58, 59, 60, 82, 83, 84] = [.slice a l.length cp, .pointer (some ⟨g9, 0, none⟩), .int .i64 (k2 : Int), .pointer (some ⟨g110, 0, none⟩), .int .u32 ((bf : Nat) : Int), .slice a l.length cp, .int .i64 ((l.length : Nat) : Int), .int .i64 (k2 : Int), .slice a l.length cp, .int .i64 ((l.length : Nat) : Int), .int .i64 (j : Int)] ∧ Hp w Non [Res.row g110 [.int .i64 (l[k2]!.Client), .int .i64 (l[k2]!.Op), .bool (l[k2]!.Put), .string (l[k2]!.Key), .slice (l[k2]!.Value.a) (l[k2]!.Value.n) (l[k2]!.Value.c), .int .i64 (l[k2]!.Status), .int .i64 (l[k2]!.From), .int .i64 (l[k2]!.To), .bool (l[k2]!.Open), .int .i64 (l[k2]!.Tag.Count), .int .i64 (l[k2]!.Tag.Client)] 73, Res.own 129 1 (.slice a1 n1 c1) n1 (List.flatMap (fun (y : Nat) => [Go.Value.int .u32 (y : Int)]) ah), Res.own 3 1 (.slice a2 n2 c2) n2 (List.flatMap (fun (y : Int) => [Go.Value.int .i64 y]) bs), Res.row g9 [.slice a l.length cp, .slice a1 n1 c1, .slice a2 n2 c2, .int .u32 ((x139 : Nat) : Int), .map (some g5), .slice none 0 0] 131, Res.mp g5 kfS (fun y : Int => Go.Value.int .i64 y) ([] : List ((Nat × Int) × Int))] w149) (l.length - (0)) ⟨0, 0, rfl, ⟨by omega, rfl, by decide⟩, by kernel_rfl, hp142⟩ ?_
        rintro _ e148 w149 ⟨j, bf, rfl, hI151, hE152, hp150⟩
        obtain ⟨b153, rfl⟩ := toMk hE152
        clear hE152
        obtain ⟨f1, f2, f3⟩ := hI151
        refine WP.seq ?_
        refine WP.pure {} [] [0, 5, 10, 11, 12, 58, 59, 60, 82, 83, 84, 85] [.slice a l.length cp, .pointer (some ⟨g9, 0, none⟩), .int .i64 (k2 : Int), .pointer (some ⟨g110, 0, none⟩), .int .u32 ((bf : Nat) : Int), .slice a l.length cp, .int .i64 ((l.length : Nat) : Int), .int .i64 (k2 : Int), .slice a l.length cp, .int .i64 ((l.length : Nat) : Int), .int .i64 (j : Int), .bool (decide ((j : Int) < ((l.length : Nat) : Int)))] .nil (by kernel_rfl) (fun b154 => ?_)
        refine thn_n ?_
        refine WP.seq ?_
        refine WP.test (p := (j : Int) < ((l.length : Nat) : Int)) rfl Bp.dec (fun h155 => ?_) (fun h155 => ?_)
        · refine WP.skip ?_
          refine thn_n ?_
          refine WP.seq ?_
          refine WP.block ?_
          refine WP.seq ?_
          refine WP.region _ rfl (by kernel_rfl) ?_
          have hy159 : (l)[j]? = some l[j]! := get_bang (by first | (omega) | (simp only [List.length_append, List.length_cons, List.length_nil]; omega) | (simp only [List.length_take, List.length_append, List.length_cons, List.length_nil]; omega))
          refine OPS.batch 3 {} [GCall.val (l[j]!)] [0, 5, 10, 11, 12, 58, 59, 60, 82, 83, 84, 86, 88] [.slice a l.length cp, .pointer (some ⟨g9, 0, none⟩), .int .i64 (k2 : Int), .pointer (some ⟨g110, 0, none⟩), .int .u32 ((bf : Nat) : Int), .slice a l.length cp, .int .i64 ((l.length : Nat) : Int), .int .i64 (k2 : Int), .slice a l.length cp, .int .i64 ((l.length : Nat) : Int), .int .i64 (j : Int), .int .i64 (j : Int), GCall.val (l[j]!)] (.cons (show InB ((j : Int)) (l.length) from ⟨by omega, by omega⟩) (.cons ((hs.at hp150).some (by omega)) (.cons (Ld.add0 (Ld.elN (P := Try.prog) (t := 73) (hs.at hp150).rd 11 (fun _ => rfl) hy159 (o := 0) (cs := [.int .i64 (l[j]!.Client), .int .i64 (l[j]!.Op), .bool (l[j]!.Put), .string (l[j]!.Key), .slice (l[j]!.Value.a) (l[j]!.Value.n) (l[j]!.Value.c), .int .i64 (l[j]!.Status), .int .i64 (l[j]!.From), .int .i64 (l[j]!.To), .bool (l[j]!.Open), .int .i64 (l[j]!.Tag.Count), .int .i64 (l[j]!.Tag.Client)]) (by kernel_rfl))) .nil))) (by kernel_rfl) (fun b160 => ?_)
          refine OPS.cons (opStep.alloc hp150 [.int .i64 0, .int .i64 0, .bool false, .string ByteArray.empty, .slice none 0 0, .int .i64 0, .int .i64 0, .int .i64 0, .bool false, .int .i64 0, .int .i64 0] (by kernel_rfl) (fun g163 w161 hp162 => ?_))
          refine OPS.batch 1 {} [] [0, 5, 10, 11, 12, 13, 14, 58, 59, 60, 82, 83, 84, 88] [.slice a l.length cp, .pointer (some ⟨g9, 0, none⟩), .int .i64 (k2 : Int), .pointer (some ⟨g110, 0, none⟩), .int .u32 ((bf : Nat) : Int), .int .i64 (j : Int), .pointer (some ⟨g163, 0, none⟩), .slice a l.length cp, .int .i64 ((l.length : Nat) : Int), .int .i64 (k2 : Int), .slice a l.length cp, .int .i64 ((l.length : Nat) : Int), .int .i64 (j : Int), GCall.val (l[j]!)] .nil (by kernel_rfl) (fun b164 => ?_)
          refine OPS.cons (opStep.store0 hp162 rfl [.int .i64 (l[j]!.Client), .int .i64 (l[j]!.Op), .bool (l[j]!.Put), .string (l[j]!.Key), .slice (l[j]!.Value.a) (l[j]!.Value.n) (l[j]!.Value.c), .int .i64 (l[j]!.Status), .int .i64 (l[j]!.From), .int .i64 (l[j]!.To), .bool (l[j]!.Open), .int .i64 (l[j]!.Tag.Count), .int .i64 (l[j]!.Tag.Client)] [.int .i64 (l[j]!.Client), .int .i64 (l[j]!.Op), .bool (l[j]!.Put), .string (l[j]!.Key), .slice (l[j]!.Value.a) (l[j]!.Value.n) (l[j]!.Value.c), .int .i64 (l[j]!.Status), .int .i64 (l[j]!.From), .int .i64 (l[j]!.To), .bool (l[j]!.Open), .int .i64 (l[j]!.Tag.Count), .int .i64 (l[j]!.Tag.Client)] (by kernel_rfl) (fun w165 hp166 => ?_))
          refine OPS.nil ?_
          refine thn_n ?_
          refine WP.cut (fun e192 w193 => ∃ (x190 : Bool), (True) ∧ Bp x190 ((mustC (l[j]!)) ∧ (0 ≤ (l[j]!.To)) ∧ ((l[j]!.To) < (l[k2]!.From)) ∧ (¬ ((j : Int) = (k2 : Int)))) ∧ List.map e192 [0, 5, 10, 11, 12, 13, 58, 59, 60, 82, 83, 84, 107] = [.slice a l.length cp, .pointer (some ⟨g9, 0, none⟩), .int .i64 (k2 : Int), .pointer (some ⟨g110, 0, none⟩), .int .u32 ((bf : Nat) : Int), .int .i64 (j : Int), .slice a l.length cp, .int .i64 ((l.length : Nat) : Int), .int .i64 (k2 : Int), .slice a l.length cp, .int .i64 ((l.length : Nat) : Int), .int .i64 (j : Int), .bool x190] ∧ Hp w Non [Res.row g163 [.int .i64 (l[j]!.Client), .int .i64 (l[j]!.Op), .bool (l[j]!.Put), .string (l[j]!.Key), .slice (l[j]!.Value.a) (l[j]!.Value.n) (l[j]!.Value.c), .int .i64 (l[j]!.Status), .int .i64 (l[j]!.From), .int .i64 (l[j]!.To), .bool (l[j]!.Open), .int .i64 (l[j]!.Tag.Count), .int .i64 (l[j]!.Tag.Client)] 73, Res.row g110 [.int .i64 (l[k2]!.Client), .int .i64 (l[k2]!.Op), .bool (l[k2]!.Put), .string (l[k2]!.Key), .slice (l[k2]!.Value.a) (l[k2]!.Value.n) (l[k2]!.Value.c), .int .i64 (l[k2]!.Status), .int .i64 (l[k2]!.From), .int .i64 (l[k2]!.To), .bool (l[k2]!.Open), .int .i64 (l[k2]!.Tag.Count), .int .i64 (l[k2]!.Tag.Client)] 73, Res.own 129 1 (.slice a1 n1 c1) n1 (List.flatMap (fun (y : Nat) => [Go.Value.int .u32 (y : Int)]) ah), Res.own 3 1 (.slice a2 n2 c2) n2 (List.flatMap (fun (y : Int) => [Go.Value.int .i64 y]) bs), Res.row g9 [.slice a l.length cp, .slice a1 n1 c1, .slice a2 n2 c2, .int .u32 ((x139 : Nat) : Int), .map (some g5), .slice none 0 0] 131, Res.mp g5 kfS (fun y : Int => Go.Value.int .i64 y) ([] : List ((Nat × Int) × Int))] w193) ?_ ?_
          · refine WP.region _ rfl (by kernel_rfl) ?_
            refine OPS.batch 1 {} [GCall.val (l[j]!)] [0, 5, 10, 11, 12, 13, 14, 58, 59, 60, 82, 83, 84, 89] [.slice a l.length cp, .pointer (some ⟨g9, 0, none⟩), .int .i64 (k2 : Int), .pointer (some ⟨g110, 0, none⟩), .int .u32 ((bf : Nat) : Int), .int .i64 (j : Int), .pointer (some ⟨g163, 0, none⟩), .slice a l.length cp, .int .i64 ((l.length : Nat) : Int), .int .i64 (k2 : Int), .slice a l.length cp, .int .i64 ((l.length : Nat) : Int), .int .i64 (j : Int), GCall.val (l[j]!)] (.cons (show Ld Try.prog w165 73 ⟨g163, 0, none⟩ (GCall.val (l[j]!)) from Ld.rowN (cs := [.int .i64 (l[j]!.Client), .int .i64 (l[j]!.Op), .bool (l[j]!.Put), .string (l[j]!.Key), .slice (l[j]!.Value.a) (l[j]!.Value.n) (l[j]!.Value.c), .int .i64 (l[j]!.Status), .int .i64 (l[j]!.From), .int .i64 (l[j]!.To), .bool (l[j]!.Open), .int .i64 (l[j]!.Tag.Count), .int .i64 (l[j]!.Tag.Client)]) hp166.get0 (by kernel_rfl)) .nil) (by kernel_rfl) (fun b168 => ?_)
            refine OPS.cons (opStep.call (some 90) [GCall.val (l[j]!)] (by kernel_rfl) (linear_must (l[j]!) _) ?_)
            rintro _ w171 ⟨b174, rfl, hb175, hf172⟩
            refine ⟨_, rfl, ?_⟩
            have hp173 := hp166.step hf172
            refine OPS.batch 1 {} [] [0, 5, 10, 11, 12, 13, 14, 58, 59, 60, 82, 83, 84, 91] [.slice a l.length cp, .pointer (some ⟨g9, 0, none⟩), .int .i64 (k2 : Int), .pointer (some ⟨g110, 0, none⟩), .int .u32 ((bf : Nat) : Int), .int .i64 (j : Int), .pointer (some ⟨g163, 0, none⟩), .slice a l.length cp, .int .i64 ((l.length : Nat) : Int), .int .i64 (k2 : Int), .slice a l.length cp, .int .i64 ((l.length : Nat) : Int), .int .i64 (j : Int), .bool b174] .nil (by kernel_rfl) (fun b176 => ?_)
            by_cases h177 : mustC (l[j]!)
            · rw [show b174 = true from hb175.tt h177]
              refine OPS.batch 5 { wraps := [95] } [.int .i64 (l[j]!.To)] [0, 5, 10, 11, 12, 13, 14, 58, 59, 60, 82, 83, 84, 96] [.slice a l.length cp, .pointer (some ⟨g9, 0, none⟩), .int .i64 (k2 : Int), .pointer (some ⟨g110, 0, none⟩), .int .u32 ((bf : Nat) : Int), .int .i64 (j : Int), .pointer (some ⟨g163, 0, none⟩), .slice a l.length cp, .int .i64 ((l.length : Nat) : Int), .int .i64 (k2 : Int), .slice a l.length cp, .int .i64 ((l.length : Nat) : Int), .int .i64 (j : Int), .bool (decide (0 ≤ (l[j]!.To)))] (.cons (Ld.row1 (P := Try.prog) (t := 3) (o := 7) (v := .int .i64 (l[j]!.To)) hp173.get0 (by kernel_rfl)) .nil) (by kernel_rfl) (fun b178 => ?_)
              by_cases h179 : 0 ≤ (l[j]!.To)
              · refine OPS.batch 0 {} [] [0, 5, 10, 11, 12, 13, 14, 58, 59, 60, 82, 83, 84, 96] [.slice a l.length cp, .pointer (some ⟨g9, 0, none⟩), .int .i64 (k2 : Int), .pointer (some ⟨g110, 0, none⟩), .int .u32 ((bf : Nat) : Int), .int .i64 (j : Int), .pointer (some ⟨g163, 0, none⟩), .slice a l.length cp, .int .i64 ((l.length : Nat) : Int), .int .i64 (k2 : Int), .slice a l.length cp, .int .i64 ((l.length : Nat) : Int), .int .i64 (j : Int), .bool (decide (0 ≤ (l[j]!.To)))] .nil (by kernel_rfl) (fun b180 => ?_)
                refine OPS.re [.slice a l.length cp, .pointer (some ⟨g9, 0, none⟩), .int .i64 (k2 : Int), .pointer (some ⟨g110, 0, none⟩), .int .u32 ((bf : Nat) : Int), .int .i64 (j : Int), .pointer (some ⟨g163, 0, none⟩), .slice a l.length cp, .int .i64 ((l.length : Nat) : Int), .int .i64 (k2 : Int), .slice a l.length cp, .int .i64 ((l.length : Nat) : Int), .int .i64 (j : Int), .bool true] (by rw [show (decide (0 ≤ (l[j]!.To))) = true from Bp.dec.tt h179]) ?_
                refine OPS.batch 7 { wraps := [102] } [.int .i64 (l[j]!.To), .int .i64 (l[k2]!.From)] [0, 5, 10, 11, 12, 13, 58, 59, 60, 82, 83, 84, 103] [.slice a l.length cp, .pointer (some ⟨g9, 0, none⟩), .int .i64 (k2 : Int), .pointer (some ⟨g110, 0, none⟩), .int .u32 ((bf : Nat) : Int), .int .i64 (j : Int), .slice a l.length cp, .int .i64 ((l.length : Nat) : Int), .int .i64 (k2 : Int), .slice a l.length cp, .int .i64 ((l.length : Nat) : Int), .int .i64 (j : Int), .bool (decide ((l[j]!.To) < (l[k2]!.From)))] (.cons (Ld.row1 (P := Try.prog) (t := 3) (o := 7) (v := .int .i64 (l[j]!.To)) hp173.get0 (by kernel_rfl)) (.cons (Ld.row1 (P := Try.prog) (t := 3) (o := 6) (v := .int .i64 (l[k2]!.From)) hp173.get1 (by kernel_rfl)) .nil)) (by kernel_rfl) (fun b181 => ?_)
                by_cases h182 : (l[j]!.To) < (l[k2]!.From)
                · refine OPS.batch 0 {} [] [0, 5, 10, 11, 12, 13, 58, 59, 60, 82, 83, 84, 103] [.slice a l.length cp, .pointer (some ⟨g9, 0, none⟩), .int .i64 (k2 : Int), .pointer (some ⟨g110, 0, none⟩), .int .u32 ((bf : Nat) : Int), .int .i64 (j : Int), .slice a l.length cp, .int .i64 ((l.length : Nat) : Int), .int .i64 (k2 : Int), .slice a l.length cp, .int .i64 ((l.length : Nat) : Int), .int .i64 (j : Int), .bool (decide ((l[j]!.To) < (l[k2]!.From)))] .nil (by kernel_rfl) (fun b183 => ?_)
                  refine OPS.re [.slice a l.length cp, .pointer (some ⟨g9, 0, none⟩), .int .i64 (k2 : Int), .pointer (some ⟨g110, 0, none⟩), .int .u32 ((bf : Nat) : Int), .int .i64 (j : Int), .slice a l.length cp, .int .i64 ((l.length : Nat) : Int), .int .i64 (k2 : Int), .slice a l.length cp, .int .i64 ((l.length : Nat) : Int), .int .i64 (j : Int), .bool true] (by rw [show (decide ((l[j]!.To) < (l[k2]!.From))) = true from Bp.dec.tt h182]) ?_
                  refine OPS.batch 4 { wraps := [107] } [] [0, 5, 10, 11, 12, 13, 58, 59, 60, 82, 83, 84, 107] [.slice a l.length cp, .pointer (some ⟨g9, 0, none⟩), .int .i64 (k2 : Int), .pointer (some ⟨g110, 0, none⟩), .int .u32 ((bf : Nat) : Int), .int .i64 (j : Int), .slice a l.length cp, .int .i64 ((l.length : Nat) : Int), .int .i64 (k2 : Int), .slice a l.length cp, .int .i64 ((l.length : Nat) : Int), .int .i64 (j : Int), .bool (decide (¬ ((j : Int) = (k2 : Int))))] .nil (by kernel_rfl) (fun b184 => ?_)
                  refine OPS.nil ?_
                  refine thn_n ?_
                  exact ⟨decide (¬ ((j : Int) = (k2 : Int))), trivial, Bp.of Bp.dec (by first | (simp only [h177, h179, h182, iff_false, false_iff, iff_true, true_iff, Classical.not_not, and_true, true_and, and_false, false_and, or_true, true_or, or_false, false_or, not_true_eq_false, not_false_eq_true, and_self, or_self, iff_self]; done) | (simp [h177, h179, h182]; done) | grind | (simp_all; done)), by kernel_rfl, hp173⟩
                · refine OPS.batch 0 {} [] [0, 5, 10, 11, 12, 13, 58, 59, 60, 82, 83, 84, 103] [.slice a l.length cp, .pointer (some ⟨g9, 0, none⟩), .int .i64 (k2 : Int), .pointer (some ⟨g110, 0, none⟩), .int .u32 ((bf : Nat) : Int), .int .i64 (j : Int), .slice a l.length cp, .int .i64 ((l.length : Nat) : Int), .int .i64 (k2 : Int), .slice a l.length cp, .int .i64 ((l.length : Nat) : Int), .int .i64 (j : Int), .bool (decide ((l[j]!.To) < (l[k2]!.From)))] .nil (by kernel_rfl) (fun b185 => ?_)
                  refine OPS.re [.slice a l.length cp, .pointer (some ⟨g9, 0, none⟩), .int .i64 (k2 : Int), .pointer (some ⟨g110, 0, none⟩), .int .u32 ((bf : Nat) : Int), .int .i64 (j : Int), .slice a l.length cp, .int .i64 ((l.length : Nat) : Int), .int .i64 (k2 : Int), .slice a l.length cp, .int .i64 ((l.length : Nat) : Int), .int .i64 (j : Int), .bool false] (by rw [show (decide ((l[j]!.To) < (l[k2]!.From))) = false from Bp.dec.ff h182]) ?_
                  refine OPS.batch 4 { wraps := [107] } [] [0, 5, 10, 11, 12, 13, 58, 59, 60, 82, 83, 84, 107] [.slice a l.length cp, .pointer (some ⟨g9, 0, none⟩), .int .i64 (k2 : Int), .pointer (some ⟨g110, 0, none⟩), .int .u32 ((bf : Nat) : Int), .int .i64 (j : Int), .slice a l.length cp, .int .i64 ((l.length : Nat) : Int), .int .i64 (k2 : Int), .slice a l.length cp, .int .i64 ((l.length : Nat) : Int), .int .i64 (j : Int), .bool false] .nil (by kernel_rfl) (fun b186 => ?_)
                  refine OPS.nil ?_
                  refine thn_n ?_
                  exact ⟨false, trivial, Bp.of Bp.f (by first | (simp only [h177, h179, h182, iff_false, false_iff, iff_true, true_iff, Classical.not_not, and_true, true_and, and_false, false_and, or_true, true_or, or_false, false_or, not_true_eq_false, not_false_eq_true, and_self, or_self, iff_self]; done) | (simp [h177, h179, h182]; done) | grind | (simp_all; done)), by kernel_rfl, hp173⟩
              · refine OPS.batch 0 {} [] [0, 5, 10, 11, 12, 13, 14, 58, 59, 60, 82, 83, 84, 96] [.slice a l.length cp, .pointer (some ⟨g9, 0, none⟩), .int .i64 (k2 : Int), .pointer (some ⟨g110, 0, none⟩), .int .u32 ((bf : Nat) : Int), .int .i64 (j : Int), .pointer (some ⟨g163, 0, none⟩), .slice a l.length cp, .int .i64 ((l.length : Nat) : Int), .int .i64 (k2 : Int), .slice a l.length cp, .int .i64 ((l.length : Nat) : Int), .int .i64 (j : Int), .bool (decide (0 ≤ (l[j]!.To)))] .nil (by kernel_rfl) (fun b187 => ?_)
                refine OPS.re [.slice a l.length cp, .pointer (some ⟨g9, 0, none⟩), .int .i64 (k2 : Int), .pointer (some ⟨g110, 0, none⟩), .int .u32 ((bf : Nat) : Int), .int .i64 (j : Int), .pointer (some ⟨g163, 0, none⟩), .slice a l.length cp, .int .i64 ((l.length : Nat) : Int), .int .i64 (k2 : Int), .slice a l.length cp, .int .i64 ((l.length : Nat) : Int), .int .i64 (j : Int), .bool false] (by rw [show (decide (0 ≤ (l[j]!.To))) = false from Bp.dec.ff h179]) ?_
                refine OPS.batch 11 { wraps := [102, 107] } [] [0, 5, 10, 11, 12, 13, 58, 59, 60, 82, 83, 84, 107] [.slice a l.length cp, .pointer (some ⟨g9, 0, none⟩), .int .i64 (k2 : Int), .pointer (some ⟨g110, 0, none⟩), .int .u32 ((bf : Nat) : Int), .int .i64 (j : Int), .slice a l.length cp, .int .i64 ((l.length : Nat) : Int), .int .i64 (k2 : Int), .slice a l.length cp, .int .i64 ((l.length : Nat) : Int), .int .i64 (j : Int), .bool false] .nil (by kernel_rfl) (fun b188 => ?_)
                refine OPS.nil ?_
                refine thn_n ?_
                exact ⟨false, trivial, Bp.of Bp.f (by first | (simp only [h177, h179, iff_false, false_iff, iff_true, true_iff, Classical.not_not, and_true, true_and, and_false, false_and, or_true, true_or, or_false, false_or, not_true_eq_false, not_false_eq_true, and_self, or_self, iff_self]; done) | (simp [h177, h179]; done) | grind | (simp_all; done)), by kernel_rfl, hp173⟩
            · rw [show b174 = false from hb175.ff h177]
              refine OPS.batch 16 { wraps := [95, 102, 107] } [] [0, 5, 10, 11, 12, 13, 58, 59, 60, 82, 83, 84, 107] [.slice a l.length cp, .pointer (some ⟨g9, 0, none⟩), .int .i64 (k2 : Int), .pointer (some ⟨g110, 0, none⟩), .int .u32 ((bf : Nat) : Int), .int .i64 (j : Int), .slice a l.length cp, .int .i64 ((l.length : Nat) : Int), .int .i64 (k2 : Int), .slice a l.length cp, .int .i64 ((l.length : Nat) : Int), .int .i64 (j : Int), .bool false] .nil (by kernel_rfl) (fun b189 => ?_)
              refine OPS.nil ?_
              refine thn_n ?_
              exact ⟨false, trivial, Bp.of Bp.f (by first | (simp only [h177, iff_false, false_iff, iff_true, true_iff, Classical.not_not, and_true, true_and, and_false, false_and, or_true, true_or, or_false, false_or, not_true_eq_false, not_false_eq_true, and_self, or_self, iff_self]; done) | (simp [h177]; done) | grind | (simp_all; done)), by kernel_rfl, hp173⟩
          rintro e192 w193 ⟨x190, hd195, hb191, hE196, hp194⟩
          obtain ⟨b197, rfl⟩ := toMk hE196
          clear hE196
          clear hd195
          refine WP.test (p := (mustC (l[j]!)) ∧ (0 ≤ (l[j]!.To)) ∧ ((l[j]!.To) < (l[k2]!.From)) ∧ (¬ ((j : Int) = (k2 : Int)))) rfl hb191 (fun h198 => ?_) (fun h198 => ?_)
          · have := own_flat (sz := 1) (fun _ => rfl) (by decide) hp194.get3
            have hy200 : (bs)[j]? = some bs[j]! := get_bang (by first | (omega) | (simp only [List.length_append, List.length_cons, List.length_nil]; omega) | (simp only [List.length_take, List.length_append, List.length_cons, List.length_nil]; omega))
            have hqhy200 := hball j (by omega) (by first | assumption | exact And.left (by assumption))
            rw [show bitN l j = bs[j]! from by rw [hbsE, bitsL_get (by omega)]] at hqhy200
            refine WP.pure { wraps := [116], subs := [116, 117] } [.slice a2 n2 c2, .int .i64 (bs[j]!), .int .u32 ((2 ^ (bs[j]!).toNat : Nat) : Int), .int .u32 ((bf ||| (2 ^ (bs[j]!).toNat) : Nat) : Int)] [0, 5, 10, 11, 12, 58, 59, 60, 82, 83, 84] [.slice a l.length cp, .pointer (some ⟨g9, 0, none⟩), .int .i64 (k2 : Int), .pointer (some ⟨g110, 0, none⟩), .int .u32 ((bf ||| (2 ^ (bs[j]!).toNat) : Nat) : Int), .slice a l.length cp, .int .i64 ((l.length : Nat) : Int), .int .i64 (k2 : Int), .slice a l.length cp, .int .i64 ((l.length : Nat) : Int), .int .i64 (j : Int)] (.cons (Ld.row1 (P := Try.prog) (t := 24) (o := 2) (v := .slice a2 n2 c2) hp194.get4 (by kernel_rfl)) (.cons (show InB ((j : Int)) (n2) from ⟨by omega, by omega⟩) (.cons ((SlR.own (hp194.get3)).some (by omega)) (.cons (Ld.add0 (Ld.el1 (P := Try.prog) (t := 3) (SlR.own (hp194.get3)).rd 1 (fun _ => rfl) hy200 (o := 0) (v := .int .i64 (bs[j]!)) (by kernel_rfl))) (.cons (show (0 : Int) ≤ (bs[j]!) from by omega) (.cons (show (.int .u32 (IntKind.u32.wrap (1 * 2 ^ (min (bs[j]! : Int).toNat IntKind.u32.bits))) : Go.Value) = .int .u32 ((2 ^ (bs[j]!).toNat : Nat) : Int) from congrArg (Value.int .u32) (u32_one (y := bs[j]!) (by omega) (by omega))) (.cons (show (.int .u32 (IntKind.u32.wrap (BitVec.ofInt IntKind.u32.bits ((bf : Nat) : Int) ||| BitVec.ofInt IntKind.u32.bits ((2 ^ (bs[j]!).toNat : Nat) : Int)).toNat) : Go.Value) = .int .u32 ((bf ||| (2 ^ (bs[j]!).toNat) : Nat) : Int) from congrArg (Value.int .u32) (u32_or (a := bf) (b := 2 ^ (bs[j]!).toNat) f3 (pow_lt32 (by omega)))) .nil))))))) (by kernel_rfl) (fun b201 => ?_)
            refine blk_n ?_
            refine thn_n ?_
            refine WP.pure {} [] [0, 5, 10, 11, 12, 58, 59, 60, 82, 83, 84] [.slice a l.length cp, .pointer (some ⟨g9, 0, none⟩), .int .i64 (k2 : Int), .pointer (some ⟨g110, 0, none⟩), .int .u32 ((bf ||| (2 ^ (bs[j]!).toNat) : Nat) : Int), .slice a l.length cp, .int .i64 ((l.length : Nat) : Int), .int .i64 (k2 : Int), .slice a l.length cp, .int .i64 ((l.length : Nat) : Int), .int .i64 ((j : Int) + 1)] (.cons (show Rng .i64 ((j : Int) + 1) from Rng.i64 (by omega)) .nil) (by kernel_rfl) (fun b202 => ?_)
            refine thn_n ?_
            exact ⟨l.length - (j + 1), (by omega), j + 1, bf ||| (2 ^ (bs[j]!).toNat), rfl, ⟨by omega, befN_step (b := bs[j]!) f2 (by rw [hbsE, bitsL_get (by omega)]) (.inl ⟨rfl, h198.1, h198.2.1, h198.2.2.1, fun e => h198.2.2.2 (by omega)⟩), (or_lt32 f3 (pow_lt32 (by omega)))⟩, by kernel_rfl, (hp194.sub (.cons _ (.cons_cons _ (.cons_cons _ (.cons_cons _ (.cons_cons _ (.cons_cons _ (.slnil))))))))⟩
          · refine WP.skip ?_
            refine blk_n ?_
            refine thn_n ?_
            refine WP.pure {} [] [0, 5, 10, 11, 12, 58, 59, 60, 82, 83, 84] [.slice a l.length cp, .pointer (some ⟨g9, 0, none⟩), .int .i64 (k2 : Int), .pointer (some ⟨g110, 0, none⟩), .int .u32 ((bf : Nat) : Int), .slice a l.length cp, .int .i64 ((l.length : Nat) : Int), .int .i64 (k2 : Int), .slice a l.length cp, .int .i64 ((l.length : Nat) : Int), .int .i64 ((j : Int) + 1)] (.cons (show Rng .i64 ((j : Int) + 1) from Rng.i64 (by omega)) .nil) (by kernel_rfl) (fun b203 => ?_)
            refine thn_n ?_
            exact ⟨l.length - (j + 1), (by omega), j + 1, bf, rfl, ⟨by omega, befN_step (b := bs[j]!) f2 (by rw [hbsE, bitsL_get (by omega)]) (.inr ⟨rfl, fun hb => h198 ⟨hb.1, hb.2.1, hb.2.2.1, fun e => hb.2.2.2 (by omega)⟩⟩), f3⟩, by kernel_rfl, (hp194.sub (.cons _ (.cons_cons _ (.cons_cons _ (.cons_cons _ (.cons_cons _ (.cons_cons _ (.slnil))))))))⟩
        · refine WP.exit ?_
          refine thn_x ?_
          refine thn_x ?_
          refine blk_hit ?_
          refine thn_n ?_
          refine WP.region _ rfl (by kernel_rfl) ?_
          refine OPS.batch 6 {} [.slice a1 n1 c1] [0, 5, 58, 59, 60, 119, 123, 124] [.slice a l.length cp, .pointer (some ⟨g9, 0, none⟩), .slice a l.length cp, .int .i64 ((l.length : Nat) : Int), .int .i64 (k2 : Int), .pointer (some ⟨g9, 0, none⟩), .slice a1 n1 c1, .int .u32 ((bf : Nat) : Int)] (.cons (Ld.row1 (P := Try.prog) (t := 128) (o := 1) (v := .slice a1 n1 c1) hp150.get3 (by kernel_rfl)) .nil) (by kernel_rfl) (fun b204 => ?_)
          refine OPS.cons (opStep.buildSlice (E := 129) hp150 [.int .u32 ((bf : Nat) : Int)] (by kernel_rfl) (fun g207 w205 hp206 => ?_))
          refine OPS.cons (opStep.append2 [.int .u32 ((bf : Nat) : Int)] hp206 4 (by kernel_rfl) rfl rfl rfl (SlR.row (n := 1) hp206.get0 rfl).rd (List.all_eq_true.1 (by kernel_rfl)) (by decide) (by omega) (by omega) (fun a210 c211 w212 hp213 hn214 => ?_))
          rw [(show List.flatMap (fun (y : Nat) => [Go.Value.int .u32 (y : Int)]) ah ++ [.int .u32 ((bf : Nat) : Int)] = List.flatMap (fun (y : Nat) => [Go.Value.int .u32 (y : Int)]) (ah ++ [bf]) from (List.flatMap_append (xs := ah) (ys := [bf])).symm)] at hp213
          refine OPS.batch 2 {} [] [0, 5, 58, 59, 60, 126, 128] [.slice a l.length cp, .pointer (some ⟨g9, 0, none⟩), .slice a l.length cp, .int .i64 ((l.length : Nat) : Int), .int .i64 (k2 : Int), .slice a210 (n1 + 1) c211, .pointer (some ⟨g9, 1, none⟩)] .nil (by kernel_rfl) (fun b215 => ?_)
          refine OPS.cons (opStep.store4 hp213 rfl [.slice a210 (n1 + 1) c211] [.slice a l.length cp, .slice a210 (n1 + 1) c211, .slice a2 n2 c2, .int .u32 ((x139 : Nat) : Int), .map (some g5), .slice none 0 0] (by kernel_rfl) (fun w216 hp217 => ?_))
          refine OPS.nil ?_
          refine blk_n ?_
          refine thn_n ?_
          refine WP.pure {} [] [0, 5, 58, 59, 60] [.slice a l.length cp, .pointer (some ⟨g9, 0, none⟩), .slice a l.length cp, .int .i64 ((l.length : Nat) : Int), .int .i64 ((k2 : Int) + 1)] (.cons (show Rng .i64 ((k2 : Int) + 1) from Rng.i64 (by omega)) .nil) (by kernel_rfl) (fun b218 => ?_)
          refine thn_n ?_
          exact ⟨l.length - (k2 + 1), (by omega), k2 + 1, x139, ah ++ [bf], a210, n1 + 1, c211, rfl, ⟨by omega, by simp only [needN]; rcases hd143 with hq | hq; (rw [if_pos hq.2.2.1, hq.1, u2, hbsE, bitsL_get (by omega)]); (rw [if_neg hq.2.2.1, hq.1, u2]), (show x139 < 4294967296 by omega), by rw [ahL_succ, u4, f2, show j = l.length from by omega], by omega, fun x hx => by rcases List.mem_append.1 hx with q | q; exact u6 x q; (simp only [List.mem_singleton] at q; omega)⟩, by kernel_rfl, (hp217.sub (.cons _ (.cons _ (.cons_cons _ (.cons_cons _ (.cons_cons _ (.cons_cons _ (.slnil))))))))⟩
      · refine WP.exit ?_
        refine thn_x ?_
        refine thn_x ?_
        refine blk_hit ?_
        refine thn_n ?_
        refine WP.seq ?_
        refine WP.seq ?_
        refine WP.region _ rfl (by kernel_rfl) ?_
        refine OPS.batch 2 {} [] [5, 130, 131] [.pointer (some ⟨g9, 0, none⟩), .pointer (some ⟨g9, 0, none⟩), .agg #[.int .u32 0, .int .i64 (-1)]] .nil (by kernel_rfl) (fun b219 => ?_)
        have hp222 := (show Hp w Non [Res.own 3 1 (.slice none 0 0) 0 (List.flatMap (fun (y : Nat) => [Go.Value.int .i64 (y : Int)]) ([] : List Nat)), Res.own 129 1 (.slice a1 n1 c1) n1 (List.flatMap (fun (y : Nat) => [Go.Value.int .u32 (y : Int)]) ah), Res.own 3 1 (.slice a2 n2 c2) n2 (List.flatMap (fun (y : Int) => [Go.Value.int .i64 y]) bs), Res.row g9 [.slice a l.length cp, .slice a1 n1 c1, .slice a2 n2 c2, .int .u32 ((nd : Nat) : Int), .map (some g5), .slice none 0 0] 131, Res.mp g5 kfS (fun y : Int => Go.Value.int .i64 y) ([] : List ((Nat × Int) × Int))] w96 from hp97.nilOwn 3 1)
        have hp223 := hp222.pull1
        have hp224 := hp223.pull2
        have hp225 := hp224.pull4
        have hp226 := hp225.pull3
        have hp227 := hp226.pull4
        have hk2 : k2 = l.length := by omega
        have hahE : ah = ahL l l.length := by rw [u4, hk2]
        have hndE : nd = needN l l.length := by rw [u2, hk2]
        have hC : (⟨l, valAt w, bs, ah, nd⟩ : Srch) = oneC (valAt w) l := by rw [hbsE, hahE, hndE]; rfl
        have hla : ah.length = l.length := by rw [hahE]; exact ahL_len _ _
        refine OPS.cons (opStep.call (some 132) [.pointer (some ⟨g9, 0, none⟩), .agg #[.int .u32 0, .int .i64 (-1)]] (by kernel_rfl) (lin_down w g9 g5 l a cp bs ah nd a1 a2 n1 c1 n2 c2 hs hv hlb hla hll u3 u6 hbs 4294967296 _ 0 (-1) none 0 0 [] [] _ (by decide) (by decide) (by omega) (by simp) hp227 (by omega)) ?_)
        rintro _ w228 ⟨b230, ao231, no232, co233, xs234, dd235, rfl, hr236, hp229⟩
        refine ⟨_, rfl, ?_⟩
        obtain ⟨hr1, hr2, _⟩ := hr236
        cases b230
        · refine OPS.batch 1 {} [] [5, 133] [.pointer (some ⟨g9, 0, none⟩), .bool true] .nil (by kernel_rfl) (fun b237 => ?_)
          refine OPS.nil ?_
          refine thn_n ?_
          refine WP.condT rfl ?_
          refine WP.seq ?_
          refine WP.pure {} [] [2, 3, 4] [.slice none 0 0, .bool false, .int .i64 0] .nil (by kernel_rfl) (fun b238 => ?_)
          refine thn_n ?_
          refine WP.ret ?_
          refine thn_r ?_
          refine bodyQ.of _ rfl [.slice none 0 0, .bool false, .int .i64 0] ⟨rfl, rfl, rfl, trivial⟩ ?_
          exact ⟨[], false, 0, none, 0, 0, rfl, .inr (.inr ⟨hoks, hct, rfl, .inr ⟨rfl, rfl, by rw [← hC]; exact (hr2 rfl).2⟩⟩), ((hp229.nil).nilOwn 3 1)⟩
        · refine OPS.batch 1 {} [] [5, 133] [.pointer (some ⟨g9, 0, none⟩), .bool false] .nil (by kernel_rfl) (fun b239 => ?_)
          refine OPS.nil ?_
          refine thn_n ?_
          refine WP.condF rfl ?_
          refine WP.skip ?_
          refine thn_n ?_
          refine WP.seq ?_
          refine WP.pure {} [.slice ao231 no232 co233] [2, 3, 4] [.slice ao231 no232 co233, .bool true, .int .i64 0] (.cons (Ld.row1 (P := Try.prog) (t := 24) (o := 5) (v := .slice ao231 no232 co233) hp229.get0 (by kernel_rfl)) .nil) (by kernel_rfl) (fun b240 => ?_)
          refine thn_n ?_
          refine WP.ret ?_
          refine bodyQ.of _ rfl [.slice ao231 no232 co233, .bool true, .int .i64 0] ⟨rfl, rfl, rfl, trivial⟩ ?_
          exact ⟨xs234, true, 0, ao231, no232, co233, rfl, .inr (.inr ⟨hoks, hct, rfl, .inl ⟨rfl, by obtain ⟨p, hp1, hp2⟩ := hr1 rfl; rw [show xs234 = p from by rw [hp2]; rfl, ← hC]; exact hp1⟩⟩), (hp229.sub (.cons _ (.cons_cons _ (.cons _ (.cons _ (.cons _ (.slnil)))))))⟩

end Go.Proofs.Ytdahgdkadfdkeaa.K
