/- The walks of OrdG: what each function computes. -/
import Derived.Test.YtdahgdkadfdkeaaProg
import Derived.Test.YtdahgdkadfdkeaaCoreO
import Derived.Test.YtdahgdkadfdkeaaOrdF
namespace Go.Proofs.Ytdahgdkadfdkeaa.K
open Go Go.Proofs Go.RowKit
set_option linter.unusedVariables false
set_option linter.unusedSimpArgs false
set_option maxRecDepth 20000
set_option maxHeartbeats 4000000

theorem tagEq {a b : GTag} : (a = b) = (a.Count = b.Count ∧ a.Client = b.Client) := by cases a; cases b; simp
theorem o_taken (l : List GCall) (a : Option Addr) (n c : Nat) (w : World) (hn : n = l.length) (hb : l.length ≤ 8796093022207) (hs : SlR w a n (l.flatMap GCall.cells)) (m : TgM) (mb : Nat) (hm : (Res.mp mb kI vT m).holds w) :
    Calls Try.prog 83 #[.slice a n c, .map (some mb)] w (fun r_ w' => ∃ ao co q f, r_ = .returned (.tuple #[.slice ao q.length co, .bool f]) ∧ tkR l m q (f = true) ∧ Hp w Non [Res.own 3 1 (.slice ao q.length co) q.length (List.flatMap (fun (y : Int) => [Go.Value.int .i64 y]) q)] w') := by
  refine calls_of Try.func83 rfl 124 rfl (by simp) ?_
  have hp0 := Hp.init w
  have he0 : List.map (env0 [.slice a n c, .map (some mb)]) [0, 1] = [.slice a n c, .map (some mb)] := by kernel_rfl
  obtain ⟨b0, he0⟩ := toMk he0
  rw [he0]
  clear he0
  refine WP.seq ?_
  refine WP.region _ rfl (by kernel_rfl) ?_
  refine OPS.cons (opStep.box hp0 [.map (some mb)] (by kernel_rfl) (fun g3 w1 hp2 => ?_))
  refine OPS.batch 2 {} [] [0, 3] [.slice a n c, .pointer (some ⟨g3, 0, none⟩)] .nil (by kernel_rfl) (fun b4 => ?_)
  refine OPS.nil ?_
  refine thn_n ?_
  refine WP.seq ?_
  refine WP.region _ rfl (by kernel_rfl) ?_
  refine OPS.cons (opStep.makeMapK kT vI hp2 (fun g7 w5 hp6 => ?_))
  refine OPS.batch 1 {} [] [0, 3, 6] [.slice a n c, .pointer (some ⟨g3, 0, none⟩), .map (some g7)] .nil (by kernel_rfl) (fun b8 => ?_)
  refine OPS.nil ?_
  refine thn_n ?_
  refine WP.seq ?_
  refine WP.seq ?_
  refine WP.pure {} [] [0, 3, 6, 20, 21, 22] [.slice a n c, .pointer (some ⟨g3, 0, none⟩), .map (some g7), .slice a n c, .int .i64 ((n : Nat) : Int), .int .i64 0] .nil (by kernel_rfl) (fun b9 => ?_)
  refine thn_n ?_
  refine WP.block ?_
  refine WP.loop (fun mz_ e10 w11 => ∃ (k : Nat) (r : KnM), mz_ = l.length - k ∧ (k ≤ l.length ∧ r = rdM l k) ∧ List.map e10 [0, 3, 6, 20, 21, 22] = [.slice a n c, .pointer (some ⟨g3, 0, none⟩), .map (some g7), .slice a n c, .int .i64 ((n : Nat) : Int), .int .i64 (k : Int)] ∧ Hp w Non [Res.mp g7 kT vI r, Res.row g3 [.map (some mb)] 117] w11) (l.length - (0)) ⟨0, [], rfl, ⟨by omega, rfl⟩, by kernel_rfl, hp6⟩ ?_
  rintro _ e10 w11 ⟨k, r, rfl, hI13, hE14, hp12⟩
  obtain ⟨b15, rfl⟩ := toMk hE14
  clear hE14
  obtain ⟨ka, kb⟩ := hI13
  refine WP.seq ?_
  refine WP.pure {} [] [0, 3, 6, 20, 21, 22, 23] [.slice a n c, .pointer (some ⟨g3, 0, none⟩), .map (some g7), .slice a n c, .int .i64 ((n : Nat) : Int), .int .i64 (k : Int), .bool (decide ((k : Int) < ((n : Nat) : Int)))] .nil (by kernel_rfl) (fun b16 => ?_)
  refine thn_n ?_
  refine WP.seq ?_
  refine WP.test (p := (k : Int) < ((n : Nat) : Int)) rfl Bp.dec (fun h17 => ?_) (fun h17 => ?_)
  · refine WP.skip ?_
    refine thn_n ?_
    refine WP.seq ?_
    refine WP.block ?_
    refine WP.seq ?_
    refine WP.region _ rfl (by kernel_rfl) ?_
    have hy21 : (l)[k]? = some l[k]! := get_bang (by first | (omega) | (simp only [List.length_append, List.length_cons, List.length_nil]; omega) | (simp only [List.length_take, List.length_append, List.length_cons, List.length_nil]; omega))
    refine OPS.batch 3 {} [GCall.val (l[k]!)] [0, 3, 6, 20, 21, 22, 24, 26] [.slice a n c, .pointer (some ⟨g3, 0, none⟩), .map (some g7), .slice a n c, .int .i64 ((n : Nat) : Int), .int .i64 (k : Int), .int .i64 (k : Int), GCall.val (l[k]!)] (.cons (show InB ((k : Int)) (n) from ⟨by omega, by omega⟩) (.cons ((hs.at hp12).some (by omega)) (.cons (Ld.add0 (Ld.elN (P := Try.prog) (t := 73) (hs.at hp12).rd 11 (fun _ => rfl) hy21 (o := 0) (cs := [.int .i64 (l[k]!.Client), .int .i64 (l[k]!.Op), .bool (l[k]!.Put), .string (l[k]!.Key), .slice (l[k]!.Value.a) (l[k]!.Value.n) (l[k]!.Value.c), .int .i64 (l[k]!.Status), .int .i64 (l[k]!.From), .int .i64 (l[k]!.To), .bool (l[k]!.Open), .int .i64 (l[k]!.Tag.Count), .int .i64 (l[k]!.Tag.Client)]) (by kernel_rfl))) .nil))) (by kernel_rfl) (fun b22 => ?_)
    refine OPS.cons (opStep.alloc hp12 [.int .i64 0, .int .i64 0, .bool false, .string ByteArray.empty, .slice none 0 0, .int .i64 0, .int .i64 0, .int .i64 0, .bool false, .int .i64 0, .int .i64 0] (by kernel_rfl) (fun g25 w23 hp24 => ?_))
    refine OPS.batch 1 {} [] [0, 3, 6, 7, 8, 20, 21, 22, 26] [.slice a n c, .pointer (some ⟨g3, 0, none⟩), .map (some g7), .int .i64 (k : Int), .pointer (some ⟨g25, 0, none⟩), .slice a n c, .int .i64 ((n : Nat) : Int), .int .i64 (k : Int), GCall.val (l[k]!)] .nil (by kernel_rfl) (fun b26 => ?_)
    refine OPS.cons (opStep.store0 hp24 rfl [.int .i64 (l[k]!.Client), .int .i64 (l[k]!.Op), .bool (l[k]!.Put), .string (l[k]!.Key), .slice (l[k]!.Value.a) (l[k]!.Value.n) (l[k]!.Value.c), .int .i64 (l[k]!.Status), .int .i64 (l[k]!.From), .int .i64 (l[k]!.To), .bool (l[k]!.Open), .int .i64 (l[k]!.Tag.Count), .int .i64 (l[k]!.Tag.Client)] [.int .i64 (l[k]!.Client), .int .i64 (l[k]!.Op), .bool (l[k]!.Put), .string (l[k]!.Key), .slice (l[k]!.Value.a) (l[k]!.Value.n) (l[k]!.Value.c), .int .i64 (l[k]!.Status), .int .i64 (l[k]!.From), .int .i64 (l[k]!.To), .bool (l[k]!.Open), .int .i64 (l[k]!.Tag.Count), .int .i64 (l[k]!.Tag.Client)] (by kernel_rfl) (fun w27 hp28 => ?_))
    refine OPS.nil ?_
    refine thn_n ?_
    refine WP.cut (fun e49 w50 => ∃ (x47 : Bool), (True) ∧ Bp x47 ((¬ ((l[k]!.Put) = true)) ∧ (dueP (l[k]!)) ∧ ((l[k]!.Status) = 0)) ∧ List.map e49 [0, 3, 6, 7, 8, 20, 21, 22, 38] = [.slice a n c, .pointer (some ⟨g3, 0, none⟩), .map (some g7), .int .i64 (k : Int), .pointer (some ⟨g25, 0, none⟩), .slice a n c, .int .i64 ((n : Nat) : Int), .int .i64 (k : Int), .bool x47] ∧ Hp w Non [Res.row g25 [.int .i64 (l[k]!.Client), .int .i64 (l[k]!.Op), .bool (l[k]!.Put), .string (l[k]!.Key), .slice (l[k]!.Value.a) (l[k]!.Value.n) (l[k]!.Value.c), .int .i64 (l[k]!.Status), .int .i64 (l[k]!.From), .int .i64 (l[k]!.To), .bool (l[k]!.Open), .int .i64 (l[k]!.Tag.Count), .int .i64 (l[k]!.Tag.Client)] 73, Res.mp g7 kT vI r, Res.row g3 [.map (some mb)] 117] w50) ?_ ?_
    · refine WP.region _ rfl (by kernel_rfl) ?_
      refine OPS.batch 4 {} [.bool (l[k]!.Put)] [0, 3, 6, 7, 8, 20, 21, 22, 30] [.slice a n c, .pointer (some ⟨g3, 0, none⟩), .map (some g7), .int .i64 (k : Int), .pointer (some ⟨g25, 0, none⟩), .slice a n c, .int .i64 ((n : Nat) : Int), .int .i64 (k : Int), .bool (!(l[k]!.Put))] (.cons (Ld.row1 (P := Try.prog) (t := 4) (o := 2) (v := .bool (l[k]!.Put)) hp28.get0 (by kernel_rfl)) .nil) (by kernel_rfl) (fun b30 => ?_)
      by_cases h31 : (l[k]!.Put) = true
      · refine OPS.batch 0 {} [] [0, 3, 6, 7, 8, 20, 21, 22, 30] [.slice a n c, .pointer (some ⟨g3, 0, none⟩), .map (some g7), .int .i64 (k : Int), .pointer (some ⟨g25, 0, none⟩), .slice a n c, .int .i64 ((n : Nat) : Int), .int .i64 (k : Int), .bool (!(l[k]!.Put))] .nil (by kernel_rfl) (fun b45 => ?_)
        refine OPS.re [.slice a n c, .pointer (some ⟨g3, 0, none⟩), .map (some g7), .int .i64 (k : Int), .pointer (some ⟨g25, 0, none⟩), .slice a n c, .int .i64 ((n : Nat) : Int), .int .i64 (k : Int), .bool false] (by rw [show (!(l[k]!.Put)) = false from (Bp.not Bp.var).ff (fun k => k h31)]) ?_
        refine OPS.batch 8 { wraps := [33, 38] } [] [0, 3, 6, 7, 8, 20, 21, 22, 38] [.slice a n c, .pointer (some ⟨g3, 0, none⟩), .map (some g7), .int .i64 (k : Int), .pointer (some ⟨g25, 0, none⟩), .slice a n c, .int .i64 ((n : Nat) : Int), .int .i64 (k : Int), .bool false] .nil (by kernel_rfl) (fun b46 => ?_)
        refine OPS.nil ?_
        refine thn_n ?_
        exact ⟨false, trivial, Bp.of Bp.f (by first | (simp only [h31, iff_false, false_iff, iff_true, true_iff, Classical.not_not, and_true, true_and, and_false, false_and, or_true, true_or, or_false, false_or, not_true_eq_false, not_false_eq_true, and_self, or_self, iff_self]; done) | (simp [h31]; done) | grind | (simp_all; done)), by kernel_rfl, hp28⟩
      · refine OPS.batch 0 {} [] [0, 3, 6, 7, 8, 20, 21, 22, 30] [.slice a n c, .pointer (some ⟨g3, 0, none⟩), .map (some g7), .int .i64 (k : Int), .pointer (some ⟨g25, 0, none⟩), .slice a n c, .int .i64 ((n : Nat) : Int), .int .i64 (k : Int), .bool (!(l[k]!.Put))] .nil (by kernel_rfl) (fun b32 => ?_)
        refine OPS.re [.slice a n c, .pointer (some ⟨g3, 0, none⟩), .map (some g7), .int .i64 (k : Int), .pointer (some ⟨g25, 0, none⟩), .slice a n c, .int .i64 ((n : Nat) : Int), .int .i64 (k : Int), .bool true] (by rw [show (!(l[k]!.Put)) = true from (Bp.not Bp.var).tt h31]) ?_
        refine OPS.batch 1 {} [GCall.val (l[k]!)] [0, 3, 6, 7, 8, 20, 21, 22, 30, 31] [.slice a n c, .pointer (some ⟨g3, 0, none⟩), .map (some g7), .int .i64 (k : Int), .pointer (some ⟨g25, 0, none⟩), .slice a n c, .int .i64 ((n : Nat) : Int), .int .i64 (k : Int), .bool true, GCall.val (l[k]!)] (.cons (show Ld Try.prog w27 73 ⟨g25, 0, none⟩ (GCall.val (l[k]!)) from Ld.rowN (cs := [.int .i64 (l[k]!.Client), .int .i64 (l[k]!.Op), .bool (l[k]!.Put), .string (l[k]!.Key), .slice (l[k]!.Value.a) (l[k]!.Value.n) (l[k]!.Value.c), .int .i64 (l[k]!.Status), .int .i64 (l[k]!.From), .int .i64 (l[k]!.To), .bool (l[k]!.Open), .int .i64 (l[k]!.Tag.Count), .int .i64 (l[k]!.Tag.Client)]) hp28.get0 (by kernel_rfl)) .nil) (by kernel_rfl) (fun b33 => ?_)
        refine OPS.want (by kernel_rfl) ?_
        refine OPS.cons (opStep.call (some 32) [GCall.val (l[k]!)] (by kernel_rfl) (o_due (l[k]!) _) ?_)
        rintro _ w36 ⟨b39, rfl, hb40, hf37⟩
        refine ⟨_, rfl, ?_⟩
        have hp38 := hp28.step hf37
        refine OPS.batch 2 { wraps := [33] } [] [0, 3, 6, 7, 8, 20, 21, 22, 34] [.slice a n c, .pointer (some ⟨g3, 0, none⟩), .map (some g7), .int .i64 (k : Int), .pointer (some ⟨g25, 0, none⟩), .slice a n c, .int .i64 ((n : Nat) : Int), .int .i64 (k : Int), .bool b39] .nil (by kernel_rfl) (fun b41 => ?_)
        by_cases h42 : dueP (l[k]!)
        · rw [show b39 = true from hb40.tt h42]
          refine OPS.batch 4 { wraps := [38] } [.int .i64 (l[k]!.Status)] [0, 3, 6, 7, 8, 20, 21, 22, 38] [.slice a n c, .pointer (some ⟨g3, 0, none⟩), .map (some g7), .int .i64 (k : Int), .pointer (some ⟨g25, 0, none⟩), .slice a n c, .int .i64 ((n : Nat) : Int), .int .i64 (k : Int), .bool (decide ((l[k]!.Status) = 0))] (.cons (Ld.row1 (P := Try.prog) (t := 25) (o := 5) (v := .int .i64 (l[k]!.Status)) hp38.get0 (by kernel_rfl)) .nil) (by kernel_rfl) (fun b43 => ?_)
          refine OPS.nil ?_
          refine thn_n ?_
          exact ⟨decide ((l[k]!.Status) = 0), trivial, Bp.of Bp.dec (by first | (simp only [h31, h42, iff_false, false_iff, iff_true, true_iff, Classical.not_not, and_true, true_and, and_false, false_and, or_true, true_or, or_false, false_or, not_true_eq_false, not_false_eq_true, and_self, or_self, iff_self]; done) | (simp [h31, h42]; done) | grind | (simp_all; done)), by kernel_rfl, hp38⟩
        · rw [show b39 = false from hb40.ff h42]
          refine OPS.batch 4 { wraps := [38] } [] [0, 3, 6, 7, 8, 20, 21, 22, 38] [.slice a n c, .pointer (some ⟨g3, 0, none⟩), .map (some g7), .int .i64 (k : Int), .pointer (some ⟨g25, 0, none⟩), .slice a n c, .int .i64 ((n : Nat) : Int), .int .i64 (k : Int), .bool false] .nil (by kernel_rfl) (fun b44 => ?_)
          refine OPS.nil ?_
          refine thn_n ?_
          exact ⟨false, trivial, Bp.of Bp.f (by first | (simp only [h31, h42, iff_false, false_iff, iff_true, true_iff, Classical.not_not, and_true, true_and, and_false, false_and, or_true, true_or, or_false, false_or, not_true_eq_false, not_false_eq_true, and_self, or_self, iff_self]; done) | (simp [h31, h42]; done) | grind | (simp_all; done)), by kernel_rfl, hp38⟩
    rintro e49 w50 ⟨x47, hd52, hb48, hE53, hp51⟩
    obtain ⟨b54, rfl⟩ := toMk hE53
    clear hE53
    clear hd52
    refine WP.test (p := (¬ ((l[k]!.Put) = true)) ∧ (dueP (l[k]!)) ∧ ((l[k]!.Status) = 0)) rfl hb48 (fun h55 => ?_) (fun h55 => ?_)
    · refine WP.region _ rfl (by kernel_rfl) ?_
      refine OPS.batch 4 {} [.agg #[.int .i64 (l[k]!.Tag.Count), .int .i64 (l[k]!.Tag.Client)]] [0, 3, 6, 20, 21, 22, 39, 41, 42] [.slice a n c, .pointer (some ⟨g3, 0, none⟩), .map (some g7), .slice a n c, .int .i64 ((n : Nat) : Int), .int .i64 (k : Int), .map (some g7), .agg #[.int .i64 (l[k]!.Tag.Count), .int .i64 (l[k]!.Tag.Client)], .int .i64 (k : Int)] (.cons (show Ld Try.prog w50 70 ⟨g25, 9, none⟩ (.agg #[.int .i64 (l[k]!.Tag.Count), .int .i64 (l[k]!.Tag.Client)]) from Ld.rowN (cs := [.int .i64 (l[k]!.Tag.Count), .int .i64 (l[k]!.Tag.Client)]) hp51.get0 (by kernel_rfl)) .nil) (by kernel_rfl) (fun b56 => ?_)
      refine OPS.cons (opStep.mapUpdate1 keyTag (by exact Try.underlying148) hp51 (l[k]!.Tag) (k : Int) (by kernel_rfl) (fun w57 hp58 => ?_))
      refine OPS.nil ?_
      refine blk_n ?_
      refine thn_n ?_
      refine WP.pure {} [] [0, 3, 6, 20, 21, 22] [.slice a n c, .pointer (some ⟨g3, 0, none⟩), .map (some g7), .slice a n c, .int .i64 ((n : Nat) : Int), .int .i64 ((k : Int) + 1)] (.cons (show Rng .i64 ((k : Int) + 1) from Rng.i64 (by omega)) .nil) (by kernel_rfl) (fun b59 => ?_)
      refine thn_n ?_
      exact ⟨l.length - (k + 1), (by omega), k + 1, mapPut r (l[k]!.Tag) (k : Int), rfl, ⟨by omega, by unfold rdM; rw [if_pos (show rdC l[k]! from by unfold rdC; have h_ := h55; grind), ← kb]⟩, by kernel_rfl, (hp58.sub (.cons _ (.cons_cons _ (.cons_cons _ (.slnil)))))⟩
    · refine WP.skip ?_
      refine blk_n ?_
      refine thn_n ?_
      refine WP.pure {} [] [0, 3, 6, 20, 21, 22] [.slice a n c, .pointer (some ⟨g3, 0, none⟩), .map (some g7), .slice a n c, .int .i64 ((n : Nat) : Int), .int .i64 ((k : Int) + 1)] (.cons (show Rng .i64 ((k : Int) + 1) from Rng.i64 (by omega)) .nil) (by kernel_rfl) (fun b60 => ?_)
      refine thn_n ?_
      exact ⟨l.length - (k + 1), (by omega), k + 1, r, rfl, ⟨by omega, by unfold rdM; rw [if_neg (show ¬ rdC l[k]! from by unfold rdC; have h_ := h55; grind), ← kb]⟩, by kernel_rfl, (hp51.sub (.cons _ (.cons_cons _ (.cons_cons _ (.slnil)))))⟩
  · refine WP.exit ?_
    refine thn_x ?_
    refine thn_x ?_
    refine blk_hit ?_
    refine thn_n ?_
    refine WP.seq ?_
    refine WP.region _ rfl (by kernel_rfl) ?_
    refine OPS.cons (opStep.alloc hp12 [.slice none 0 0] (by kernel_rfl) (fun g63 w61 hp62 => ?_))
    refine OPS.nil ?_
    refine thn_n ?_
    refine WP.seq ?_
    refine WP.seq ?_
    refine WP.pure {} [] [3, 6, 9, 44, 45, 46] [.pointer (some ⟨g3, 0, none⟩), .map (some g7), .pointer (some ⟨g63, 0, none⟩), .slice a n c, .int .i64 ((n : Nat) : Int), .int .i64 0] .nil (by kernel_rfl) (fun b64 => ?_)
    refine thn_n ?_
    refine WP.block ?_
    obtain rfl : k = l.length := by omega
    have hp65 := (show Hp w Non [Res.own 3 1 (.slice none 0 0) 0 (List.flatMap (fun (y : Int) => [Go.Value.int .i64 y]) ([] : List Int)), Res.row g63 [.slice none 0 0] 24, Res.mp g7 kT vI r, Res.row g3 [.map (some mb)] 117] w61 from hp62.nilOwn 3 1)
    refine WP.loop (fun mz_ e66 w67 => ∃ (k2 : Nat) (xs : List Int) (ao : Option Addr) (no : Nat) (co : Nat), mz_ = l.length - k2 ∧ (k2 ≤ l.length ∧ xs = idxs (tkP l m) k2) ∧ List.map e66 [3, 6, 9, 44, 45, 46] = [.pointer (some ⟨g3, 0, none⟩), .map (some g7), .pointer (some ⟨g63, 0, none⟩), .slice a n c, .int .i64 ((n : Nat) : Int), .int .i64 (k2 : Int)] ∧ Hp w Non [Res.own 3 1 (.slice ao no co) no (List.flatMap (fun (y : Int) => [Go.Value.int .i64 y]) xs), Res.row g63 [.slice ao no co] 24, Res.mp g7 kT vI r, Res.row g3 [.map (some mb)] 117] w67) (l.length - (0)) ⟨0, [], none, 0, 0, rfl, ⟨by omega, rfl⟩, by kernel_rfl, hp65⟩ ?_
    rintro _ e66 w67 ⟨k2, xs, ao, no, co, rfl, hI69, hE70, hp68⟩
    obtain ⟨b71, rfl⟩ := toMk hE70
    clear hE70
    obtain ⟨pa, pb⟩ := hI69
    have pe := own_flat (sz := 1) (fun _ => rfl) (by decide) hp68.get0
    have pl := idxs_len (tkP l m) k2
    rw [← pb] at pl
    refine WP.seq ?_
    refine WP.pure {} [] [3, 6, 9, 44, 45, 46, 47] [.pointer (some ⟨g3, 0, none⟩), .map (some g7), .pointer (some ⟨g63, 0, none⟩), .slice a n c, .int .i64 ((n : Nat) : Int), .int .i64 (k2 : Int), .bool (decide ((k2 : Int) < ((n : Nat) : Int)))] .nil (by kernel_rfl) (fun b72 => ?_)
    refine thn_n ?_
    refine WP.seq ?_
    refine WP.test (p := (k2 : Int) < ((n : Nat) : Int)) rfl Bp.dec (fun h73 => ?_) (fun h73 => ?_)
    · refine WP.skip ?_
      refine thn_n ?_
      refine WP.seq ?_
      refine WP.block ?_
      refine WP.seq ?_
      refine WP.region _ rfl (by kernel_rfl) ?_
      have hy77 : (l)[k2]? = some l[k2]! := get_bang (by first | (omega) | (simp only [List.length_append, List.length_cons, List.length_nil]; omega) | (simp only [List.length_take, List.length_append, List.length_cons, List.length_nil]; omega))
      refine OPS.batch 3 {} [GCall.val (l[k2]!)] [3, 6, 9, 44, 45, 46, 48, 50] [.pointer (some ⟨g3, 0, none⟩), .map (some g7), .pointer (some ⟨g63, 0, none⟩), .slice a n c, .int .i64 ((n : Nat) : Int), .int .i64 (k2 : Int), .int .i64 (k2 : Int), GCall.val (l[k2]!)] (.cons (show InB ((k2 : Int)) (n) from ⟨by omega, by omega⟩) (.cons ((hs.at hp68).some (by omega)) (.cons (Ld.add0 (Ld.elN (P := Try.prog) (t := 73) (hs.at hp68).rd 11 (fun _ => rfl) hy77 (o := 0) (cs := [.int .i64 (l[k2]!.Client), .int .i64 (l[k2]!.Op), .bool (l[k2]!.Put), .string (l[k2]!.Key), .slice (l[k2]!.Value.a) (l[k2]!.Value.n) (l[k2]!.Value.c), .int .i64 (l[k2]!.Status), .int .i64 (l[k2]!.From), .int .i64 (l[k2]!.To), .bool (l[k2]!.Open), .int .i64 (l[k2]!.Tag.Count), .int .i64 (l[k2]!.Tag.Client)]) (by kernel_rfl))) .nil))) (by kernel_rfl) (fun b78 => ?_)
      refine OPS.cons (opStep.alloc hp68 [.int .i64 0, .int .i64 0, .bool false, .string ByteArray.empty, .slice none 0 0, .int .i64 0, .int .i64 0, .int .i64 0, .bool false, .int .i64 0, .int .i64 0] (by kernel_rfl) (fun g81 w79 hp80 => ?_))
      refine OPS.batch 1 {} [] [3, 6, 9, 10, 11, 44, 45, 46, 50] [.pointer (some ⟨g3, 0, none⟩), .map (some g7), .pointer (some ⟨g63, 0, none⟩), .int .i64 (k2 : Int), .pointer (some ⟨g81, 0, none⟩), .slice a n c, .int .i64 ((n : Nat) : Int), .int .i64 (k2 : Int), GCall.val (l[k2]!)] .nil (by kernel_rfl) (fun b82 => ?_)
      refine OPS.cons (opStep.store0 hp80 rfl [.int .i64 (l[k2]!.Client), .int .i64 (l[k2]!.Op), .bool (l[k2]!.Put), .string (l[k2]!.Key), .slice (l[k2]!.Value.a) (l[k2]!.Value.n) (l[k2]!.Value.c), .int .i64 (l[k2]!.Status), .int .i64 (l[k2]!.From), .int .i64 (l[k2]!.To), .bool (l[k2]!.Open), .int .i64 (l[k2]!.Tag.Count), .int .i64 (l[k2]!.Tag.Client)] [.int .i64 (l[k2]!.Client), .int .i64 (l[k2]!.Op), .bool (l[k2]!.Put), .string (l[k2]!.Key), .slice (l[k2]!.Value.a) (l[k2]!.Value.n) (l[k2]!.Value.c), .int .i64 (l[k2]!.Status), .int .i64 (l[k2]!.From), .int .i64 (l[k2]!.To), .bool (l[k2]!.Open), .int .i64 (l[k2]!.Tag.Count), .int .i64 (l[k2]!.Tag.Client)] (by kernel_rfl) (fun w83 hp84 => ?_))
      refine OPS.nil ?_
      refine thn_n ?_
      refine WP.seq ?_
      refine WP.region _ rfl (by kernel_rfl) ?_
      refine OPS.batch 6 {} [.map (some mb), .tuple #[GTag.val ((mapV m (k2 : Int)).getD tag0), .bool ((mapV m (k2 : Int)).isSome)]] [3, 6, 9, 10, 11, 44, 45, 46, 55, 56] [.pointer (some ⟨g3, 0, none⟩), .map (some g7), .pointer (some ⟨g63, 0, none⟩), .int .i64 (k2 : Int), .pointer (some ⟨g81, 0, none⟩), .slice a n c, .int .i64 ((n : Nat) : Int), .int .i64 (k2 : Int), GTag.val ((mapV m (k2 : Int)).getD tag0), .bool ((mapV m (k2 : Int)).isSome)] (.cons (Ld.row1 (P := Try.prog) (t := 117) (o := 0) (v := .map (some mb)) hp84.get4 (by kernel_rfl)) (.cons (Lk.okD (vf := vT) (keyInt (by exact Try.underlying3)) (by exact Try.underlying117) (mp_at hm hp84.fr) (k2 : Int) tag0 (by kernel_rfl)) .nil)) (by kernel_rfl) (fun b85 => ?_)
      refine OPS.cons (opStep.alloc hp84 [.int .i64 0, .int .i64 0] (by kernel_rfl) (fun g88 w86 hp87 => ?_))
      refine OPS.cons (opStep.store0 hp87 rfl [.int .i64 (((mapV m (k2 : Int)).getD tag0).Count), .int .i64 (((mapV m (k2 : Int)).getD tag0).Client)] [.int .i64 (((mapV m (k2 : Int)).getD tag0).Count), .int .i64 (((mapV m (k2 : Int)).getD tag0).Client)] (by kernel_rfl) (fun w89 hp90 => ?_))
      refine OPS.batch 1 {} [] [3, 6, 9, 10, 11, 12, 13, 44, 45, 46] [.pointer (some ⟨g3, 0, none⟩), .map (some g7), .pointer (some ⟨g63, 0, none⟩), .int .i64 (k2 : Int), .pointer (some ⟨g81, 0, none⟩), .pointer (some ⟨g88, 0, none⟩), .bool ((mapV m (k2 : Int)).isSome), .slice a n c, .int .i64 ((n : Nat) : Int), .int .i64 (k2 : Int)] .nil (by kernel_rfl) (fun b91 => ?_)
      refine OPS.nil ?_
      refine thn_n ?_
      refine WP.seq ?_
      refine WP.pure {} [GTag.val ((mapV m (k2 : Int)).getD tag0), .tuple #[.int .i64 ((mapV r ((mapV m (k2 : Int)).getD tag0)).getD 0), .bool ((mapV r ((mapV m (k2 : Int)).getD tag0)).isSome)]] [3, 6, 9, 10, 11, 13, 15, 44, 45, 46] [.pointer (some ⟨g3, 0, none⟩), .map (some g7), .pointer (some ⟨g63, 0, none⟩), .int .i64 (k2 : Int), .pointer (some ⟨g81, 0, none⟩), .bool ((mapV m (k2 : Int)).isSome), .bool ((mapV r ((mapV m (k2 : Int)).getD tag0)).isSome), .slice a n c, .int .i64 ((n : Nat) : Int), .int .i64 (k2 : Int)] (.cons (show Ld Try.prog w89 70 ⟨g88, 0, none⟩ (GTag.val ((mapV m (k2 : Int)).getD tag0)) from Ld.rowN (cs := [.int .i64 (((mapV m (k2 : Int)).getD tag0).Count), .int .i64 (((mapV m (k2 : Int)).getD tag0).Client)]) hp90.get0 (by kernel_rfl)) (.cons (Lk.okI (kf := kT) keyTag (by exact Try.underlying148) hp90.get4 ((mapV m (k2 : Int)).getD tag0) (by kernel_rfl)) .nil)) (by kernel_rfl) (fun b92 => ?_)
      refine thn_n ?_
      refine WP.cut (fun e112 w113 => ∃ (x110 : Bool), (True) ∧ Bp x110 ((((l[k2]!.Put) = true) ∧ (((mapV m (k2 : Int)).isSome) = true) ∧ (¬ ((l[k2]!.Open) = true))) ∨ (((l[k2]!.Put) = true) ∧ (((mapV m (k2 : Int)).isSome) = true) ∧ ((l[k2]!.Open) = true) ∧ (((mapV r ((mapV m (k2 : Int)).getD tag0)).isSome) = true))) ∧ List.map e112 [3, 6, 9, 10, 44, 45, 46, 75] = [.pointer (some ⟨g3, 0, none⟩), .map (some g7), .pointer (some ⟨g63, 0, none⟩), .int .i64 (k2 : Int), .slice a n c, .int .i64 ((n : Nat) : Int), .int .i64 (k2 : Int), .bool x110] ∧ Hp w Non [Res.row g88 [.int .i64 (((mapV m (k2 : Int)).getD tag0).Count), .int .i64 (((mapV m (k2 : Int)).getD tag0).Client)] 70, Res.row g81 [.int .i64 (l[k2]!.Client), .int .i64 (l[k2]!.Op), .bool (l[k2]!.Put), .string (l[k2]!.Key), .slice (l[k2]!.Value.a) (l[k2]!.Value.n) (l[k2]!.Value.c), .int .i64 (l[k2]!.Status), .int .i64 (l[k2]!.From), .int .i64 (l[k2]!.To), .bool (l[k2]!.Open), .int .i64 (l[k2]!.Tag.Count), .int .i64 (l[k2]!.Tag.Client)] 73, Res.own 3 1 (.slice ao no co) no (List.flatMap (fun (y : Int) => [Go.Value.int .i64 y]) xs), Res.row g63 [.slice ao no co] 24, Res.mp g7 kT vI r, Res.row g3 [.map (some mb)] 117] w113) ?_ ?_
      · refine WP.region _ rfl (by kernel_rfl) ?_
        refine OPS.batch 3 {} [.bool (l[k2]!.Put)] [3, 6, 9, 10, 11, 13, 15, 44, 45, 46, 65] [.pointer (some ⟨g3, 0, none⟩), .map (some g7), .pointer (some ⟨g63, 0, none⟩), .int .i64 (k2 : Int), .pointer (some ⟨g81, 0, none⟩), .bool ((mapV m (k2 : Int)).isSome), .bool ((mapV r ((mapV m (k2 : Int)).getD tag0)).isSome), .slice a n c, .int .i64 ((n : Nat) : Int), .int .i64 (k2 : Int), .bool (l[k2]!.Put)] (.cons (Ld.row1 (P := Try.prog) (t := 4) (o := 2) (v := .bool (l[k2]!.Put)) hp90.get1 (by kernel_rfl)) .nil) (by kernel_rfl) (fun b94 => ?_)
        by_cases h95 : (l[k2]!.Put) = true
        · refine OPS.batch 0 {} [] [3, 6, 9, 10, 11, 13, 15, 44, 45, 46, 65] [.pointer (some ⟨g3, 0, none⟩), .map (some g7), .pointer (some ⟨g63, 0, none⟩), .int .i64 (k2 : Int), .pointer (some ⟨g81, 0, none⟩), .bool ((mapV m (k2 : Int)).isSome), .bool ((mapV r ((mapV m (k2 : Int)).getD tag0)).isSome), .slice a n c, .int .i64 ((n : Nat) : Int), .int .i64 (k2 : Int), .bool (l[k2]!.Put)] .nil (by kernel_rfl) (fun b96 => ?_)
          refine OPS.re [.pointer (some ⟨g3, 0, none⟩), .map (some g7), .pointer (some ⟨g63, 0, none⟩), .int .i64 (k2 : Int), .pointer (some ⟨g81, 0, none⟩), .bool ((mapV m (k2 : Int)).isSome), .bool ((mapV r ((mapV m (k2 : Int)).getD tag0)).isSome), .slice a n c, .int .i64 ((n : Nat) : Int), .int .i64 (k2 : Int), .bool true] (by rw [show (l[k2]!.Put) = true from Bp.var.tt h95]) ?_
          refine OPS.batch 3 { wraps := [67] } [] [3, 6, 9, 10, 11, 15, 44, 45, 46, 68] [.pointer (some ⟨g3, 0, none⟩), .map (some g7), .pointer (some ⟨g63, 0, none⟩), .int .i64 (k2 : Int), .pointer (some ⟨g81, 0, none⟩), .bool ((mapV r ((mapV m (k2 : Int)).getD tag0)).isSome), .slice a n c, .int .i64 ((n : Nat) : Int), .int .i64 (k2 : Int), .bool ((mapV m (k2 : Int)).isSome)] .nil (by kernel_rfl) (fun b97 => ?_)
          by_cases h98 : ((mapV m (k2 : Int)).isSome) = true
          · refine OPS.batch 0 {} [] [3, 6, 9, 10, 11, 15, 44, 45, 46, 68] [.pointer (some ⟨g3, 0, none⟩), .map (some g7), .pointer (some ⟨g63, 0, none⟩), .int .i64 (k2 : Int), .pointer (some ⟨g81, 0, none⟩), .bool ((mapV r ((mapV m (k2 : Int)).getD tag0)).isSome), .slice a n c, .int .i64 ((n : Nat) : Int), .int .i64 (k2 : Int), .bool ((mapV m (k2 : Int)).isSome)] .nil (by kernel_rfl) (fun b99 => ?_)
            refine OPS.re [.pointer (some ⟨g3, 0, none⟩), .map (some g7), .pointer (some ⟨g63, 0, none⟩), .int .i64 (k2 : Int), .pointer (some ⟨g81, 0, none⟩), .bool ((mapV r ((mapV m (k2 : Int)).getD tag0)).isSome), .slice a n c, .int .i64 ((n : Nat) : Int), .int .i64 (k2 : Int), .bool true] (by rw [show ((mapV m (k2 : Int)).isSome) = true from Bp.var.tt h98]) ?_
            refine OPS.batch 4 {} [.bool (l[k2]!.Open)] [3, 6, 9, 10, 15, 44, 45, 46, 68, 72] [.pointer (some ⟨g3, 0, none⟩), .map (some g7), .pointer (some ⟨g63, 0, none⟩), .int .i64 (k2 : Int), .bool ((mapV r ((mapV m (k2 : Int)).getD tag0)).isSome), .slice a n c, .int .i64 ((n : Nat) : Int), .int .i64 (k2 : Int), .bool true, .bool (!(l[k2]!.Open))] (.cons (Ld.row1 (P := Try.prog) (t := 4) (o := 8) (v := .bool (l[k2]!.Open)) hp90.get1 (by kernel_rfl)) .nil) (by kernel_rfl) (fun b100 => ?_)
            by_cases h101 : (l[k2]!.Open) = true
            · refine OPS.batch 0 {} [] [3, 6, 9, 10, 15, 44, 45, 46, 68, 72] [.pointer (some ⟨g3, 0, none⟩), .map (some g7), .pointer (some ⟨g63, 0, none⟩), .int .i64 (k2 : Int), .bool ((mapV r ((mapV m (k2 : Int)).getD tag0)).isSome), .slice a n c, .int .i64 ((n : Nat) : Int), .int .i64 (k2 : Int), .bool true, .bool (!(l[k2]!.Open))] .nil (by kernel_rfl) (fun b104 => ?_)
              refine OPS.re [.pointer (some ⟨g3, 0, none⟩), .map (some g7), .pointer (some ⟨g63, 0, none⟩), .int .i64 (k2 : Int), .bool ((mapV r ((mapV m (k2 : Int)).getD tag0)).isSome), .slice a n c, .int .i64 ((n : Nat) : Int), .int .i64 (k2 : Int), .bool true, .bool false] (by rw [show (!(l[k2]!.Open)) = false from (Bp.not Bp.var).ff (fun k => k h101)]) ?_
              refine OPS.batch 3 { wraps := [74, 75] } [] [3, 6, 9, 10, 44, 45, 46, 75] [.pointer (some ⟨g3, 0, none⟩), .map (some g7), .pointer (some ⟨g63, 0, none⟩), .int .i64 (k2 : Int), .slice a n c, .int .i64 ((n : Nat) : Int), .int .i64 (k2 : Int), .bool ((mapV r ((mapV m (k2 : Int)).getD tag0)).isSome)] .nil (by kernel_rfl) (fun b105 => ?_)
              refine OPS.nil ?_
              refine thn_n ?_
              exact ⟨(mapV r ((mapV m (k2 : Int)).getD tag0)).isSome, trivial, Bp.of Bp.var (by first | (simp only [h95, h98, h101, iff_false, false_iff, iff_true, true_iff, Classical.not_not, and_true, true_and, and_false, false_and, or_true, true_or, or_false, false_or, not_true_eq_false, not_false_eq_true, and_self, or_self, iff_self]; done) | (simp [h95, h98, h101]; done) | grind | (simp_all; done)), by kernel_rfl, hp90⟩
            · refine OPS.batch 0 {} [] [3, 6, 9, 10, 15, 44, 45, 46, 68, 72] [.pointer (some ⟨g3, 0, none⟩), .map (some g7), .pointer (some ⟨g63, 0, none⟩), .int .i64 (k2 : Int), .bool ((mapV r ((mapV m (k2 : Int)).getD tag0)).isSome), .slice a n c, .int .i64 ((n : Nat) : Int), .int .i64 (k2 : Int), .bool true, .bool (!(l[k2]!.Open))] .nil (by kernel_rfl) (fun b102 => ?_)
              refine OPS.re [.pointer (some ⟨g3, 0, none⟩), .map (some g7), .pointer (some ⟨g63, 0, none⟩), .int .i64 (k2 : Int), .bool ((mapV r ((mapV m (k2 : Int)).getD tag0)).isSome), .slice a n c, .int .i64 ((n : Nat) : Int), .int .i64 (k2 : Int), .bool true, .bool true] (by rw [show (!(l[k2]!.Open)) = true from (Bp.not Bp.var).tt h101]) ?_
              refine OPS.batch 3 { wraps := [74, 75] } [] [3, 6, 9, 10, 44, 45, 46, 75] [.pointer (some ⟨g3, 0, none⟩), .map (some g7), .pointer (some ⟨g63, 0, none⟩), .int .i64 (k2 : Int), .slice a n c, .int .i64 ((n : Nat) : Int), .int .i64 (k2 : Int), .bool true] .nil (by kernel_rfl) (fun b103 => ?_)
              refine OPS.nil ?_
              refine thn_n ?_
              exact ⟨true, trivial, Bp.of Bp.t (by first | (simp only [h95, h98, h101, iff_false, false_iff, iff_true, true_iff, Classical.not_not, and_true, true_and, and_false, false_and, or_true, true_or, or_false, false_or, not_true_eq_false, not_false_eq_true, and_self, or_self, iff_self]; done) | (simp [h95, h98, h101]; done) | grind | (simp_all; done)), by kernel_rfl, hp90⟩
          · refine OPS.batch 0 {} [] [3, 6, 9, 10, 11, 15, 44, 45, 46, 68] [.pointer (some ⟨g3, 0, none⟩), .map (some g7), .pointer (some ⟨g63, 0, none⟩), .int .i64 (k2 : Int), .pointer (some ⟨g81, 0, none⟩), .bool ((mapV r ((mapV m (k2 : Int)).getD tag0)).isSome), .slice a n c, .int .i64 ((n : Nat) : Int), .int .i64 (k2 : Int), .bool ((mapV m (k2 : Int)).isSome)] .nil (by kernel_rfl) (fun b106 => ?_)
            refine OPS.re [.pointer (some ⟨g3, 0, none⟩), .map (some g7), .pointer (some ⟨g63, 0, none⟩), .int .i64 (k2 : Int), .pointer (some ⟨g81, 0, none⟩), .bool ((mapV r ((mapV m (k2 : Int)).getD tag0)).isSome), .slice a n c, .int .i64 ((n : Nat) : Int), .int .i64 (k2 : Int), .bool false] (by rw [show ((mapV m (k2 : Int)).isSome) = false from Bp.var.ff h98]) ?_
            refine OPS.batch 7 { wraps := [75] } [] [3, 6, 9, 10, 44, 45, 46, 75] [.pointer (some ⟨g3, 0, none⟩), .map (some g7), .pointer (some ⟨g63, 0, none⟩), .int .i64 (k2 : Int), .slice a n c, .int .i64 ((n : Nat) : Int), .int .i64 (k2 : Int), .bool false] .nil (by kernel_rfl) (fun b107 => ?_)
            refine OPS.nil ?_
            refine thn_n ?_
            exact ⟨false, trivial, Bp.of Bp.f (by first | (simp only [h95, h98, iff_false, false_iff, iff_true, true_iff, Classical.not_not, and_true, true_and, and_false, false_and, or_true, true_or, or_false, false_or, not_true_eq_false, not_false_eq_true, and_self, or_self, iff_self]; done) | (simp [h95, h98]; done) | grind | (simp_all; done)), by kernel_rfl, hp90⟩
        · refine OPS.batch 0 {} [] [3, 6, 9, 10, 11, 13, 15, 44, 45, 46, 65] [.pointer (some ⟨g3, 0, none⟩), .map (some g7), .pointer (some ⟨g63, 0, none⟩), .int .i64 (k2 : Int), .pointer (some ⟨g81, 0, none⟩), .bool ((mapV m (k2 : Int)).isSome), .bool ((mapV r ((mapV m (k2 : Int)).getD tag0)).isSome), .slice a n c, .int .i64 ((n : Nat) : Int), .int .i64 (k2 : Int), .bool (l[k2]!.Put)] .nil (by kernel_rfl) (fun b108 => ?_)
          refine OPS.re [.pointer (some ⟨g3, 0, none⟩), .map (some g7), .pointer (some ⟨g63, 0, none⟩), .int .i64 (k2 : Int), .pointer (some ⟨g81, 0, none⟩), .bool ((mapV m (k2 : Int)).isSome), .bool ((mapV r ((mapV m (k2 : Int)).getD tag0)).isSome), .slice a n c, .int .i64 ((n : Nat) : Int), .int .i64 (k2 : Int), .bool false] (by rw [show (l[k2]!.Put) = false from Bp.var.ff h95]) ?_
          refine OPS.batch 10 { wraps := [67, 75] } [] [3, 6, 9, 10, 44, 45, 46, 75] [.pointer (some ⟨g3, 0, none⟩), .map (some g7), .pointer (some ⟨g63, 0, none⟩), .int .i64 (k2 : Int), .slice a n c, .int .i64 ((n : Nat) : Int), .int .i64 (k2 : Int), .bool false] .nil (by kernel_rfl) (fun b109 => ?_)
          refine OPS.nil ?_
          refine thn_n ?_
          exact ⟨false, trivial, Bp.of Bp.f (by first | (simp only [h95, iff_false, false_iff, iff_true, true_iff, Classical.not_not, and_true, true_and, and_false, false_and, or_true, true_or, or_false, false_or, not_true_eq_false, not_false_eq_true, and_self, or_self, iff_self]; done) | (simp [h95]; done) | grind | (simp_all; done)), by kernel_rfl, hp90⟩
      rintro e112 w113 ⟨x110, hd115, hb111, hE116, hp114⟩
      obtain ⟨b117, rfl⟩ := toMk hE116
      clear hE116
      clear hd115
      refine WP.test (p := (((l[k2]!.Put) = true) ∧ (((mapV m (k2 : Int)).isSome) = true) ∧ (¬ ((l[k2]!.Open) = true))) ∨ (((l[k2]!.Put) = true) ∧ (((mapV m (k2 : Int)).isSome) = true) ∧ ((l[k2]!.Open) = true) ∧ (((mapV r ((mapV m (k2 : Int)).getD tag0)).isSome) = true))) rfl hb111 (fun h118 => ?_) (fun h118 => ?_)
      · refine WP.region _ rfl (by kernel_rfl) ?_
        refine OPS.batch 2 {} [.slice ao no co] [3, 6, 9, 44, 45, 46, 76, 77] [.pointer (some ⟨g3, 0, none⟩), .map (some g7), .pointer (some ⟨g63, 0, none⟩), .slice a n c, .int .i64 ((n : Nat) : Int), .int .i64 (k2 : Int), .slice ao no co, .int .i64 (k2 : Int)] (.cons (Ld.row1 (P := Try.prog) (t := 24) (o := 0) (v := .slice ao no co) hp114.get3 (by kernel_rfl)) .nil) (by kernel_rfl) (fun b119 => ?_)
        refine OPS.cons (opStep.buildSlice (E := 3) hp114 [.int .i64 (k2 : Int)] (by kernel_rfl) (fun g122 w120 hp121 => ?_))
        refine OPS.cons (opStep.append3 [.int .i64 (k2 : Int)] hp121 8 (by kernel_rfl) rfl rfl rfl (SlR.row (n := 1) hp121.get0 rfl).rd (List.all_eq_true.1 (by kernel_rfl)) (by decide) (by omega) (by omega) (fun a125 c126 w127 hp128 hn129 => ?_))
        rw [(show List.flatMap (fun (y : Int) => [Go.Value.int .i64 y]) xs ++ [.int .i64 (k2 : Int)] = List.flatMap (fun (y : Int) => [Go.Value.int .i64 y]) (xs ++ [(k2 : Int)]) from (List.flatMap_append (xs := xs) (ys := [(k2 : Int)])).symm)] at hp128
        refine OPS.cons (opStep.store4 hp128 rfl [.slice a125 (no + 1) c126] [.slice a125 (no + 1) c126] (by kernel_rfl) (fun w130 hp131 => ?_))
        refine OPS.nil ?_
        refine blk_n ?_
        refine thn_n ?_
        refine WP.pure {} [] [3, 6, 9, 44, 45, 46] [.pointer (some ⟨g3, 0, none⟩), .map (some g7), .pointer (some ⟨g63, 0, none⟩), .slice a n c, .int .i64 ((n : Nat) : Int), .int .i64 ((k2 : Int) + 1)] (.cons (show Rng .i64 ((k2 : Int) + 1) from Rng.i64 (by omega)) .nil) (by kernel_rfl) (fun b132 => ?_)
        refine thn_n ?_
        exact ⟨l.length - (k2 + 1), (by omega), k2 + 1, xs ++ [(k2 : Int)], a125, no + 1, c126, rfl, ⟨by omega, by rw [idxs_succ, if_pos (show tkP l m k2 from by unfold tkP; rw [← kb]; have h_ := h118; grind), ← pb]⟩, by kernel_rfl, (hp131.sub (.cons _ (.cons _ (.cons _ (.cons_cons _ (.cons_cons _ (.cons_cons _ (.cons_cons _ (.slnil)))))))))⟩
      · refine WP.skip ?_
        refine blk_n ?_
        refine thn_n ?_
        refine WP.pure {} [] [3, 6, 9, 44, 45, 46] [.pointer (some ⟨g3, 0, none⟩), .map (some g7), .pointer (some ⟨g63, 0, none⟩), .slice a n c, .int .i64 ((n : Nat) : Int), .int .i64 ((k2 : Int) + 1)] (.cons (show Rng .i64 ((k2 : Int) + 1) from Rng.i64 (by omega)) .nil) (by kernel_rfl) (fun b133 => ?_)
        refine thn_n ?_
        exact ⟨l.length - (k2 + 1), (by omega), k2 + 1, xs, ao, no, co, rfl, ⟨by omega, by rw [idxs_succ, if_neg (show ¬ tkP l m k2 from by unfold tkP; rw [← kb]; have h_ := h118; grind), ← pb]⟩, by kernel_rfl, (hp114.sub (.cons _ (.cons _ (.cons_cons _ (.cons_cons _ (.cons_cons _ (.cons_cons _ (.slnil))))))))⟩
    · refine WP.exit ?_
      refine thn_x ?_
      refine thn_x ?_
      refine blk_hit ?_
      refine thn_n ?_
      refine WP.seq ?_
      refine WP.region _ rfl (by kernel_rfl) ?_
      refine OPS.batch 3 {} [.slice ao no co] [3, 6, 9, 82, 83] [.pointer (some ⟨g3, 0, none⟩), .map (some g7), .pointer (some ⟨g63, 0, none⟩), .iface 24 (.slice ao no co), .func (.func 110) #[] #[.pointer (some ⟨g3, 0, none⟩), .pointer (some ⟨g63, 0, none⟩)]] (.cons (Ld.row1 (P := Try.prog) (t := 24) (o := 0) (v := .slice ao no co) hp68.get1 (by kernel_rfl)) .nil) (by kernel_rfl) (fun b134 => ?_)
      have hp137 := hp68.pull0
      refine OPS.cons (opStep.call (some 84) [.iface 24 (.slice ao no co), .func (.func 110) #[] #[.pointer (some ⟨g3, 0, none⟩), .pointer (some ⟨g63, 0, none⟩)]] (by kernel_rfl) (stab_c ((tgLt_wk m).cm _) (by rw [pb]; exact idxs_inc _ _) (by omega) (t1_ok (mb := mb) hm (List.Mem.tail _ (List.Mem.tail _ (List.Mem.head _))) (List.Mem.head _) (by omega)) hp137) ?_)
      rintro _ w140 ⟨rfl, q138, hq139, hp141⟩
      refine ⟨_, rfl, ?_⟩
      have hq139l := hq139.1.length_eq
      refine OPS.nil ?_
      refine thn_n ?_
      refine WP.seq ?_
      refine WP.seq ?_
      refine WP.pure {} [.slice ao no co] [3, 6, 9, 85, 86, 87] [.pointer (some ⟨g3, 0, none⟩), .map (some g7), .pointer (some ⟨g63, 0, none⟩), .slice ao no co, .int .i64 ((no : Nat) : Int), .int .i64 0] (.cons (Ld.row1 (P := Try.prog) (t := 24) (o := 0) (v := .slice ao no co) hp141.get1 (by kernel_rfl)) .nil) (by kernel_rfl) (fun b142 => ?_)
      refine thn_n ?_
      refine WP.block ?_
      obtain rfl : k2 = l.length := by omega
      refine WP.loop (fun mz_ e143 w144 => ∃ (n2 : Nat) (r2 : KnM), mz_ = q138.length - n2 ∧ (n2 ≤ q138.length ∧ r2 = tkLeft m r q138 n2 ∧ ∀ i, i < n2 → ¬ tkBad m q138 i) ∧ List.map e143 [3, 6, 9, 85, 86, 87] = [.pointer (some ⟨g3, 0, none⟩), .map (some g7), .pointer (some ⟨g63, 0, none⟩), .slice ao no co, .int .i64 ((no : Nat) : Int), .int .i64 ((n2 : Nat) : Int)] ∧ Hp w Non [Res.own 3 1 (.slice ao no co) no (List.flatMap (fun (y : Int) => [Go.Value.int .i64 y]) q138), Res.row g63 [.slice ao no co] 24, Res.mp g7 kT vI r2, Res.row g3 [.map (some mb)] 117] w144) (q138.length - (0)) ⟨0, r, rfl, ⟨by omega, rfl, fun i hi => by omega⟩, by kernel_rfl, hp141⟩ ?_
      rintro _ e143 w144 ⟨n2, r2, rfl, hI146, hE147, hp145⟩
      obtain ⟨b148, rfl⟩ := toMk hE147
      clear hE147
      obtain ⟨qa, qb, qc⟩ := hI146
      refine WP.seq ?_
      refine WP.pure {} [] [3, 6, 9, 85, 86, 87, 88] [.pointer (some ⟨g3, 0, none⟩), .map (some g7), .pointer (some ⟨g63, 0, none⟩), .slice ao no co, .int .i64 ((no : Nat) : Int), .int .i64 ((n2 : Nat) : Int), .bool (decide (((n2 : Nat) : Int) < ((no : Nat) : Int)))] .nil (by kernel_rfl) (fun b149 => ?_)
      refine thn_n ?_
      refine WP.seq ?_
      refine WP.test (p := ((n2 : Nat) : Int) < ((no : Nat) : Int)) rfl Bp.dec (fun h150 => ?_) (fun h150 => ?_)
      · refine WP.skip ?_
        refine thn_n ?_
        refine WP.seq ?_
        refine WP.block ?_
        refine WP.seq ?_
        have := own_flat (sz := 1) (fun _ => rfl) (by decide) hp145.get0
        have hy152 : (q138)[n2]? = some q138[n2]! := get_bang (by first | (omega) | (simp only [List.length_append, List.length_cons, List.length_nil]; omega) | (simp only [List.length_take, List.length_append, List.length_cons, List.length_nil]; omega))
        refine WP.pure {} [.int .i64 (q138[n2]!)] [3, 6, 9, 16, 17, 85, 86, 87] [.pointer (some ⟨g3, 0, none⟩), .map (some g7), .pointer (some ⟨g63, 0, none⟩), .int .i64 ((n2 : Nat) : Int), .int .i64 (q138[n2]!), .slice ao no co, .int .i64 ((no : Nat) : Int), .int .i64 ((n2 : Nat) : Int)] (.cons (show InB (((n2 : Nat) : Int)) (no) from ⟨by omega, by omega⟩) (.cons ((SlR.own (hp145.get0)).some (by omega)) (.cons (Ld.add0 (Ld.el1 (P := Try.prog) (t := 3) (SlR.own (hp145.get0)).rd 1 (fun _ => rfl) hy152 (o := 0) (v := .int .i64 (q138[n2]!)) (by kernel_rfl))) .nil))) (by kernel_rfl) (fun b153 => ?_)
        refine thn_n ?_
        refine WP.seq ?_
        refine WP.region _ rfl (by kernel_rfl) ?_
        refine OPS.batch 3 {} [.map (some mb), GTag.val ((mapV m (q138[n2]!)).getD tag0)] [3, 6, 9, 16, 85, 86, 87, 94] [.pointer (some ⟨g3, 0, none⟩), .map (some g7), .pointer (some ⟨g63, 0, none⟩), .int .i64 ((n2 : Nat) : Int), .slice ao no co, .int .i64 ((no : Nat) : Int), .int .i64 ((n2 : Nat) : Int), GTag.val ((mapV m (q138[n2]!)).getD tag0)] (.cons (Ld.row1 (P := Try.prog) (t := 117) (o := 0) (v := .map (some mb)) hp145.get3 (by kernel_rfl)) (.cons (Lk.noD (vf := vT) (keyInt (by exact Try.underlying3)) (by exact Try.underlying117) (mp_at hm hp145.fr) (q138[n2]!) tag0 (by kernel_rfl)) .nil)) (by kernel_rfl) (fun b154 => ?_)
        refine OPS.cons (opStep.alloc hp145 [.int .i64 0, .int .i64 0] (by kernel_rfl) (fun g157 w155 hp156 => ?_))
        refine OPS.cons (opStep.store0 hp156 rfl [.int .i64 (((mapV m (q138[n2]!)).getD tag0).Count), .int .i64 (((mapV m (q138[n2]!)).getD tag0).Client)] [.int .i64 (((mapV m (q138[n2]!)).getD tag0).Count), .int .i64 (((mapV m (q138[n2]!)).getD tag0).Client)] (by kernel_rfl) (fun w158 hp159 => ?_))
        refine OPS.nil ?_
        refine thn_n ?_
        refine WP.seq ?_
        refine WP.cut (fun e216 w217 => ∃ (x214 : Bool), (True) ∧ Bp x214 (((¬ (tagValid ((mapV m (q138[n2]!)).getD tag0)))) ∨ ((tagValid ((mapV m (q138[n2]!)).getD tag0)) ∧ (tagZero ((mapV m (q138[n2]!)).getD tag0))) ∨ ((tagValid ((mapV m (q138[n2]!)).getD tag0)) ∧ (¬ (tagZero ((mapV m (q138[n2]!)).getD tag0))) ∧ (0 < ((n2 : Nat) : Int)) ∧ (((((mapV m (q138[(n2 - 1)]!)).getD tag0).Count) = (((mapV m (q138[n2]!)).getD tag0).Count)) ∧ ((((mapV m (q138[(n2 - 1)]!)).getD tag0).Client) = (((mapV m (q138[n2]!)).getD tag0).Client))))) ∧ List.map e216 [3, 6, 9, 18, 85, 86, 87, 116] = [.pointer (some ⟨g3, 0, none⟩), .map (some g7), .pointer (some ⟨g63, 0, none⟩), .pointer (some ⟨g157, 0, none⟩), .slice ao no co, .int .i64 ((no : Nat) : Int), .int .i64 ((n2 : Nat) : Int), .bool x214] ∧ Hp w Non [Res.row g157 [.int .i64 (((mapV m (q138[n2]!)).getD tag0).Count), .int .i64 (((mapV m (q138[n2]!)).getD tag0).Client)] 70, Res.own 3 1 (.slice ao no co) no (List.flatMap (fun (y : Int) => [Go.Value.int .i64 y]) q138), Res.row g63 [.slice ao no co] 24, Res.mp g7 kT vI r2, Res.row g3 [.map (some mb)] 117] w217) ?_ ?_
        · have hp163 := hp159.drew
          refine WP.quiet (fun w161 => Hp w Non [Res.row g157 [.int .i64 (((mapV m (q138[n2]!)).getD tag0).Count), .int .i64 (((mapV m (q138[n2]!)).getD tag0).Client)] 70, Res.own 3 1 (.slice ao no co) no (List.flatMap (fun (y : Int) => [Go.Value.int .i64 y]) q138), Res.row g63 [.slice ao no co] 24, Res.mp g7 kT vI r2, Res.row g3 [.map (some mb)] 117] w161) (by kernel_rfl) hp163 ?_
          have hnehp163 : ∃ wz_, (fun w161 => Hp w Non [Res.row g157 [.int .i64 (((mapV m (q138[n2]!)).getD tag0).Count), .int .i64 (((mapV m (q138[n2]!)).getD tag0).Client)] 70, Res.own 3 1 (.slice ao no co) no (List.flatMap (fun (y : Int) => [Go.Value.int .i64 y]) q138), Res.row g63 [.slice ao no co] 24, Res.mp g7 kT vI r2, Res.row g3 [.map (some mb)] 117] w161) wz_ := ⟨_, hp163⟩
          refine QOPS.batch 1 {} [GTag.val ((mapV m (q138[n2]!)).getD tag0)] [3, 6, 9, 16, 18, 85, 86, 87, 95] [.pointer (some ⟨g3, 0, none⟩), .map (some g7), .pointer (some ⟨g63, 0, none⟩), .int .i64 ((n2 : Nat) : Int), .pointer (some ⟨g157, 0, none⟩), .slice ao no co, .int .i64 ((no : Nat) : Int), .int .i64 ((n2 : Nat) : Int), GTag.val ((mapV m (q138[n2]!)).getD tag0)] hnehp163 (fun w164 hp165 => QB.mk (.cons (show Ld Try.prog w164 70 ⟨g157, 0, none⟩ (GTag.val ((mapV m (q138[n2]!)).getD tag0)) from Ld.rowN (cs := [.int .i64 (((mapV m (q138[n2]!)).getD tag0).Count), .int .i64 (((mapV m (q138[n2]!)).getD tag0).Client)]) hp165.get0 (by kernel_rfl)) .nil) (by kernel_rfl)) (fun b166 => ?_)
          refine QOPS.call (some 96) [GTag.val ((mapV m (q138[n2]!)).getD tag0)] (by kernel_rfl) (fun w167 hp168 => (tag_Valid ((mapV m (q138[n2]!)).getD tag0) _).mono fun _ _ h => by obtain ⟨b, h1, h2, h3⟩ := h; exact ⟨by rw [h1, h2.eq_bo], hp168.step h3⟩) ?_
          refine QOPS.batch 2 {} [] [3, 6, 9, 16, 18, 85, 86, 87, 98] [.pointer (some ⟨g3, 0, none⟩), .map (some g7), .pointer (some ⟨g63, 0, none⟩), .int .i64 ((n2 : Nat) : Int), .pointer (some ⟨g157, 0, none⟩), .slice ao no co, .int .i64 ((no : Nat) : Int), .int .i64 ((n2 : Nat) : Int), .bool (!(bo (tagValid ((mapV m (q138[n2]!)).getD tag0))))] hnehp163 (fun w169 hp170 => QB.mk .nil (by kernel_rfl)) (fun b171 => ?_)
          by_cases h172 : tagValid ((mapV m (q138[n2]!)).getD tag0)
          · refine QOPS.batch 0 {} [] [3, 6, 9, 16, 18, 85, 86, 87, 98] [.pointer (some ⟨g3, 0, none⟩), .map (some g7), .pointer (some ⟨g63, 0, none⟩), .int .i64 ((n2 : Nat) : Int), .pointer (some ⟨g157, 0, none⟩), .slice ao no co, .int .i64 ((no : Nat) : Int), .int .i64 ((n2 : Nat) : Int), .bool (!(bo (tagValid ((mapV m (q138[n2]!)).getD tag0))))] hnehp163 (fun _ _ => QB.mk .nil (by kernel_rfl)) (fun b179 => ?_)
            refine QOPS.re [.pointer (some ⟨g3, 0, none⟩), .map (some g7), .pointer (some ⟨g63, 0, none⟩), .int .i64 ((n2 : Nat) : Int), .pointer (some ⟨g157, 0, none⟩), .slice ao no co, .int .i64 ((no : Nat) : Int), .int .i64 ((n2 : Nat) : Int), .bool false] (by rw [show (!(bo (tagValid ((mapV m (q138[n2]!)).getD tag0)))) = false from (Bp.not Bp.bo).ff (fun k => k h172)]) ?_
            refine QOPS.batch 1 {} [GTag.val ((mapV m (q138[n2]!)).getD tag0)] [3, 6, 9, 16, 18, 85, 86, 87, 98, 99] [.pointer (some ⟨g3, 0, none⟩), .map (some g7), .pointer (some ⟨g63, 0, none⟩), .int .i64 ((n2 : Nat) : Int), .pointer (some ⟨g157, 0, none⟩), .slice ao no co, .int .i64 ((no : Nat) : Int), .int .i64 ((n2 : Nat) : Int), .bool false, GTag.val ((mapV m (q138[n2]!)).getD tag0)] hnehp163 (fun w180 hp181 => QB.mk (.cons (show Ld Try.prog w180 70 ⟨g157, 0, none⟩ (GTag.val ((mapV m (q138[n2]!)).getD tag0)) from Ld.rowN (cs := [.int .i64 (((mapV m (q138[n2]!)).getD tag0).Count), .int .i64 (((mapV m (q138[n2]!)).getD tag0).Client)]) hp181.get0 (by kernel_rfl)) .nil) (by kernel_rfl)) (fun b182 => ?_)
            refine QOPS.call (some 100) [GTag.val ((mapV m (q138[n2]!)).getD tag0)] (by kernel_rfl) (fun w183 hp184 => (tag_Zero ((mapV m (q138[n2]!)).getD tag0) _).mono fun _ _ h => by obtain ⟨b, h1, h2, h3⟩ := h; exact ⟨by rw [h1, h2.eq_bo], hp184.step h3⟩) ?_
            refine QOPS.batch 2 { wraps := [101] } [] [3, 6, 9, 16, 18, 85, 86, 87, 102] [.pointer (some ⟨g3, 0, none⟩), .map (some g7), .pointer (some ⟨g63, 0, none⟩), .int .i64 ((n2 : Nat) : Int), .pointer (some ⟨g157, 0, none⟩), .slice ao no co, .int .i64 ((no : Nat) : Int), .int .i64 ((n2 : Nat) : Int), .bool (bo (tagZero ((mapV m (q138[n2]!)).getD tag0)))] hnehp163 (fun w185 hp186 => QB.mk .nil (by kernel_rfl)) (fun b187 => ?_)
            by_cases h188 : tagZero ((mapV m (q138[n2]!)).getD tag0)
            · refine QOPS.batch 0 {} [] [3, 6, 9, 16, 18, 85, 86, 87, 102] [.pointer (some ⟨g3, 0, none⟩), .map (some g7), .pointer (some ⟨g63, 0, none⟩), .int .i64 ((n2 : Nat) : Int), .pointer (some ⟨g157, 0, none⟩), .slice ao no co, .int .i64 ((no : Nat) : Int), .int .i64 ((n2 : Nat) : Int), .bool (bo (tagZero ((mapV m (q138[n2]!)).getD tag0)))] hnehp163 (fun _ _ => QB.mk .nil (by kernel_rfl)) (fun b189 => ?_)
              refine QOPS.re [.pointer (some ⟨g3, 0, none⟩), .map (some g7), .pointer (some ⟨g63, 0, none⟩), .int .i64 ((n2 : Nat) : Int), .pointer (some ⟨g157, 0, none⟩), .slice ao no co, .int .i64 ((no : Nat) : Int), .int .i64 ((n2 : Nat) : Int), .bool true] (by rw [show (bo (tagZero ((mapV m (q138[n2]!)).getD tag0))) = true from Bp.bo.tt h188]) ?_
              refine QOPS.batch 14 { wraps := [116] } [] [3, 6, 9, 18, 85, 86, 87, 116] [.pointer (some ⟨g3, 0, none⟩), .map (some g7), .pointer (some ⟨g63, 0, none⟩), .pointer (some ⟨g157, 0, none⟩), .slice ao no co, .int .i64 ((no : Nat) : Int), .int .i64 ((n2 : Nat) : Int), .bool true] hnehp163 (fun w190 hp191 => QB.mk .nil (by kernel_rfl)) (fun b192 => ?_)
              refine QOPS.nil (fun w193 hp194 => ?_)
              refine thn_n ?_
              exact ⟨true, trivial, Bp.of Bp.t (by first | (simp only [h172, h188, iff_false, false_iff, iff_true, true_iff, Classical.not_not, and_true, true_and, and_false, false_and, or_true, true_or, or_false, false_or, not_true_eq_false, not_false_eq_true, and_self, or_self, iff_self]; done) | (simp [h172, h188]; done) | grind | (simp_all; done)), by kernel_rfl, hp194⟩
            · refine QOPS.batch 0 {} [] [3, 6, 9, 16, 18, 85, 86, 87, 102] [.pointer (some ⟨g3, 0, none⟩), .map (some g7), .pointer (some ⟨g63, 0, none⟩), .int .i64 ((n2 : Nat) : Int), .pointer (some ⟨g157, 0, none⟩), .slice ao no co, .int .i64 ((no : Nat) : Int), .int .i64 ((n2 : Nat) : Int), .bool (bo (tagZero ((mapV m (q138[n2]!)).getD tag0)))] hnehp163 (fun _ _ => QB.mk .nil (by kernel_rfl)) (fun b195 => ?_)
              refine QOPS.re [.pointer (some ⟨g3, 0, none⟩), .map (some g7), .pointer (some ⟨g63, 0, none⟩), .int .i64 ((n2 : Nat) : Int), .pointer (some ⟨g157, 0, none⟩), .slice ao no co, .int .i64 ((no : Nat) : Int), .int .i64 ((n2 : Nat) : Int), .bool false] (by rw [show (bo (tagZero ((mapV m (q138[n2]!)).getD tag0))) = false from Bp.bo.ff h188]) ?_
              refine QOPS.batch 3 {} [] [3, 6, 9, 16, 18, 85, 86, 87, 102, 105] [.pointer (some ⟨g3, 0, none⟩), .map (some g7), .pointer (some ⟨g63, 0, none⟩), .int .i64 ((n2 : Nat) : Int), .pointer (some ⟨g157, 0, none⟩), .slice ao no co, .int .i64 ((no : Nat) : Int), .int .i64 ((n2 : Nat) : Int), .bool false, .bool (decide (0 < ((n2 : Nat) : Int)))] hnehp163 (fun w196 hp197 => QB.mk .nil (by kernel_rfl)) (fun b198 => ?_)
              by_cases h199 : 0 < ((n2 : Nat) : Int)
              · refine QOPS.batch 0 {} [] [3, 6, 9, 16, 18, 85, 86, 87, 102, 105] [.pointer (some ⟨g3, 0, none⟩), .map (some g7), .pointer (some ⟨g63, 0, none⟩), .int .i64 ((n2 : Nat) : Int), .pointer (some ⟨g157, 0, none⟩), .slice ao no co, .int .i64 ((no : Nat) : Int), .int .i64 ((n2 : Nat) : Int), .bool false, .bool (decide (0 < ((n2 : Nat) : Int)))] hnehp163 (fun _ _ => QB.mk .nil (by kernel_rfl)) (fun b200 => ?_)
                refine QOPS.re [.pointer (some ⟨g3, 0, none⟩), .map (some g7), .pointer (some ⟨g63, 0, none⟩), .int .i64 ((n2 : Nat) : Int), .pointer (some ⟨g157, 0, none⟩), .slice ao no co, .int .i64 ((no : Nat) : Int), .int .i64 ((n2 : Nat) : Int), .bool false, .bool true] (by rw [show (decide (0 < ((n2 : Nat) : Int))) = true from Bp.dec.tt h199]) ?_
                have := own_flat (sz := 1) (fun _ => rfl) (by decide) hp163.get1
                have hy204 : (q138)[(n2 - 1)]? = some q138[(n2 - 1)]! := get_bang (by first | (omega) | (simp only [List.length_append, List.length_cons, List.length_nil]; omega) | (simp only [List.length_take, List.length_append, List.length_cons, List.length_nil]; omega))
                refine QOPS.batch 11 { wraps := [115, 116], subs := [109] } [.map (some mb), .slice ao no co, .int .i64 ((n2 - 1 : Nat) : Int), .int .i64 (q138[(n2 - 1)]!), GTag.val ((mapV m (q138[(n2 - 1)]!)).getD tag0), GTag.val ((mapV m (q138[n2]!)).getD tag0)] [3, 6, 9, 18, 85, 86, 87, 116] [.pointer (some ⟨g3, 0, none⟩), .map (some g7), .pointer (some ⟨g63, 0, none⟩), .pointer (some ⟨g157, 0, none⟩), .slice ao no co, .int .i64 ((no : Nat) : Int), .int .i64 ((n2 : Nat) : Int), .bool ((decide ((((mapV m (q138[(n2 - 1)]!)).getD tag0).Count) = (((mapV m (q138[n2]!)).getD tag0).Count))) && ((decide ((((mapV m (q138[(n2 - 1)]!)).getD tag0).Client) = (((mapV m (q138[n2]!)).getD tag0).Client))) && true))] hnehp163 (fun w201 hp202 => QB.mk (.cons (Ld.row1 (P := Try.prog) (t := 117) (o := 0) (v := .map (some mb)) hp202.get4 (by kernel_rfl)) (.cons (Ld.row1 (P := Try.prog) (t := 24) (o := 0) (v := .slice ao no co) hp202.get2 (by kernel_rfl)) (.cons (show Rng .i64 (((n2 : Nat) : Int) - 1) from Rng.i64 (by omega)) (.cons (show (.int .i64 (((n2 : Nat) : Int) - 1) : Go.Value) = .int .i64 ((n2 - 1 : Nat) : Int) from congrArg (Value.int .i64) ((show ((n2 : Nat) : Int) - 1 = ((n2 - 1 : Nat) : Int) by omega))) (.cons (show InB (((n2 - 1 : Nat) : Int)) (no) from ⟨by omega, by omega⟩) (.cons ((SlR.own (hp202.get1)).some (by omega)) (.cons (Ld.add0 (Ld.el1 (P := Try.prog) (t := 3) (SlR.own (hp202.get1)).rd 1 (fun _ => rfl) hy204 (o := 0) (v := .int .i64 (q138[(n2 - 1)]!)) (by kernel_rfl))) (.cons (Lk.noD (vf := vT) (keyInt (by exact Try.underlying3)) (by exact Try.underlying117) (mp_at hm hp202.fr) (q138[(n2 - 1)]!) tag0 (by kernel_rfl)) (.cons (show Ld Try.prog w201 70 ⟨g157, 0, none⟩ (GTag.val ((mapV m (q138[n2]!)).getD tag0)) from Ld.rowN (cs := [.int .i64 (((mapV m (q138[n2]!)).getD tag0).Count), .int .i64 (((mapV m (q138[n2]!)).getD tag0).Client)]) hp202.get0 (by kernel_rfl)) .nil))))))))) (by kernel_rfl)) (fun b205 => ?_)
                refine QOPS.nil (fun w206 hp207 => ?_)
                refine thn_n ?_
                exact ⟨(decide ((((mapV m (q138[(n2 - 1)]!)).getD tag0).Count) = (((mapV m (q138[n2]!)).getD tag0).Count))) && ((decide ((((mapV m (q138[(n2 - 1)]!)).getD tag0).Client) = (((mapV m (q138[n2]!)).getD tag0).Client))) && true), trivial, Bp.of (Bp.band Bp.dec (Bp.band1 Bp.dec)) (by first | (simp only [h172, h188, h199, iff_false, false_iff, iff_true, true_iff, Classical.not_not, and_true, true_and, and_false, false_and, or_true, true_or, or_false, false_or, not_true_eq_false, not_false_eq_true, and_self, or_self, iff_self]; done) | (simp [h172, h188, h199]; done) | grind | (simp_all; done)), by kernel_rfl, hp207⟩
              · refine QOPS.batch 0 {} [] [3, 6, 9, 16, 18, 85, 86, 87, 102, 105] [.pointer (some ⟨g3, 0, none⟩), .map (some g7), .pointer (some ⟨g63, 0, none⟩), .int .i64 ((n2 : Nat) : Int), .pointer (some ⟨g157, 0, none⟩), .slice ao no co, .int .i64 ((no : Nat) : Int), .int .i64 ((n2 : Nat) : Int), .bool false, .bool (decide (0 < ((n2 : Nat) : Int)))] hnehp163 (fun _ _ => QB.mk .nil (by kernel_rfl)) (fun b208 => ?_)
                refine QOPS.re [.pointer (some ⟨g3, 0, none⟩), .map (some g7), .pointer (some ⟨g63, 0, none⟩), .int .i64 ((n2 : Nat) : Int), .pointer (some ⟨g157, 0, none⟩), .slice ao no co, .int .i64 ((no : Nat) : Int), .int .i64 ((n2 : Nat) : Int), .bool false, .bool false] (by rw [show (decide (0 < ((n2 : Nat) : Int))) = false from Bp.dec.ff h199]) ?_
                refine QOPS.batch 11 { wraps := [115, 116] } [] [3, 6, 9, 18, 85, 86, 87, 116] [.pointer (some ⟨g3, 0, none⟩), .map (some g7), .pointer (some ⟨g63, 0, none⟩), .pointer (some ⟨g157, 0, none⟩), .slice ao no co, .int .i64 ((no : Nat) : Int), .int .i64 ((n2 : Nat) : Int), .bool false] hnehp163 (fun w209 hp210 => QB.mk .nil (by kernel_rfl)) (fun b211 => ?_)
                refine QOPS.nil (fun w212 hp213 => ?_)
                refine thn_n ?_
                exact ⟨false, trivial, Bp.of Bp.f (by first | (simp only [h172, h188, h199, iff_false, false_iff, iff_true, true_iff, Classical.not_not, and_true, true_and, and_false, false_and, or_true, true_or, or_false, false_or, not_true_eq_false, not_false_eq_true, and_self, or_self, iff_self]; done) | (simp [h172, h188, h199]; done) | grind | (simp_all; done)), by kernel_rfl, hp213⟩
          · refine QOPS.batch 0 {} [] [3, 6, 9, 16, 18, 85, 86, 87, 98] [.pointer (some ⟨g3, 0, none⟩), .map (some g7), .pointer (some ⟨g63, 0, none⟩), .int .i64 ((n2 : Nat) : Int), .pointer (some ⟨g157, 0, none⟩), .slice ao no co, .int .i64 ((no : Nat) : Int), .int .i64 ((n2 : Nat) : Int), .bool (!(bo (tagValid ((mapV m (q138[n2]!)).getD tag0))))] hnehp163 (fun _ _ => QB.mk .nil (by kernel_rfl)) (fun b173 => ?_)
            refine QOPS.re [.pointer (some ⟨g3, 0, none⟩), .map (some g7), .pointer (some ⟨g63, 0, none⟩), .int .i64 ((n2 : Nat) : Int), .pointer (some ⟨g157, 0, none⟩), .slice ao no co, .int .i64 ((no : Nat) : Int), .int .i64 ((n2 : Nat) : Int), .bool true] (by rw [show (!(bo (tagValid ((mapV m (q138[n2]!)).getD tag0)))) = true from (Bp.not Bp.bo).tt h172]) ?_
            refine QOPS.batch 18 { wraps := [101, 116] } [] [3, 6, 9, 18, 85, 86, 87, 116] [.pointer (some ⟨g3, 0, none⟩), .map (some g7), .pointer (some ⟨g63, 0, none⟩), .pointer (some ⟨g157, 0, none⟩), .slice ao no co, .int .i64 ((no : Nat) : Int), .int .i64 ((n2 : Nat) : Int), .bool true] hnehp163 (fun w174 hp175 => QB.mk .nil (by kernel_rfl)) (fun b176 => ?_)
            refine QOPS.nil (fun w177 hp178 => ?_)
            refine thn_n ?_
            exact ⟨true, trivial, Bp.of Bp.t (by first | (simp only [h172, iff_false, false_iff, iff_true, true_iff, Classical.not_not, and_true, true_and, and_false, false_and, or_true, true_or, or_false, false_or, not_true_eq_false, not_false_eq_true, and_self, or_self, iff_self]; done) | (simp [h172]; done) | grind | (simp_all; done)), by kernel_rfl, hp178⟩
        rintro e216 w217 ⟨x214, hd219, hb215, hE220, hp218⟩
        obtain ⟨b221, rfl⟩ := toMk hE220
        clear hE220
        clear hd219
        refine WP.test (p := ((¬ (tagValid ((mapV m (q138[n2]!)).getD tag0)))) ∨ ((tagValid ((mapV m (q138[n2]!)).getD tag0)) ∧ (tagZero ((mapV m (q138[n2]!)).getD tag0))) ∨ ((tagValid ((mapV m (q138[n2]!)).getD tag0)) ∧ (¬ (tagZero ((mapV m (q138[n2]!)).getD tag0))) ∧ (0 < ((n2 : Nat) : Int)) ∧ (((((mapV m (q138[(n2 - 1)]!)).getD tag0).Count) = (((mapV m (q138[n2]!)).getD tag0).Count)) ∧ ((((mapV m (q138[(n2 - 1)]!)).getD tag0).Client) = (((mapV m (q138[n2]!)).getD tag0).Client))))) rfl hb215 (fun h222 => ?_) (fun h222 => ?_)
        · refine WP.seq ?_
          refine WP.pure {} [] [4, 5] [.slice none 0 0, .bool false] .nil (by kernel_rfl) (fun b223 => ?_)
          refine thn_n ?_
          refine WP.ret ?_
          refine thn_r ?_
          refine blk_r ?_
          refine thn_r ?_
          refine thn_r ?_
          refine blk_r ?_
          refine thn_r ?_
          refine bodyQ.of _ rfl [.slice none 0 0, .bool false] ⟨rfl, rfl, trivial⟩ ?_
          have hp224 := (show Hp w Non (Res.own 3 1 (.slice none 0 0) 0 (List.flatMap (fun (y : Int) => [Go.Value.int .i64 y]) ([] : List Int)) :: [Res.row g157 [.int .i64 (((mapV m (q138[n2]!)).getD tag0).Count), .int .i64 (((mapV m (q138[n2]!)).getD tag0).Client)] 70, Res.own 3 1 (.slice ao no co) no (List.flatMap (fun (y : Int) => [Go.Value.int .i64 y]) q138), Res.row g63 [.slice ao no co] 24, Res.mp g7 kT vI r2, Res.row g3 [.map (some mb)] 117]) w217 from hp218.nilOwn 3 1)
          exact ⟨none, 0, [], false, rfl, ⟨q138, ⟨by rw [← pb]; exact hq139.1, by have h2_ := hq139.2; have e_ : no = q138.length := (by omega); rwa [e_] at h2_⟩, .inl ⟨⟨n2, by omega, by unfold tkBad; rw [tagEq]; have h_ := h222; grind⟩, rfl, Bool.false_ne_true⟩⟩, hp224.sub (.cons_cons _ (List.nil_sublist _))⟩
        · refine WP.skip ?_
          refine thn_n ?_
          refine WP.region _ rfl (by kernel_rfl) ?_
          refine OPS.batch 2 {} [GTag.val ((mapV m (q138[n2]!)).getD tag0)] [3, 6, 9, 85, 86, 87, 117, 118] [.pointer (some ⟨g3, 0, none⟩), .map (some g7), .pointer (some ⟨g63, 0, none⟩), .slice ao no co, .int .i64 ((no : Nat) : Int), .int .i64 ((n2 : Nat) : Int), .map (some g7), GTag.val ((mapV m (q138[n2]!)).getD tag0)] (.cons (show Ld Try.prog w217 70 ⟨g157, 0, none⟩ (GTag.val ((mapV m (q138[n2]!)).getD tag0)) from Ld.rowN (cs := [.int .i64 (((mapV m (q138[n2]!)).getD tag0).Count), .int .i64 (((mapV m (q138[n2]!)).getD tag0).Client)]) hp218.get0 (by kernel_rfl)) .nil) (by kernel_rfl) (fun b225 => ?_)
          have hp228 := hp218.pull3
          refine OPS.cons (opStep.deleteK keyTag (by exact Try.underlying148) hp228 ((mapV m (q138[n2]!)).getD tag0) (by kernel_rfl) (fun w226 hp227 => ?_))
          refine OPS.nil ?_
          refine blk_n ?_
          refine thn_n ?_
          refine WP.pure { subs := [119] } [.int .i64 ((n2 + 1 : Nat) : Int)] [3, 6, 9, 85, 86, 87] [.pointer (some ⟨g3, 0, none⟩), .map (some g7), .pointer (some ⟨g63, 0, none⟩), .slice ao no co, .int .i64 ((no : Nat) : Int), .int .i64 ((n2 + 1 : Nat) : Int)] (.cons (show Rng .i64 (((n2 : Nat) : Int) + 1) from Rng.i64 (by omega)) (.cons (show (.int .i64 (((n2 : Nat) : Int) + 1) : Go.Value) = .int .i64 ((n2 + 1 : Nat) : Int) from congrArg (Value.int .i64) ((show ((n2 : Nat) : Int) + 1 = ((n2 + 1 : Nat) : Int) by omega))) .nil)) (by kernel_rfl) (fun b229 => ?_)
          refine thn_n ?_
          exact ⟨q138.length - (n2 + 1), (by omega), n2 + 1, mapDel r2 ((mapV m (q138[n2]!)).getD tag0), rfl, ⟨by omega, by unfold tkLeft; rw [← qb], fun i hi => by by_cases e : i = n2; subst e; unfold tkBad; rw [tagEq]; have h_ := h222; grind; exact qc i (by omega)⟩, by kernel_rfl, (((((hp227.pull4).pull1).pull4).pull4).sub (.cons_cons _ (.cons_cons _ (.cons_cons _ (.cons_cons _ (.cons _ (.slnil)))))))⟩
      · refine WP.exit ?_
        refine thn_x ?_
        refine thn_x ?_
        refine blk_hit ?_
        refine thn_n ?_
        refine WP.seq ?_
        refine WP.region _ rfl (by kernel_rfl) ?_
        refine OPS.batch 2 {} [.slice ao no co] [120, 121] [.slice ao no co, .map (some g7)] (.cons (Ld.row1 (P := Try.prog) (t := 24) (o := 0) (v := .slice ao no co) hp145.get1 (by kernel_rfl)) .nil) (by kernel_rfl) (fun b230 => ?_)
        have hp233 := hp145.pull2
        refine OPS.cons (opStep.lenMap (by kernel_rfl) hp233 (by kernel_rfl) ?_)
        refine OPS.batch 3 {} [] [4, 5] [.slice ao no co, .bool (decide (((r2.length : Nat) : Int) = 0))] .nil (by kernel_rfl) (fun b234 => ?_)
        refine OPS.nil ?_
        refine thn_n ?_
        refine WP.ret ?_
        refine bodyQ.of _ rfl [.slice ao no co, .bool (decide (((r2.length : Nat) : Int) = 0))] ⟨rfl, rfl, trivial⟩ ?_
        obtain rfl : no = q138.length := by omega
        obtain rfl : n2 = q138.length := by omega
        exact ⟨_, _, q138, _, rfl, ⟨q138, ⟨by rw [← pb]; exact hq139.1, hq139.2⟩, .inr ⟨qc, rfl, ((show _ = true ↔ _ from Bp.dec)).trans (by rw [kb] at qb; rw [← qb]; exact ⟨fun h => List.eq_nil_of_length_eq_zero (by omega), fun h => by rw [h]; rfl⟩)⟩⟩, (hp233.sub (.cons _ (.cons_cons _ (.cons _ (.cons _ (.slnil))))))⟩

end Go.Proofs.Ytdahgdkadfdkeaa.K
