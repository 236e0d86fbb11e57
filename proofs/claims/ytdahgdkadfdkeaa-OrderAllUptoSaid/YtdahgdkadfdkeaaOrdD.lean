/- The walks of OrdD: what each function computes. -/
import Derived.Test.YtdahgdkadfdkeaaProg
import Derived.Test.YtdahgdkadfdkeaaCoreO
import Derived.Test.YtdahgdkadfdkeaaOrdC
import Derived.Test.YtdahgdkadfdkeaaTag
import Derived.Test.YtdahgdkadfdkeaaCoreL
import Derived.Test.YtdahgdkadfdkeaaCoreI
import Derived.Test.YtdahgdkadfdkeaaCoreQ
namespace Go.Proofs.Ytdahgdkadfdkeaa.K
open Go Go.Proofs Go.RowKit
set_option linter.unusedVariables false
set_option linter.unusedSimpArgs false
set_option maxRecDepth 20000
set_option maxHeartbeats 4000000

abbrev kI : Int → Go.Value := fun y => .int .i64 y
abbrev vI : Int → Go.Value := fun y => .int .i64 y
abbrev kT : GTag → Go.Value := fun t => GTag.val t
abbrev vT : GTag → Go.Value := fun t => GTag.val t
theorem keyTag : KeyOk Try.prog 70 kT where
  wide := by kernel_rfl
  eq := fun a b => ⟨_, (by kernel_rfl : eqV Try.prog 4 70 (kT a) (kT b) = some (decide (a.Count = b.Count) && (decide (a.Client = b.Client) && true))), by
    cases a; cases b; simp⟩
  chk := fun a => by kernel_rfl
  bits := fun a => by simp [kT, GTag.val, GTag.cells, Instr.sameBits]
theorem enter_of {f : FuncId} {fn : Func} (hf : Try.prog.funcs[f]? = some fn) (hb : fn.body.isNone = false) (hn : (fn.name == "runtime.NumGoroutine") = false) : ∀ args w, (callFunc f args).run Try.prog w = .ok (.enter f args) w := fun _ _ => callFunc_enter hf hb hn

theorem tgB_none {l : List GCall} : ∀ {k : Nat}, tgB l k = none → k ≤ l.length → tgB l l.length = none := fun {k} h hk => by
  obtain ⟨d, hd⟩ : ∃ d, l.length = k + d := ⟨l.length - k, by omega⟩
  rw [hd]
  clear hd hk
  induction d with
  | zero => exact h
  | succ d ih =>
    rw [show k + (d + 1) = (k + d) + 1 from rfl, tgB, ih]; rfl

theorem o_tagged (l : List GCall) (a : Option Addr) (n c : Nat) (w : World) (hn : n = l.length) (hb : l.length ≤ 8796093022207) (hs : SlR w a n (l.flatMap GCall.cells)) :
    Calls Try.prog 82 #[.slice a n c] w (fun r_ w' => (tgB l l.length = none ∧ r_ = .returned (.tuple #[.map none, .bool false]) ∧ Fram Non w w') ∨ ∃ mb m kn, tgB l l.length = some (m, kn) ∧ r_ = .returned (.tuple #[.map (some mb), .bool true]) ∧ Hp w Non [Res.mp mb kI vT m] w') := by
  refine calls_of Try.func82 rfl 118 rfl (by simp) ?_
  have hp0 := Hp.init w
  have he0 : List.map (env0 [.slice a n c]) [0] = [.slice a n c] := by kernel_rfl
  obtain ⟨b0, he0⟩ := toMk he0
  rw [he0]
  clear he0
  refine WP.seq ?_
  refine WP.pure {} [] [0] [.slice a n c] .nil (by kernel_rfl) (fun b1 => ?_)
  refine thn_n ?_
  refine WP.seq ?_
  refine WP.region _ rfl (by kernel_rfl) ?_
  refine OPS.cons (opStep.makeMapK kI vT hp0 (fun g4 w2 hp3 => ?_))
  refine OPS.batch 1 {} [] [0, 4] [.slice a n c, .map (some g4)] .nil (by kernel_rfl) (fun b5 => ?_)
  refine OPS.nil ?_
  refine thn_n ?_
  refine WP.seq ?_
  refine WP.region _ rfl (by kernel_rfl) ?_
  refine OPS.cons (opStep.makeMapK kT vI hp3 (fun g8 w6 hp7 => ?_))
  refine OPS.batch 1 {} [] [0, 4, 5] [.slice a n c, .map (some g4), .map (some g8)] .nil (by kernel_rfl) (fun b9 => ?_)
  refine OPS.nil ?_
  refine thn_n ?_
  refine WP.seq ?_
  refine WP.seq ?_
  refine WP.pure {} [] [0, 4, 5, 19, 20, 21] [.slice a n c, .map (some g4), .map (some g8), .slice a n c, .int .i64 ((n : Nat) : Int), .int .i64 0] .nil (by kernel_rfl) (fun b10 => ?_)
  refine thn_n ?_
  refine WP.block ?_
  refine WP.loop (fun mz_ e11 w12 => ∃ (k : Nat) (m : TgM) (kn : KnM), mz_ = l.length - k ∧ (k ≤ l.length ∧ tgA l k = (m, kn)) ∧ List.map e11 [0, 4, 5, 19, 20, 21] = [.slice a n c, .map (some g4), .map (some g8), .slice a n c, .int .i64 ((n : Nat) : Int), .int .i64 (k : Int)] ∧ Hp w Non [Res.mp g8 kT vI kn, Res.mp g4 kI vT m] w12) (l.length - (0)) ⟨0, [], [], rfl, ⟨by omega, rfl⟩, by kernel_rfl, hp7⟩ ?_
  rintro _ e11 w12 ⟨k, m, kn, rfl, hI14, hE15, hp13⟩
  obtain ⟨b16, rfl⟩ := toMk hE15
  clear hE15
  obtain ⟨pa, pb⟩ := hI14
  refine WP.seq ?_
  refine WP.pure {} [] [0, 4, 5, 19, 20, 21, 22] [.slice a n c, .map (some g4), .map (some g8), .slice a n c, .int .i64 ((n : Nat) : Int), .int .i64 (k : Int), .bool (decide ((k : Int) < ((n : Nat) : Int)))] .nil (by kernel_rfl) (fun b17 => ?_)
  refine thn_n ?_
  refine WP.seq ?_
  refine WP.test (p := (k : Int) < ((n : Nat) : Int)) rfl Bp.dec (fun h18 => ?_) (fun h18 => ?_)
  · refine WP.skip ?_
    refine thn_n ?_
    refine WP.seq ?_
    refine WP.block ?_
    refine WP.seq ?_
    refine WP.region _ rfl (by kernel_rfl) ?_
    have hy22 : (l)[k]? = some l[k]! := get_bang (by first | (omega) | (simp only [List.length_append, List.length_cons, List.length_nil]; omega) | (simp only [List.length_take, List.length_append, List.length_cons, List.length_nil]; omega))
    refine OPS.batch 3 {} [GCall.val (l[k]!)] [0, 4, 5, 19, 20, 21, 23, 25] [.slice a n c, .map (some g4), .map (some g8), .slice a n c, .int .i64 ((n : Nat) : Int), .int .i64 (k : Int), .int .i64 (k : Int), GCall.val (l[k]!)] (.cons (show InB ((k : Int)) (n) from ⟨by omega, by omega⟩) (.cons ((hs.at hp13).some (by omega)) (.cons (Ld.add0 (Ld.elN (P := Try.prog) (t := 73) (hs.at hp13).rd 11 (fun _ => rfl) hy22 (o := 0) (cs := [.int .i64 (l[k]!.Client), .int .i64 (l[k]!.Op), .bool (l[k]!.Put), .string (l[k]!.Key), .slice (l[k]!.Value.a) (l[k]!.Value.n) (l[k]!.Value.c), .int .i64 (l[k]!.Status), .int .i64 (l[k]!.From), .int .i64 (l[k]!.To), .bool (l[k]!.Open), .int .i64 (l[k]!.Tag.Count), .int .i64 (l[k]!.Tag.Client)]) (by kernel_rfl))) .nil))) (by kernel_rfl) (fun b23 => ?_)
    refine OPS.cons (opStep.alloc hp13 [.int .i64 0, .int .i64 0, .bool false, .string ByteArray.empty, .slice none 0 0, .int .i64 0, .int .i64 0, .int .i64 0, .bool false, .int .i64 0, .int .i64 0] (by kernel_rfl) (fun g26 w24 hp25 => ?_))
    refine OPS.batch 1 {} [] [0, 4, 5, 6, 7, 19, 20, 21, 25] [.slice a n c, .map (some g4), .map (some g8), .int .i64 (k : Int), .pointer (some ⟨g26, 0, none⟩), .slice a n c, .int .i64 ((n : Nat) : Int), .int .i64 (k : Int), GCall.val (l[k]!)] .nil (by kernel_rfl) (fun b27 => ?_)
    refine OPS.cons (opStep.store0 hp25 rfl [.int .i64 (l[k]!.Client), .int .i64 (l[k]!.Op), .bool (l[k]!.Put), .string (l[k]!.Key), .slice (l[k]!.Value.a) (l[k]!.Value.n) (l[k]!.Value.c), .int .i64 (l[k]!.Status), .int .i64 (l[k]!.From), .int .i64 (l[k]!.To), .bool (l[k]!.Open), .int .i64 (l[k]!.Tag.Count), .int .i64 (l[k]!.Tag.Client)] [.int .i64 (l[k]!.Client), .int .i64 (l[k]!.Op), .bool (l[k]!.Put), .string (l[k]!.Key), .slice (l[k]!.Value.a) (l[k]!.Value.n) (l[k]!.Value.c), .int .i64 (l[k]!.Status), .int .i64 (l[k]!.From), .int .i64 (l[k]!.To), .bool (l[k]!.Open), .int .i64 (l[k]!.Tag.Count), .int .i64 (l[k]!.Tag.Client)] (by kernel_rfl) (fun w28 hp29 => ?_))
    refine OPS.nil ?_
    refine thn_n ?_
    refine WP.cut (fun e44 w45 => ∃ (x42 : Bool), (True) ∧ Bp x42 ((((l[k]!.Put) = true) ∧ (¬ ((l[k]!.Open) = true))) ∨ (((l[k]!.Put) = true) ∧ ((l[k]!.Open) = true) ∧ (¬ (((l[k]!.Tag.Count) = 0) ∧ ((l[k]!.Tag.Client) = 0))))) ∧ List.map e44 [0, 4, 5, 6, 7, 19, 20, 21, 38] = [.slice a n c, .map (some g4), .map (some g8), .int .i64 (k : Int), .pointer (some ⟨g26, 0, none⟩), .slice a n c, .int .i64 ((n : Nat) : Int), .int .i64 (k : Int), .bool x42] ∧ Hp w Non [Res.row g26 [.int .i64 (l[k]!.Client), .int .i64 (l[k]!.Op), .bool (l[k]!.Put), .string (l[k]!.Key), .slice (l[k]!.Value.a) (l[k]!.Value.n) (l[k]!.Value.c), .int .i64 (l[k]!.Status), .int .i64 (l[k]!.From), .int .i64 (l[k]!.To), .bool (l[k]!.Open), .int .i64 (l[k]!.Tag.Count), .int .i64 (l[k]!.Tag.Client)] 73, Res.mp g8 kT vI kn, Res.mp g4 kI vT m] w45) ?_ ?_
    · refine WP.region _ rfl (by kernel_rfl) ?_
      refine OPS.batch 3 {} [.bool (l[k]!.Put)] [0, 4, 5, 6, 7, 19, 20, 21, 28] [.slice a n c, .map (some g4), .map (some g8), .int .i64 (k : Int), .pointer (some ⟨g26, 0, none⟩), .slice a n c, .int .i64 ((n : Nat) : Int), .int .i64 (k : Int), .bool (l[k]!.Put)] (.cons (Ld.row1 (P := Try.prog) (t := 4) (o := 2) (v := .bool (l[k]!.Put)) hp29.get0 (by kernel_rfl)) .nil) (by kernel_rfl) (fun b31 => ?_)
      by_cases h32 : (l[k]!.Put) = true
      · refine OPS.batch 0 {} [] [0, 4, 5, 6, 7, 19, 20, 21, 28] [.slice a n c, .map (some g4), .map (some g8), .int .i64 (k : Int), .pointer (some ⟨g26, 0, none⟩), .slice a n c, .int .i64 ((n : Nat) : Int), .int .i64 (k : Int), .bool (l[k]!.Put)] .nil (by kernel_rfl) (fun b33 => ?_)
        refine OPS.re [.slice a n c, .map (some g4), .map (some g8), .int .i64 (k : Int), .pointer (some ⟨g26, 0, none⟩), .slice a n c, .int .i64 ((n : Nat) : Int), .int .i64 (k : Int), .bool true] (by rw [show (l[k]!.Put) = true from Bp.var.tt h32]) ?_
        refine OPS.batch 4 {} [.bool (l[k]!.Open)] [0, 4, 5, 6, 7, 19, 20, 21, 28, 32] [.slice a n c, .map (some g4), .map (some g8), .int .i64 (k : Int), .pointer (some ⟨g26, 0, none⟩), .slice a n c, .int .i64 ((n : Nat) : Int), .int .i64 (k : Int), .bool true, .bool (!(l[k]!.Open))] (.cons (Ld.row1 (P := Try.prog) (t := 4) (o := 8) (v := .bool (l[k]!.Open)) hp29.get0 (by kernel_rfl)) .nil) (by kernel_rfl) (fun b34 => ?_)
        by_cases h35 : (l[k]!.Open) = true
        · refine OPS.batch 0 {} [] [0, 4, 5, 6, 7, 19, 20, 21, 28, 32] [.slice a n c, .map (some g4), .map (some g8), .int .i64 (k : Int), .pointer (some ⟨g26, 0, none⟩), .slice a n c, .int .i64 ((n : Nat) : Int), .int .i64 (k : Int), .bool true, .bool (!(l[k]!.Open))] .nil (by kernel_rfl) (fun b38 => ?_)
          refine OPS.re [.slice a n c, .map (some g4), .map (some g8), .int .i64 (k : Int), .pointer (some ⟨g26, 0, none⟩), .slice a n c, .int .i64 ((n : Nat) : Int), .int .i64 (k : Int), .bool true, .bool false] (by rw [show (!(l[k]!.Open)) = false from (Bp.not Bp.var).ff (fun k => k h35)]) ?_
          refine OPS.batch 6 { wraps := [37, 38] } [.agg #[.int .i64 (l[k]!.Tag.Count), .int .i64 (l[k]!.Tag.Client)]] [0, 4, 5, 6, 7, 19, 20, 21, 38] [.slice a n c, .map (some g4), .map (some g8), .int .i64 (k : Int), .pointer (some ⟨g26, 0, none⟩), .slice a n c, .int .i64 ((n : Nat) : Int), .int .i64 (k : Int), .bool (!((decide ((l[k]!.Tag.Count) = 0)) && ((decide ((l[k]!.Tag.Client) = 0)) && true)))] (.cons (show Ld Try.prog w28 70 ⟨g26, 9, none⟩ (.agg #[.int .i64 (l[k]!.Tag.Count), .int .i64 (l[k]!.Tag.Client)]) from Ld.rowN (cs := [.int .i64 (l[k]!.Tag.Count), .int .i64 (l[k]!.Tag.Client)]) hp29.get0 (by kernel_rfl)) .nil) (by kernel_rfl) (fun b39 => ?_)
          refine OPS.nil ?_
          refine thn_n ?_
          exact ⟨!((decide ((l[k]!.Tag.Count) = 0)) && ((decide ((l[k]!.Tag.Client) = 0)) && true)), trivial, Bp.of (Bp.not (Bp.band Bp.dec (Bp.band1 Bp.dec))) (by first | (simp only [h32, h35, iff_false, false_iff, iff_true, true_iff, Classical.not_not, and_true, true_and, and_false, false_and, or_true, true_or, or_false, false_or, not_true_eq_false, not_false_eq_true, and_self, or_self, iff_self]; done) | (simp [h32, h35]; done) | grind | (simp_all; done)), by kernel_rfl, hp29⟩
        · refine OPS.batch 0 {} [] [0, 4, 5, 6, 7, 19, 20, 21, 28, 32] [.slice a n c, .map (some g4), .map (some g8), .int .i64 (k : Int), .pointer (some ⟨g26, 0, none⟩), .slice a n c, .int .i64 ((n : Nat) : Int), .int .i64 (k : Int), .bool true, .bool (!(l[k]!.Open))] .nil (by kernel_rfl) (fun b36 => ?_)
          refine OPS.re [.slice a n c, .map (some g4), .map (some g8), .int .i64 (k : Int), .pointer (some ⟨g26, 0, none⟩), .slice a n c, .int .i64 ((n : Nat) : Int), .int .i64 (k : Int), .bool true, .bool true] (by rw [show (!(l[k]!.Open)) = true from (Bp.not Bp.var).tt h35]) ?_
          refine OPS.batch 6 { wraps := [37, 38] } [] [0, 4, 5, 6, 7, 19, 20, 21, 38] [.slice a n c, .map (some g4), .map (some g8), .int .i64 (k : Int), .pointer (some ⟨g26, 0, none⟩), .slice a n c, .int .i64 ((n : Nat) : Int), .int .i64 (k : Int), .bool true] .nil (by kernel_rfl) (fun b37 => ?_)
          refine OPS.nil ?_
          refine thn_n ?_
          exact ⟨true, trivial, Bp.of Bp.t (by first | (simp only [h32, h35, iff_false, false_iff, iff_true, true_iff, Classical.not_not, and_true, true_and, and_false, false_and, or_true, true_or, or_false, false_or, not_true_eq_false, not_false_eq_true, and_self, or_self, iff_self]; done) | (simp [h32, h35]; done) | grind | (simp_all; done)), by kernel_rfl, hp29⟩
      · refine OPS.batch 0 {} [] [0, 4, 5, 6, 7, 19, 20, 21, 28] [.slice a n c, .map (some g4), .map (some g8), .int .i64 (k : Int), .pointer (some ⟨g26, 0, none⟩), .slice a n c, .int .i64 ((n : Nat) : Int), .int .i64 (k : Int), .bool (l[k]!.Put)] .nil (by kernel_rfl) (fun b40 => ?_)
        refine OPS.re [.slice a n c, .map (some g4), .map (some g8), .int .i64 (k : Int), .pointer (some ⟨g26, 0, none⟩), .slice a n c, .int .i64 ((n : Nat) : Int), .int .i64 (k : Int), .bool false] (by rw [show (l[k]!.Put) = false from Bp.var.ff h32]) ?_
        refine OPS.batch 10 { wraps := [38] } [] [0, 4, 5, 6, 7, 19, 20, 21, 38] [.slice a n c, .map (some g4), .map (some g8), .int .i64 (k : Int), .pointer (some ⟨g26, 0, none⟩), .slice a n c, .int .i64 ((n : Nat) : Int), .int .i64 (k : Int), .bool false] .nil (by kernel_rfl) (fun b41 => ?_)
        refine OPS.nil ?_
        refine thn_n ?_
        exact ⟨false, trivial, Bp.of Bp.f (by first | (simp only [h32, iff_false, false_iff, iff_true, true_iff, Classical.not_not, and_true, true_and, and_false, false_and, or_true, true_or, or_false, false_or, not_true_eq_false, not_false_eq_true, and_self, or_self, iff_self]; done) | (simp [h32]; done) | grind | (simp_all; done)), by kernel_rfl, hp29⟩
    rintro e44 w45 ⟨x42, hd47, hb43, hE48, hp46⟩
    obtain ⟨b49, rfl⟩ := toMk hE48
    clear hE48
    clear hd47
    refine WP.test (p := (((l[k]!.Put) = true) ∧ (¬ ((l[k]!.Open) = true))) ∨ (((l[k]!.Put) = true) ∧ ((l[k]!.Open) = true) ∧ (¬ (((l[k]!.Tag.Count) = 0) ∧ ((l[k]!.Tag.Client) = 0))))) rfl hb43 (fun h50 => ?_) (fun h50 => ?_)
    · refine WP.seq ?_
      refine WP.region _ rfl (by kernel_rfl) ?_
      refine OPS.batch 4 {} [.agg #[.int .i64 (l[k]!.Tag.Count), .int .i64 (l[k]!.Tag.Client)]] [0, 4, 5, 6, 7, 19, 20, 21, 39, 40, 42] [.slice a n c, .map (some g4), .map (some g8), .int .i64 (k : Int), .pointer (some ⟨g26, 0, none⟩), .slice a n c, .int .i64 ((n : Nat) : Int), .int .i64 (k : Int), .map (some g4), .int .i64 (k : Int), .agg #[.int .i64 (l[k]!.Tag.Count), .int .i64 (l[k]!.Tag.Client)]] (.cons (show Ld Try.prog w45 70 ⟨g26, 9, none⟩ (.agg #[.int .i64 (l[k]!.Tag.Count), .int .i64 (l[k]!.Tag.Client)]) from Ld.rowN (cs := [.int .i64 (l[k]!.Tag.Count), .int .i64 (l[k]!.Tag.Client)]) hp46.get0 (by kernel_rfl)) .nil) (by kernel_rfl) (fun b51 => ?_)
      have hp54 := hp46.pull2
      refine OPS.cons (opStep.mapUpdateN (keyInt (by exact Try.underlying3)) (by exact Try.underlying117) hp54 (k : Int) (l[k]!.Tag) (by kernel_rfl) (fun w52 hp53 => ?_))
      refine OPS.nil ?_
      refine thn_n ?_
      refine WP.region _ rfl (by kernel_rfl) ?_
      refine OPS.batch 4 {} [.agg #[.int .i64 (l[k]!.Tag.Count), .int .i64 (l[k]!.Tag.Client)]] [0, 4, 5, 19, 20, 21, 43, 45, 46] [.slice a n c, .map (some g4), .map (some g8), .slice a n c, .int .i64 ((n : Nat) : Int), .int .i64 (k : Int), .map (some g8), .agg #[.int .i64 (l[k]!.Tag.Count), .int .i64 (l[k]!.Tag.Client)], .int .i64 (k : Int)] (.cons (show Ld Try.prog w52 70 ⟨g26, 9, none⟩ (.agg #[.int .i64 (l[k]!.Tag.Count), .int .i64 (l[k]!.Tag.Client)]) from Ld.rowN (cs := [.int .i64 (l[k]!.Tag.Count), .int .i64 (l[k]!.Tag.Client)]) hp53.get1 (by kernel_rfl)) .nil) (by kernel_rfl) (fun b55 => ?_)
      refine OPS.cons (opStep.mapUpdate2 keyTag (by exact Try.underlying148) hp53 (l[k]!.Tag) (k : Int) (by kernel_rfl) (fun w56 hp57 => ?_))
      refine OPS.nil ?_
      refine blk_n ?_
      refine thn_n ?_
      refine WP.pure {} [] [0, 4, 5, 19, 20, 21] [.slice a n c, .map (some g4), .map (some g8), .slice a n c, .int .i64 ((n : Nat) : Int), .int .i64 ((k : Int) + 1)] (.cons (show Rng .i64 ((k : Int) + 1) from Rng.i64 (by omega)) .nil) (by kernel_rfl) (fun b58 => ?_)
      refine thn_n ?_
      exact ⟨l.length - (k + 1), (by omega), k + 1, mapPut m (k : Int) (l[k]!.Tag), mapPut kn (l[k]!.Tag) (k : Int), rfl, ⟨by omega, by unfold tgA; rw [if_pos (show ownA l[k]! from by unfold ownA; have h_ := h50; grind), pb]⟩, by kernel_rfl, (((hp57.pull0).pull2).sub (.cons_cons _ (.cons_cons _ (.cons _ (.slnil)))))⟩
    · refine WP.skip ?_
      refine blk_n ?_
      refine thn_n ?_
      refine WP.pure {} [] [0, 4, 5, 19, 20, 21] [.slice a n c, .map (some g4), .map (some g8), .slice a n c, .int .i64 ((n : Nat) : Int), .int .i64 ((k : Int) + 1)] (.cons (show Rng .i64 ((k : Int) + 1) from Rng.i64 (by omega)) .nil) (by kernel_rfl) (fun b59 => ?_)
      refine thn_n ?_
      exact ⟨l.length - (k + 1), (by omega), k + 1, m, kn, rfl, ⟨by omega, by unfold tgA; rw [if_neg (show ¬ ownA l[k]! from by unfold ownA; have h_ := h50; grind), pb]⟩, by kernel_rfl, (hp46.sub (.cons _ (.cons_cons _ (.cons_cons _ (.slnil)))))⟩
  · refine WP.exit ?_
    refine thn_x ?_
    refine thn_x ?_
    refine blk_hit ?_
    refine thn_n ?_
    refine WP.seq ?_
    refine WP.seq ?_
    refine WP.pure {} [] [0, 4, 5, 48, 49, 50] [.slice a n c, .map (some g4), .map (some g8), .slice a n c, .int .i64 ((n : Nat) : Int), .int .i64 0] .nil (by kernel_rfl) (fun b60 => ?_)
    refine thn_n ?_
    refine WP.block ?_
    obtain rfl : k = l.length := by omega
    refine WP.loop (fun mz_ e61 w62 => ∃ (k2 : Nat) (m2 : TgM) (kn2 : KnM), mz_ = l.length - k2 ∧ (k2 ≤ l.length ∧ tgB l k2 = some (m2, kn2)) ∧ List.map e61 [0, 4, 5, 48, 49, 50] = [.slice a n c, .map (some g4), .map (some g8), .slice a n c, .int .i64 ((n : Nat) : Int), .int .i64 (k2 : Int)] ∧ Hp w Non [Res.mp g8 kT vI kn2, Res.mp g4 kI vT m2] w62) (l.length - (0)) ⟨0, m, kn, rfl, ⟨by omega, by unfold tgB; rw [pb]⟩, by kernel_rfl, hp13⟩ ?_
    rintro _ e61 w62 ⟨k2, m2, kn2, rfl, hI64, hE65, hp63⟩
    obtain ⟨b66, rfl⟩ := toMk hE65
    clear hE65
    obtain ⟨qa, qb⟩ := hI64
    refine WP.seq ?_
    refine WP.pure {} [] [0, 4, 5, 48, 49, 50, 51] [.slice a n c, .map (some g4), .map (some g8), .slice a n c, .int .i64 ((n : Nat) : Int), .int .i64 (k2 : Int), .bool (decide ((k2 : Int) < ((n : Nat) : Int)))] .nil (by kernel_rfl) (fun b67 => ?_)
    refine thn_n ?_
    refine WP.seq ?_
    refine WP.test (p := (k2 : Int) < ((n : Nat) : Int)) rfl Bp.dec (fun h68 => ?_) (fun h68 => ?_)
    · refine WP.skip ?_
      refine thn_n ?_
      refine WP.seq ?_
      refine WP.block ?_
      refine WP.seq ?_
      refine WP.region _ rfl (by kernel_rfl) ?_
      have hy72 : (l)[k2]? = some l[k2]! := get_bang (by first | (omega) | (simp only [List.length_append, List.length_cons, List.length_nil]; omega) | (simp only [List.length_take, List.length_append, List.length_cons, List.length_nil]; omega))
      refine OPS.batch 2 {} [GCall.val (l[k2]!)] [0, 4, 5, 48, 49, 50, 53] [.slice a n c, .map (some g4), .map (some g8), .slice a n c, .int .i64 ((n : Nat) : Int), .int .i64 (k2 : Int), GCall.val (l[k2]!)] (.cons (show InB ((k2 : Int)) (n) from ⟨by omega, by omega⟩) (.cons ((hs.at hp63).some (by omega)) (.cons (Ld.add0 (Ld.elN (P := Try.prog) (t := 73) (hs.at hp63).rd 11 (fun _ => rfl) hy72 (o := 0) (cs := [.int .i64 (l[k2]!.Client), .int .i64 (l[k2]!.Op), .bool (l[k2]!.Put), .string (l[k2]!.Key), .slice (l[k2]!.Value.a) (l[k2]!.Value.n) (l[k2]!.Value.c), .int .i64 (l[k2]!.Status), .int .i64 (l[k2]!.From), .int .i64 (l[k2]!.To), .bool (l[k2]!.Open), .int .i64 (l[k2]!.Tag.Count), .int .i64 (l[k2]!.Tag.Client)]) (by kernel_rfl))) .nil))) (by kernel_rfl) (fun b73 => ?_)
      refine OPS.cons (opStep.alloc hp63 [.int .i64 0, .int .i64 0, .bool false, .string ByteArray.empty, .slice none 0 0, .int .i64 0, .int .i64 0, .int .i64 0, .bool false, .int .i64 0, .int .i64 0] (by kernel_rfl) (fun g76 w74 hp75 => ?_))
      refine OPS.cons (opStep.store0 hp75 rfl [.int .i64 (l[k2]!.Client), .int .i64 (l[k2]!.Op), .bool (l[k2]!.Put), .string (l[k2]!.Key), .slice (l[k2]!.Value.a) (l[k2]!.Value.n) (l[k2]!.Value.c), .int .i64 (l[k2]!.Status), .int .i64 (l[k2]!.From), .int .i64 (l[k2]!.To), .bool (l[k2]!.Open), .int .i64 (l[k2]!.Tag.Count), .int .i64 (l[k2]!.Tag.Client)] [.int .i64 (l[k2]!.Client), .int .i64 (l[k2]!.Op), .bool (l[k2]!.Put), .string (l[k2]!.Key), .slice (l[k2]!.Value.a) (l[k2]!.Value.n) (l[k2]!.Value.c), .int .i64 (l[k2]!.Status), .int .i64 (l[k2]!.From), .int .i64 (l[k2]!.To), .bool (l[k2]!.Open), .int .i64 (l[k2]!.Tag.Count), .int .i64 (l[k2]!.Tag.Client)] (by kernel_rfl) (fun w77 hp78 => ?_))
      refine OPS.nil ?_
      refine thn_n ?_
      refine WP.seq ?_
      refine WP.cut (fun e101 w102 => ∃ (x99 : Bool), (True) ∧ Bp x99 ((((l[k2]!.Put) = true)) ∨ ((¬ ((l[k2]!.Put) = true)) ∧ (¬ (dueP (l[k2]!)))) ∨ ((¬ ((l[k2]!.Put) = true)) ∧ (dueP (l[k2]!)) ∧ (¬ ((l[k2]!.Status) = 0)))) ∧ List.map e101 [0, 4, 5, 9, 48, 49, 50, 65] = [.slice a n c, .map (some g4), .map (some g8), .pointer (some ⟨g76, 0, none⟩), .slice a n c, .int .i64 ((n : Nat) : Int), .int .i64 (k2 : Int), .bool x99] ∧ Hp w Non [Res.row g76 [.int .i64 (l[k2]!.Client), .int .i64 (l[k2]!.Op), .bool (l[k2]!.Put), .string (l[k2]!.Key), .slice (l[k2]!.Value.a) (l[k2]!.Value.n) (l[k2]!.Value.c), .int .i64 (l[k2]!.Status), .int .i64 (l[k2]!.From), .int .i64 (l[k2]!.To), .bool (l[k2]!.Open), .int .i64 (l[k2]!.Tag.Count), .int .i64 (l[k2]!.Tag.Client)] 73, Res.mp g8 kT vI kn2, Res.mp g4 kI vT m2] w102) ?_ ?_
      · refine WP.region _ rfl (by kernel_rfl) ?_
        refine OPS.batch 3 {} [.bool (l[k2]!.Put)] [0, 4, 5, 9, 48, 49, 50, 56] [.slice a n c, .map (some g4), .map (some g8), .pointer (some ⟨g76, 0, none⟩), .slice a n c, .int .i64 ((n : Nat) : Int), .int .i64 (k2 : Int), .bool (l[k2]!.Put)] (.cons (Ld.row1 (P := Try.prog) (t := 4) (o := 2) (v := .bool (l[k2]!.Put)) hp78.get0 (by kernel_rfl)) .nil) (by kernel_rfl) (fun b80 => ?_)
        by_cases h81 : (l[k2]!.Put) = true
        · refine OPS.batch 0 {} [] [0, 4, 5, 9, 48, 49, 50, 56] [.slice a n c, .map (some g4), .map (some g8), .pointer (some ⟨g76, 0, none⟩), .slice a n c, .int .i64 ((n : Nat) : Int), .int .i64 (k2 : Int), .bool (l[k2]!.Put)] .nil (by kernel_rfl) (fun b82 => ?_)
          refine OPS.re [.slice a n c, .map (some g4), .map (some g8), .pointer (some ⟨g76, 0, none⟩), .slice a n c, .int .i64 ((n : Nat) : Int), .int .i64 (k2 : Int), .bool true] (by rw [show (l[k2]!.Put) = true from Bp.var.tt h81]) ?_
          refine OPS.batch 9 { wraps := [60, 65] } [] [0, 4, 5, 9, 48, 49, 50, 65] [.slice a n c, .map (some g4), .map (some g8), .pointer (some ⟨g76, 0, none⟩), .slice a n c, .int .i64 ((n : Nat) : Int), .int .i64 (k2 : Int), .bool true] .nil (by kernel_rfl) (fun b83 => ?_)
          refine OPS.nil ?_
          refine thn_n ?_
          exact ⟨true, trivial, Bp.of Bp.t (by first | (simp only [h81, iff_false, false_iff, iff_true, true_iff, Classical.not_not, and_true, true_and, and_false, false_and, or_true, true_or, or_false, false_or, not_true_eq_false, not_false_eq_true, and_self, or_self, iff_self]; done) | (simp [h81]; done) | grind | (simp_all; done)), by kernel_rfl, hp78⟩
        · refine OPS.batch 0 {} [] [0, 4, 5, 9, 48, 49, 50, 56] [.slice a n c, .map (some g4), .map (some g8), .pointer (some ⟨g76, 0, none⟩), .slice a n c, .int .i64 ((n : Nat) : Int), .int .i64 (k2 : Int), .bool (l[k2]!.Put)] .nil (by kernel_rfl) (fun b84 => ?_)
          refine OPS.re [.slice a n c, .map (some g4), .map (some g8), .pointer (some ⟨g76, 0, none⟩), .slice a n c, .int .i64 ((n : Nat) : Int), .int .i64 (k2 : Int), .bool false] (by rw [show (l[k2]!.Put) = false from Bp.var.ff h81]) ?_
          refine OPS.batch 1 {} [GCall.val (l[k2]!)] [0, 4, 5, 9, 48, 49, 50, 56, 57] [.slice a n c, .map (some g4), .map (some g8), .pointer (some ⟨g76, 0, none⟩), .slice a n c, .int .i64 ((n : Nat) : Int), .int .i64 (k2 : Int), .bool false, GCall.val (l[k2]!)] (.cons (show Ld Try.prog w77 73 ⟨g76, 0, none⟩ (GCall.val (l[k2]!)) from Ld.rowN (cs := [.int .i64 (l[k2]!.Client), .int .i64 (l[k2]!.Op), .bool (l[k2]!.Put), .string (l[k2]!.Key), .slice (l[k2]!.Value.a) (l[k2]!.Value.n) (l[k2]!.Value.c), .int .i64 (l[k2]!.Status), .int .i64 (l[k2]!.From), .int .i64 (l[k2]!.To), .bool (l[k2]!.Open), .int .i64 (l[k2]!.Tag.Count), .int .i64 (l[k2]!.Tag.Client)]) hp78.get0 (by kernel_rfl)) .nil) (by kernel_rfl) (fun b85 => ?_)
          refine OPS.want (by kernel_rfl) ?_
          refine OPS.cons (opStep.call (some 58) [GCall.val (l[k2]!)] (by kernel_rfl) (o_due (l[k2]!) _) ?_)
          rintro _ w88 ⟨b91, rfl, hb92, hf89⟩
          refine ⟨_, rfl, ?_⟩
          have hp90 := hp78.step hf89
          refine OPS.batch 3 { wraps := [60] } [] [0, 4, 5, 9, 48, 49, 50, 61] [.slice a n c, .map (some g4), .map (some g8), .pointer (some ⟨g76, 0, none⟩), .slice a n c, .int .i64 ((n : Nat) : Int), .int .i64 (k2 : Int), .bool (!b91)] .nil (by kernel_rfl) (fun b93 => ?_)
          by_cases h94 : dueP (l[k2]!)
          · refine OPS.batch 0 {} [] [0, 4, 5, 9, 48, 49, 50, 61] [.slice a n c, .map (some g4), .map (some g8), .pointer (some ⟨g76, 0, none⟩), .slice a n c, .int .i64 ((n : Nat) : Int), .int .i64 (k2 : Int), .bool (!b91)] .nil (by kernel_rfl) (fun b97 => ?_)
            refine OPS.re [.slice a n c, .map (some g4), .map (some g8), .pointer (some ⟨g76, 0, none⟩), .slice a n c, .int .i64 ((n : Nat) : Int), .int .i64 (k2 : Int), .bool false] (by rw [show (!b91) = false from (Bp.not hb92).ff (fun k => k h94)]) ?_
            refine OPS.batch 4 { wraps := [65] } [.int .i64 (l[k2]!.Status)] [0, 4, 5, 9, 48, 49, 50, 65] [.slice a n c, .map (some g4), .map (some g8), .pointer (some ⟨g76, 0, none⟩), .slice a n c, .int .i64 ((n : Nat) : Int), .int .i64 (k2 : Int), .bool (decide (¬ ((l[k2]!.Status) = 0)))] (.cons (Ld.row1 (P := Try.prog) (t := 25) (o := 5) (v := .int .i64 (l[k2]!.Status)) hp90.get0 (by kernel_rfl)) .nil) (by kernel_rfl) (fun b98 => ?_)
            refine OPS.nil ?_
            refine thn_n ?_
            exact ⟨decide (¬ ((l[k2]!.Status) = 0)), trivial, Bp.of Bp.dec (by first | (simp only [h81, h94, iff_false, false_iff, iff_true, true_iff, Classical.not_not, and_true, true_and, and_false, false_and, or_true, true_or, or_false, false_or, not_true_eq_false, not_false_eq_true, and_self, or_self, iff_self]; done) | (simp [h81, h94]; done) | grind | (simp_all; done)), by kernel_rfl, hp90⟩
          · refine OPS.batch 0 {} [] [0, 4, 5, 9, 48, 49, 50, 61] [.slice a n c, .map (some g4), .map (some g8), .pointer (some ⟨g76, 0, none⟩), .slice a n c, .int .i64 ((n : Nat) : Int), .int .i64 (k2 : Int), .bool (!b91)] .nil (by kernel_rfl) (fun b95 => ?_)
            refine OPS.re [.slice a n c, .map (some g4), .map (some g8), .pointer (some ⟨g76, 0, none⟩), .slice a n c, .int .i64 ((n : Nat) : Int), .int .i64 (k2 : Int), .bool true] (by rw [show (!b91) = true from (Bp.not hb92).tt h94]) ?_
            refine OPS.batch 4 { wraps := [65] } [] [0, 4, 5, 9, 48, 49, 50, 65] [.slice a n c, .map (some g4), .map (some g8), .pointer (some ⟨g76, 0, none⟩), .slice a n c, .int .i64 ((n : Nat) : Int), .int .i64 (k2 : Int), .bool true] .nil (by kernel_rfl) (fun b96 => ?_)
            refine OPS.nil ?_
            refine thn_n ?_
            exact ⟨true, trivial, Bp.of Bp.t (by first | (simp only [h81, h94, iff_false, false_iff, iff_true, true_iff, Classical.not_not, and_true, true_and, and_false, false_and, or_true, true_or, or_false, false_or, not_true_eq_false, not_false_eq_true, and_self, or_self, iff_self]; done) | (simp [h81, h94]; done) | grind | (simp_all; done)), by kernel_rfl, hp90⟩
      rintro e101 w102 ⟨x99, hd104, hb100, hE105, hp103⟩
      obtain ⟨b106, rfl⟩ := toMk hE105
      clear hE105
      clear hd104
      refine WP.test (p := (((l[k2]!.Put) = true)) ∨ ((¬ ((l[k2]!.Put) = true)) ∧ (¬ (dueP (l[k2]!)))) ∨ ((¬ ((l[k2]!.Put) = true)) ∧ (dueP (l[k2]!)) ∧ (¬ ((l[k2]!.Status) = 0)))) rfl hb100 (fun h107 => ?_) (fun h107 => ?_)
      · refine WP.exit ?_
        refine thn_x ?_
        refine blk_hit ?_
        refine thn_n ?_
        refine WP.pure {} [] [0, 4, 5, 48, 49, 50] [.slice a n c, .map (some g4), .map (some g8), .slice a n c, .int .i64 ((n : Nat) : Int), .int .i64 ((k2 : Int) + 1)] (.cons (show Rng .i64 ((k2 : Int) + 1) from Rng.i64 (by omega)) .nil) (by kernel_rfl) (fun b108 => ?_)
        refine thn_n ?_
        exact ⟨l.length - (k2 + 1), (by omega), k2 + 1, m2, kn2, rfl, ⟨by omega, by unfold tgB; rw [qb, Option.bind_some]; unfold tgStep; rw [if_pos (show ¬ rdC l[k2]! from by unfold rdC; have h_ := h107; grind)]⟩, by kernel_rfl, (hp103.sub (.cons _ (.cons_cons _ (.cons_cons _ (.slnil)))))⟩
      · refine WP.skip ?_
        refine thn_n ?_
        refine WP.seq ?_
        refine WP.seq ?_
        refine WP.pure {} [.agg #[.int .i64 (l[k2]!.Tag.Count), .int .i64 (l[k2]!.Tag.Client)], .tuple #[.int .i64 ((mapV kn2 (l[k2]!.Tag)).getD 0), .bool ((mapV kn2 (l[k2]!.Tag)).isSome)]] [0, 4, 5, 9, 11, 48, 49, 50] [.slice a n c, .map (some g4), .map (some g8), .pointer (some ⟨g76, 0, none⟩), .bool ((mapV kn2 (l[k2]!.Tag)).isSome), .slice a n c, .int .i64 ((n : Nat) : Int), .int .i64 (k2 : Int)] (.cons (show Ld Try.prog w102 70 ⟨g76, 9, none⟩ (.agg #[.int .i64 (l[k2]!.Tag.Count), .int .i64 (l[k2]!.Tag.Client)]) from Ld.rowN (cs := [.int .i64 (l[k2]!.Tag.Count), .int .i64 (l[k2]!.Tag.Client)]) hp103.get0 (by kernel_rfl)) (.cons (Lk.okI (kf := kT) keyTag (by exact Try.underlying148) hp103.get1 (l[k2]!.Tag) (by kernel_rfl)) .nil)) (by kernel_rfl) (fun b109 => ?_)
        refine thn_n ?_
        refine WP.seq ?_
        refine WP.pure {} [] [0, 4, 5, 9, 48, 49, 50, 73] [.slice a n c, .map (some g4), .map (some g8), .pointer (some ⟨g76, 0, none⟩), .slice a n c, .int .i64 ((n : Nat) : Int), .int .i64 (k2 : Int), .bool ((mapV kn2 (l[k2]!.Tag)).isSome)] .nil (by kernel_rfl) (fun b110 => ?_)
        refine thn_n ?_
        refine WP.test (p := ((mapV kn2 (l[k2]!.Tag)).isSome) = true) rfl Bp.var (fun h111 => ?_) (fun h111 => ?_)
        · refine WP.exit ?_
          refine thn_x ?_
          refine blk_hit ?_
          refine thn_n ?_
          refine WP.pure {} [] [0, 4, 5, 48, 49, 50] [.slice a n c, .map (some g4), .map (some g8), .slice a n c, .int .i64 ((n : Nat) : Int), .int .i64 ((k2 : Int) + 1)] (.cons (show Rng .i64 ((k2 : Int) + 1) from Rng.i64 (by omega)) .nil) (by kernel_rfl) (fun b112 => ?_)
          refine thn_n ?_
          exact ⟨l.length - (k2 + 1), (by omega), k2 + 1, m2, kn2, rfl, ⟨by omega, by unfold tgB; rw [qb, Option.bind_some]; unfold tgStep; rw [if_neg (show ¬ ¬ rdC l[k2]! from by unfold rdC; have h_ := h107; grind)]; rw [if_pos (show _ = true from h111)]⟩, by kernel_rfl, (hp103.sub (.cons _ (.cons_cons _ (.cons_cons _ (.slnil)))))⟩
        · refine WP.skip ?_
          refine thn_n ?_
          refine WP.seq ?_
          refine WP.pure {} [] [0, 4, 5, 9, 12, 48, 49, 50] [.slice a n c, .map (some g4), .map (some g8), .pointer (some ⟨g76, 0, none⟩), .int .i64 (-1), .slice a n c, .int .i64 ((n : Nat) : Int), .int .i64 (k2 : Int)] .nil (by kernel_rfl) (fun b113 => ?_)
          refine thn_n ?_
          refine WP.seq ?_
          refine WP.seq ?_
          refine WP.pure {} [] [0, 4, 5, 9, 12, 48, 49, 50, 74, 75, 76] [.slice a n c, .map (some g4), .map (some g8), .pointer (some ⟨g76, 0, none⟩), .int .i64 (-1), .slice a n c, .int .i64 ((n : Nat) : Int), .int .i64 (k2 : Int), .slice a n c, .int .i64 ((n : Nat) : Int), .int .i64 0] .nil (by kernel_rfl) (fun b114 => ?_)
          refine thn_n ?_
          refine WP.block ?_
          refine WP.loop (fun mz_ e115 w116 => ∃ (j : Nat) (la : Int), mz_ = l.length - j ∧ (j ≤ l.length ∧ la = lastP l l[k2]!.Tag.Client j) ∧ List.map e115 [0, 4, 5, 9, 12, 48, 49, 50, 74, 75, 76] = [.slice a n c, .map (some g4), .map (some g8), .pointer (some ⟨g76, 0, none⟩), .int .i64 la, .slice a n c, .int .i64 ((n : Nat) : Int), .int .i64 (k2 : Int), .slice a n c, .int .i64 ((n : Nat) : Int), .int .i64 (j : Int)] ∧ Hp w Non [Res.row g76 [.int .i64 (l[k2]!.Client), .int .i64 (l[k2]!.Op), .bool (l[k2]!.Put), .string (l[k2]!.Key), .slice (l[k2]!.Value.a) (l[k2]!.Value.n) (l[k2]!.Value.c), .int .i64 (l[k2]!.Status), .int .i64 (l[k2]!.From), .int .i64 (l[k2]!.To), .bool (l[k2]!.Open), .int .i64 (l[k2]!.Tag.Count), .int .i64 (l[k2]!.Tag.Client)] 73, Res.mp g8 kT vI kn2, Res.mp g4 kI vT m2] w116) (l.length - (0)) ⟨0, (-1), rfl, ⟨by omega, rfl⟩, by kernel_rfl, hp103⟩ ?_
          rintro _ e115 w116 ⟨j, la, rfl, hI118, hE119, hp117⟩
          obtain ⟨b120, rfl⟩ := toMk hE119
          clear hE119
          obtain ⟨ra, rb⟩ := hI118
          refine WP.seq ?_
          refine WP.pure {} [] [0, 4, 5, 9, 12, 48, 49, 50, 74, 75, 76, 77] [.slice a n c, .map (some g4), .map (some g8), .pointer (some ⟨g76, 0, none⟩), .int .i64 la, .slice a n c, .int .i64 ((n : Nat) : Int), .int .i64 (k2 : Int), .slice a n c, .int .i64 ((n : Nat) : Int), .int .i64 (j : Int), .bool (decide ((j : Int) < ((n : Nat) : Int)))] .nil (by kernel_rfl) (fun b121 => ?_)
          refine thn_n ?_
          refine WP.seq ?_
          refine WP.test (p := (j : Int) < ((n : Nat) : Int)) rfl Bp.dec (fun h122 => ?_) (fun h122 => ?_)
          · refine WP.skip ?_
            refine thn_n ?_
            refine WP.seq ?_
            refine WP.block ?_
            refine WP.seq ?_
            refine WP.region _ rfl (by kernel_rfl) ?_
            have hy126 : (l)[j]? = some l[j]! := get_bang (by first | (omega) | (simp only [List.length_append, List.length_cons, List.length_nil]; omega) | (simp only [List.length_take, List.length_append, List.length_cons, List.length_nil]; omega))
            refine OPS.batch 3 {} [GCall.val (l[j]!)] [0, 4, 5, 9, 12, 48, 49, 50, 74, 75, 76, 78, 80] [.slice a n c, .map (some g4), .map (some g8), .pointer (some ⟨g76, 0, none⟩), .int .i64 la, .slice a n c, .int .i64 ((n : Nat) : Int), .int .i64 (k2 : Int), .slice a n c, .int .i64 ((n : Nat) : Int), .int .i64 (j : Int), .int .i64 (j : Int), GCall.val (l[j]!)] (.cons (show InB ((j : Int)) (n) from ⟨by omega, by omega⟩) (.cons ((hs.at hp117).some (by omega)) (.cons (Ld.add0 (Ld.elN (P := Try.prog) (t := 73) (hs.at hp117).rd 11 (fun _ => rfl) hy126 (o := 0) (cs := [.int .i64 (l[j]!.Client), .int .i64 (l[j]!.Op), .bool (l[j]!.Put), .string (l[j]!.Key), .slice (l[j]!.Value.a) (l[j]!.Value.n) (l[j]!.Value.c), .int .i64 (l[j]!.Status), .int .i64 (l[j]!.From), .int .i64 (l[j]!.To), .bool (l[j]!.Open), .int .i64 (l[j]!.Tag.Count), .int .i64 (l[j]!.Tag.Client)]) (by kernel_rfl))) .nil))) (by kernel_rfl) (fun b127 => ?_)
            refine OPS.cons (opStep.alloc hp117 [.int .i64 0, .int .i64 0, .bool false, .string ByteArray.empty, .slice none 0 0, .int .i64 0, .int .i64 0, .int .i64 0, .bool false, .int .i64 0, .int .i64 0] (by kernel_rfl) (fun g130 w128 hp129 => ?_))
            refine OPS.batch 1 {} [] [0, 4, 5, 9, 12, 13, 14, 48, 49, 50, 74, 75, 76, 80] [.slice a n c, .map (some g4), .map (some g8), .pointer (some ⟨g76, 0, none⟩), .int .i64 la, .int .i64 (j : Int), .pointer (some ⟨g130, 0, none⟩), .slice a n c, .int .i64 ((n : Nat) : Int), .int .i64 (k2 : Int), .slice a n c, .int .i64 ((n : Nat) : Int), .int .i64 (j : Int), GCall.val (l[j]!)] .nil (by kernel_rfl) (fun b131 => ?_)
            refine OPS.cons (opStep.store0 hp129 rfl [.int .i64 (l[j]!.Client), .int .i64 (l[j]!.Op), .bool (l[j]!.Put), .string (l[j]!.Key), .slice (l[j]!.Value.a) (l[j]!.Value.n) (l[j]!.Value.c), .int .i64 (l[j]!.Status), .int .i64 (l[j]!.From), .int .i64 (l[j]!.To), .bool (l[j]!.Open), .int .i64 (l[j]!.Tag.Count), .int .i64 (l[j]!.Tag.Client)] [.int .i64 (l[j]!.Client), .int .i64 (l[j]!.Op), .bool (l[j]!.Put), .string (l[j]!.Key), .slice (l[j]!.Value.a) (l[j]!.Value.n) (l[j]!.Value.c), .int .i64 (l[j]!.Status), .int .i64 (l[j]!.From), .int .i64 (l[j]!.To), .bool (l[j]!.Open), .int .i64 (l[j]!.Tag.Count), .int .i64 (l[j]!.Tag.Client)] (by kernel_rfl) (fun w132 hp133 => ?_))
            refine OPS.nil ?_
            refine thn_n ?_
            refine WP.cut (fun e148 w149 => ∃ (x146 : Bool), (True) ∧ Bp x146 (((l[j]!.Open) = true) ∧ (((l[j]!.Tag.Count) = 0) ∧ ((l[j]!.Tag.Client) = 0)) ∧ ((l[j]!.Client) = (l[k2]!.Tag.Client))) ∧ List.map e148 [0, 4, 5, 9, 12, 13, 48, 49, 50, 74, 75, 76, 96] = [.slice a n c, .map (some g4), .map (some g8), .pointer (some ⟨g76, 0, none⟩), .int .i64 la, .int .i64 (j : Int), .slice a n c, .int .i64 ((n : Nat) : Int), .int .i64 (k2 : Int), .slice a n c, .int .i64 ((n : Nat) : Int), .int .i64 (j : Int), .bool x146] ∧ Hp w Non [Res.row g130 [.int .i64 (l[j]!.Client), .int .i64 (l[j]!.Op), .bool (l[j]!.Put), .string (l[j]!.Key), .slice (l[j]!.Value.a) (l[j]!.Value.n) (l[j]!.Value.c), .int .i64 (l[j]!.Status), .int .i64 (l[j]!.From), .int .i64 (l[j]!.To), .bool (l[j]!.Open), .int .i64 (l[j]!.Tag.Count), .int .i64 (l[j]!.Tag.Client)] 73, Res.row g76 [.int .i64 (l[k2]!.Client), .int .i64 (l[k2]!.Op), .bool (l[k2]!.Put), .string (l[k2]!.Key), .slice (l[k2]!.Value.a) (l[k2]!.Value.n) (l[k2]!.Value.c), .int .i64 (l[k2]!.Status), .int .i64 (l[k2]!.From), .int .i64 (l[k2]!.To), .bool (l[k2]!.Open), .int .i64 (l[k2]!.Tag.Count), .int .i64 (l[k2]!.Tag.Client)] 73, Res.mp g8 kT vI kn2, Res.mp g4 kI vT m2] w149) ?_ ?_
            · refine WP.region _ rfl (by kernel_rfl) ?_
              refine OPS.batch 3 {} [.bool (l[j]!.Open)] [0, 4, 5, 9, 12, 13, 14, 48, 49, 50, 74, 75, 76, 83] [.slice a n c, .map (some g4), .map (some g8), .pointer (some ⟨g76, 0, none⟩), .int .i64 la, .int .i64 (j : Int), .pointer (some ⟨g130, 0, none⟩), .slice a n c, .int .i64 ((n : Nat) : Int), .int .i64 (k2 : Int), .slice a n c, .int .i64 ((n : Nat) : Int), .int .i64 (j : Int), .bool (l[j]!.Open)] (.cons (Ld.row1 (P := Try.prog) (t := 4) (o := 8) (v := .bool (l[j]!.Open)) hp133.get0 (by kernel_rfl)) .nil) (by kernel_rfl) (fun b135 => ?_)
              by_cases h136 : (l[j]!.Open) = true
              · refine OPS.batch 0 {} [] [0, 4, 5, 9, 12, 13, 14, 48, 49, 50, 74, 75, 76, 83] [.slice a n c, .map (some g4), .map (some g8), .pointer (some ⟨g76, 0, none⟩), .int .i64 la, .int .i64 (j : Int), .pointer (some ⟨g130, 0, none⟩), .slice a n c, .int .i64 ((n : Nat) : Int), .int .i64 (k2 : Int), .slice a n c, .int .i64 ((n : Nat) : Int), .int .i64 (j : Int), .bool (l[j]!.Open)] .nil (by kernel_rfl) (fun b137 => ?_)
                refine OPS.re [.slice a n c, .map (some g4), .map (some g8), .pointer (some ⟨g76, 0, none⟩), .int .i64 la, .int .i64 (j : Int), .pointer (some ⟨g130, 0, none⟩), .slice a n c, .int .i64 ((n : Nat) : Int), .int .i64 (k2 : Int), .slice a n c, .int .i64 ((n : Nat) : Int), .int .i64 (j : Int), .bool true] (by rw [show (l[j]!.Open) = true from Bp.var.tt h136]) ?_
                refine OPS.batch 6 { wraps := [88] } [.agg #[.int .i64 (l[j]!.Tag.Count), .int .i64 (l[j]!.Tag.Client)]] [0, 4, 5, 9, 12, 13, 14, 48, 49, 50, 74, 75, 76, 89] [.slice a n c, .map (some g4), .map (some g8), .pointer (some ⟨g76, 0, none⟩), .int .i64 la, .int .i64 (j : Int), .pointer (some ⟨g130, 0, none⟩), .slice a n c, .int .i64 ((n : Nat) : Int), .int .i64 (k2 : Int), .slice a n c, .int .i64 ((n : Nat) : Int), .int .i64 (j : Int), .bool ((decide ((l[j]!.Tag.Count) = 0)) && ((decide ((l[j]!.Tag.Client) = 0)) && true))] (.cons (show Ld Try.prog w132 70 ⟨g130, 9, none⟩ (.agg #[.int .i64 (l[j]!.Tag.Count), .int .i64 (l[j]!.Tag.Client)]) from Ld.rowN (cs := [.int .i64 (l[j]!.Tag.Count), .int .i64 (l[j]!.Tag.Client)]) hp133.get0 (by kernel_rfl)) .nil) (by kernel_rfl) (fun b138 => ?_)
                by_cases h139 : ((l[j]!.Tag.Count) = 0) ∧ ((l[j]!.Tag.Client) = 0)
                · refine OPS.batch 0 {} [] [0, 4, 5, 9, 12, 13, 14, 48, 49, 50, 74, 75, 76, 89] [.slice a n c, .map (some g4), .map (some g8), .pointer (some ⟨g76, 0, none⟩), .int .i64 la, .int .i64 (j : Int), .pointer (some ⟨g130, 0, none⟩), .slice a n c, .int .i64 ((n : Nat) : Int), .int .i64 (k2 : Int), .slice a n c, .int .i64 ((n : Nat) : Int), .int .i64 (j : Int), .bool ((decide ((l[j]!.Tag.Count) = 0)) && ((decide ((l[j]!.Tag.Client) = 0)) && true))] .nil (by kernel_rfl) (fun b140 => ?_)
                  refine OPS.re [.slice a n c, .map (some g4), .map (some g8), .pointer (some ⟨g76, 0, none⟩), .int .i64 la, .int .i64 (j : Int), .pointer (some ⟨g130, 0, none⟩), .slice a n c, .int .i64 ((n : Nat) : Int), .int .i64 (k2 : Int), .slice a n c, .int .i64 ((n : Nat) : Int), .int .i64 (j : Int), .bool true] (by rw [show ((decide ((l[j]!.Tag.Count) = 0)) && ((decide ((l[j]!.Tag.Client) = 0)) && true)) = true from (Bp.band Bp.dec (Bp.band1 Bp.dec)).tt h139]) ?_
                  refine OPS.batch 7 { wraps := [96] } [.int .i64 (l[j]!.Client), .int .i64 (l[k2]!.Tag.Client)] [0, 4, 5, 9, 12, 13, 48, 49, 50, 74, 75, 76, 96] [.slice a n c, .map (some g4), .map (some g8), .pointer (some ⟨g76, 0, none⟩), .int .i64 la, .int .i64 (j : Int), .slice a n c, .int .i64 ((n : Nat) : Int), .int .i64 (k2 : Int), .slice a n c, .int .i64 ((n : Nat) : Int), .int .i64 (j : Int), .bool (decide ((l[j]!.Client) = (l[k2]!.Tag.Client)))] (.cons (Ld.row1 (P := Try.prog) (t := 3) (o := 0) (v := .int .i64 (l[j]!.Client)) hp133.get0 (by kernel_rfl)) (.cons (Ld.row1 (P := Try.prog) (t := 3) (o := 10) (v := .int .i64 (l[k2]!.Tag.Client)) hp133.get1 (by kernel_rfl)) .nil)) (by kernel_rfl) (fun b141 => ?_)
                  refine OPS.nil ?_
                  refine thn_n ?_
                  exact ⟨decide ((l[j]!.Client) = (l[k2]!.Tag.Client)), trivial, Bp.of Bp.dec (by first | (simp only [h136, h139, iff_false, false_iff, iff_true, true_iff, Classical.not_not, and_true, true_and, and_false, false_and, or_true, true_or, or_false, false_or, not_true_eq_false, not_false_eq_true, and_self, or_self, iff_self]; done) | (simp [h136, h139]; done) | grind | (simp_all; done)), by kernel_rfl, hp133⟩
                · refine OPS.batch 0 {} [] [0, 4, 5, 9, 12, 13, 14, 48, 49, 50, 74, 75, 76, 89] [.slice a n c, .map (some g4), .map (some g8), .pointer (some ⟨g76, 0, none⟩), .int .i64 la, .int .i64 (j : Int), .pointer (some ⟨g130, 0, none⟩), .slice a n c, .int .i64 ((n : Nat) : Int), .int .i64 (k2 : Int), .slice a n c, .int .i64 ((n : Nat) : Int), .int .i64 (j : Int), .bool ((decide ((l[j]!.Tag.Count) = 0)) && ((decide ((l[j]!.Tag.Client) = 0)) && true))] .nil (by kernel_rfl) (fun b142 => ?_)
                  refine OPS.re [.slice a n c, .map (some g4), .map (some g8), .pointer (some ⟨g76, 0, none⟩), .int .i64 la, .int .i64 (j : Int), .pointer (some ⟨g130, 0, none⟩), .slice a n c, .int .i64 ((n : Nat) : Int), .int .i64 (k2 : Int), .slice a n c, .int .i64 ((n : Nat) : Int), .int .i64 (j : Int), .bool false] (by rw [show ((decide ((l[j]!.Tag.Count) = 0)) && ((decide ((l[j]!.Tag.Client) = 0)) && true)) = false from (Bp.band Bp.dec (Bp.band1 Bp.dec)).ff h139]) ?_
                  refine OPS.batch 7 { wraps := [96] } [] [0, 4, 5, 9, 12, 13, 48, 49, 50, 74, 75, 76, 96] [.slice a n c, .map (some g4), .map (some g8), .pointer (some ⟨g76, 0, none⟩), .int .i64 la, .int .i64 (j : Int), .slice a n c, .int .i64 ((n : Nat) : Int), .int .i64 (k2 : Int), .slice a n c, .int .i64 ((n : Nat) : Int), .int .i64 (j : Int), .bool false] .nil (by kernel_rfl) (fun b143 => ?_)
                  refine OPS.nil ?_
                  refine thn_n ?_
                  exact ⟨false, trivial, Bp.of Bp.f (by first | (simp only [h136, h139, iff_false, false_iff, iff_true, true_iff, Classical.not_not, and_true, true_and, and_false, false_and, or_true, true_or, or_false, false_or, not_true_eq_false, not_false_eq_true, and_self, or_self, iff_self]; done) | (simp [h136, h139]; done) | grind | (simp_all; done)), by kernel_rfl, hp133⟩
              · refine OPS.batch 0 {} [] [0, 4, 5, 9, 12, 13, 14, 48, 49, 50, 74, 75, 76, 83] [.slice a n c, .map (some g4), .map (some g8), .pointer (some ⟨g76, 0, none⟩), .int .i64 la, .int .i64 (j : Int), .pointer (some ⟨g130, 0, none⟩), .slice a n c, .int .i64 ((n : Nat) : Int), .int .i64 (k2 : Int), .slice a n c, .int .i64 ((n : Nat) : Int), .int .i64 (j : Int), .bool (l[j]!.Open)] .nil (by kernel_rfl) (fun b144 => ?_)
                refine OPS.re [.slice a n c, .map (some g4), .map (some g8), .pointer (some ⟨g76, 0, none⟩), .int .i64 la, .int .i64 (j : Int), .pointer (some ⟨g130, 0, none⟩), .slice a n c, .int .i64 ((n : Nat) : Int), .int .i64 (k2 : Int), .slice a n c, .int .i64 ((n : Nat) : Int), .int .i64 (j : Int), .bool false] (by rw [show (l[j]!.Open) = false from Bp.var.ff h136]) ?_
                refine OPS.batch 13 { wraps := [88, 96] } [] [0, 4, 5, 9, 12, 13, 48, 49, 50, 74, 75, 76, 96] [.slice a n c, .map (some g4), .map (some g8), .pointer (some ⟨g76, 0, none⟩), .int .i64 la, .int .i64 (j : Int), .slice a n c, .int .i64 ((n : Nat) : Int), .int .i64 (k2 : Int), .slice a n c, .int .i64 ((n : Nat) : Int), .int .i64 (j : Int), .bool false] .nil (by kernel_rfl) (fun b145 => ?_)
                refine OPS.nil ?_
                refine thn_n ?_
                exact ⟨false, trivial, Bp.of Bp.f (by first | (simp only [h136, iff_false, false_iff, iff_true, true_iff, Classical.not_not, and_true, true_and, and_false, false_and, or_true, true_or, or_false, false_or, not_true_eq_false, not_false_eq_true, and_self, or_self, iff_self]; done) | (simp [h136]; done) | grind | (simp_all; done)), by kernel_rfl, hp133⟩
            rintro e148 w149 ⟨x146, hd151, hb147, hE152, hp150⟩
            obtain ⟨b153, rfl⟩ := toMk hE152
            clear hE152
            clear hd151
            refine WP.test (p := ((l[j]!.Open) = true) ∧ (((l[j]!.Tag.Count) = 0) ∧ ((l[j]!.Tag.Client) = 0)) ∧ ((l[j]!.Client) = (l[k2]!.Tag.Client))) rfl hb147 (fun h154 => ?_) (fun h154 => ?_)
            · refine WP.pure {} [] [0, 4, 5, 9, 12, 48, 49, 50, 74, 75, 76] [.slice a n c, .map (some g4), .map (some g8), .pointer (some ⟨g76, 0, none⟩), .int .i64 (j : Int), .slice a n c, .int .i64 ((n : Nat) : Int), .int .i64 (k2 : Int), .slice a n c, .int .i64 ((n : Nat) : Int), .int .i64 (j : Int)] .nil (by kernel_rfl) (fun b155 => ?_)
              refine blk_n ?_
              refine thn_n ?_
              refine WP.pure {} [] [0, 4, 5, 9, 12, 48, 49, 50, 74, 75, 76] [.slice a n c, .map (some g4), .map (some g8), .pointer (some ⟨g76, 0, none⟩), .int .i64 (j : Int), .slice a n c, .int .i64 ((n : Nat) : Int), .int .i64 (k2 : Int), .slice a n c, .int .i64 ((n : Nat) : Int), .int .i64 ((j : Int) + 1)] (.cons (show Rng .i64 ((j : Int) + 1) from Rng.i64 (by omega)) .nil) (by kernel_rfl) (fun b156 => ?_)
              refine thn_n ?_
              exact ⟨l.length - (j + 1), (by omega), j + 1, (j : Int), rfl, ⟨by omega, by unfold lastP; rw [if_pos (by have h_ := h154; grind)]⟩, by kernel_rfl, (hp150.sub (.cons _ (.cons_cons _ (.cons_cons _ (.cons_cons _ (.slnil))))))⟩
            · refine WP.skip ?_
              refine blk_n ?_
              refine thn_n ?_
              refine WP.pure {} [] [0, 4, 5, 9, 12, 48, 49, 50, 74, 75, 76] [.slice a n c, .map (some g4), .map (some g8), .pointer (some ⟨g76, 0, none⟩), .int .i64 la, .slice a n c, .int .i64 ((n : Nat) : Int), .int .i64 (k2 : Int), .slice a n c, .int .i64 ((n : Nat) : Int), .int .i64 ((j : Int) + 1)] (.cons (show Rng .i64 ((j : Int) + 1) from Rng.i64 (by omega)) .nil) (by kernel_rfl) (fun b157 => ?_)
              refine thn_n ?_
              exact ⟨l.length - (j + 1), (by omega), j + 1, la, rfl, ⟨by omega, by unfold lastP; rw [if_neg (by have h_ := h154; grind), ← rb]⟩, by kernel_rfl, (hp150.sub (.cons _ (.cons_cons _ (.cons_cons _ (.cons_cons _ (.slnil))))))⟩
          · refine WP.exit ?_
            refine thn_x ?_
            refine thn_x ?_
            refine blk_hit ?_
            refine thn_n ?_
            refine WP.seq ?_
            refine WP.seq ?_
            obtain rfl : j = l.length := by omega
            refine WP.pure {} [] [0, 4, 5, 9, 12, 48, 49, 50, 100] [.slice a n c, .map (some g4), .map (some g8), .pointer (some ⟨g76, 0, none⟩), .int .i64 la, .slice a n c, .int .i64 ((n : Nat) : Int), .int .i64 (k2 : Int), .bool (decide (la < 0))] .nil (by kernel_rfl) (fun b158 => ?_)
            refine thn_n ?_
            refine WP.test (p := la < 0) rfl Bp.dec (fun h159 => ?_) (fun h159 => ?_)
            · refine WP.exit ?_
              refine thn_x ?_
              refine blk_hit ?_
              refine thn_n ?_
              refine WP.pure {} [] [0, 4, 5, 48, 49, 50] [.slice a n c, .map (some g4), .map (some g8), .slice a n c, .int .i64 ((n : Nat) : Int), .int .i64 ((k2 : Int) + 1)] (.cons (show Rng .i64 ((k2 : Int) + 1) from Rng.i64 (by omega)) .nil) (by kernel_rfl) (fun b160 => ?_)
              refine thn_n ?_
              exact ⟨l.length - (k2 + 1), (by omega), k2 + 1, m2, kn2, rfl, ⟨by omega, by unfold tgB; rw [qb, Option.bind_some]; unfold tgStep; rw [if_neg (show ¬ ¬ rdC l[k2]! from by unfold rdC; have h_ := h107; grind)]; rw [if_neg (show ¬ _ = true from h111)]; rw [← rb, if_pos h159]⟩, by kernel_rfl, (hp117.sub (.cons _ (.cons_cons _ (.cons_cons _ (.slnil)))))⟩
            · refine WP.skip ?_
              refine thn_n ?_
              refine WP.seq ?_
              refine WP.seq ?_
              refine WP.region _ rfl (by kernel_rfl) ?_
              refine OPS.batch 6 {} [.tuple #[GTag.val ((mapV m2 la).getD tag0), .bool ((mapV m2 la).isSome)]] [0, 4, 5, 9, 12, 48, 49, 50, 105, 106] [.slice a n c, .map (some g4), .map (some g8), .pointer (some ⟨g76, 0, none⟩), .int .i64 la, .slice a n c, .int .i64 ((n : Nat) : Int), .int .i64 (k2 : Int), GTag.val ((mapV m2 la).getD tag0), .bool ((mapV m2 la).isSome)] (.cons (Lk.okD (vf := vT) (keyInt (by exact Try.underlying3)) (by exact Try.underlying117) hp117.get2 la tag0 (by kernel_rfl)) .nil) (by kernel_rfl) (fun b161 => ?_)
              refine OPS.cons (opStep.alloc hp117 [.int .i64 0, .int .i64 0] (by kernel_rfl) (fun g164 w162 hp163 => ?_))
              refine OPS.cons (opStep.store0 hp163 rfl [.int .i64 (((mapV m2 la).getD tag0).Count), .int .i64 (((mapV m2 la).getD tag0).Client)] [.int .i64 (((mapV m2 la).getD tag0).Count), .int .i64 (((mapV m2 la).getD tag0).Client)] (by kernel_rfl) (fun w165 hp166 => ?_))
              refine OPS.batch 1 {} [] [0, 4, 5, 9, 12, 16, 48, 49, 50] [.slice a n c, .map (some g4), .map (some g8), .pointer (some ⟨g76, 0, none⟩), .int .i64 la, .bool ((mapV m2 la).isSome), .slice a n c, .int .i64 ((n : Nat) : Int), .int .i64 (k2 : Int)] .nil (by kernel_rfl) (fun b167 => ?_)
              refine OPS.nil ?_
              refine thn_n ?_
              refine WP.seq ?_
              refine WP.pure {} [] [0, 4, 5, 9, 12, 48, 49, 50, 107] [.slice a n c, .map (some g4), .map (some g8), .pointer (some ⟨g76, 0, none⟩), .int .i64 la, .slice a n c, .int .i64 ((n : Nat) : Int), .int .i64 (k2 : Int), .bool ((mapV m2 la).isSome)] .nil (by kernel_rfl) (fun b168 => ?_)
              refine thn_n ?_
              refine WP.test (p := ((mapV m2 la).isSome) = true) rfl Bp.var (fun h169 => ?_) (fun h169 => ?_)
              · refine WP.seq ?_
                refine WP.pure {} [] [2, 3] [.map none, .bool false] .nil (by kernel_rfl) (fun b170 => ?_)
                refine thn_n ?_
                refine WP.ret ?_
                refine thn_r ?_
                refine blk_r ?_
                refine thn_r ?_
                refine thn_r ?_
                refine blk_r ?_
                refine thn_r ?_
                refine bodyQ.of _ rfl [.map none, .bool false] ⟨rfl, rfl, trivial⟩ ?_
                refine .inl ⟨?_, rfl, hp166.fr⟩
                have hst : tgB l (k2 + 1) = none := by unfold tgB; rw [qb, Option.bind_some]; unfold tgStep; rw [if_neg (show ¬ ¬ rdC l[k2]! from by unfold rdC; have h_ := h107; grind)]; rw [if_neg (show ¬ _ = true from h111)]; rw [← rb, if_neg h159]; rw [if_pos (show _ = true from h169)]
                exact tgB_none hst (by omega)
              · refine WP.skip ?_
                refine thn_n ?_
                refine WP.seq ?_
                refine WP.region _ rfl (by kernel_rfl) ?_
                refine OPS.batch 4 {} [.agg #[.int .i64 (l[k2]!.Tag.Count), .int .i64 (l[k2]!.Tag.Client)]] [0, 4, 5, 9, 12, 48, 49, 50, 108, 109, 111] [.slice a n c, .map (some g4), .map (some g8), .pointer (some ⟨g76, 0, none⟩), .int .i64 la, .slice a n c, .int .i64 ((n : Nat) : Int), .int .i64 (k2 : Int), .map (some g4), .int .i64 la, .agg #[.int .i64 (l[k2]!.Tag.Count), .int .i64 (l[k2]!.Tag.Client)]] (.cons (show Ld Try.prog w165 70 ⟨g76, 9, none⟩ (.agg #[.int .i64 (l[k2]!.Tag.Count), .int .i64 (l[k2]!.Tag.Client)]) from Ld.rowN (cs := [.int .i64 (l[k2]!.Tag.Count), .int .i64 (l[k2]!.Tag.Client)]) hp166.get1 (by kernel_rfl)) .nil) (by kernel_rfl) (fun b171 => ?_)
                have hp174 := hp166.pull3
                refine OPS.cons (opStep.mapUpdateN (keyInt (by exact Try.underlying3)) (by exact Try.underlying117) hp174 la (l[k2]!.Tag) (by kernel_rfl) (fun w172 hp173 => ?_))
                refine OPS.nil ?_
                refine thn_n ?_
                refine WP.region _ rfl (by kernel_rfl) ?_
                refine OPS.batch 4 {} [.agg #[.int .i64 (l[k2]!.Tag.Count), .int .i64 (l[k2]!.Tag.Client)]] [0, 4, 5, 48, 49, 50, 112, 114, 115] [.slice a n c, .map (some g4), .map (some g8), .slice a n c, .int .i64 ((n : Nat) : Int), .int .i64 (k2 : Int), .map (some g8), .agg #[.int .i64 (l[k2]!.Tag.Count), .int .i64 (l[k2]!.Tag.Client)], .int .i64 la] (.cons (show Ld Try.prog w172 70 ⟨g76, 9, none⟩ (.agg #[.int .i64 (l[k2]!.Tag.Count), .int .i64 (l[k2]!.Tag.Client)]) from Ld.rowN (cs := [.int .i64 (l[k2]!.Tag.Count), .int .i64 (l[k2]!.Tag.Client)]) hp173.get2 (by kernel_rfl)) .nil) (by kernel_rfl) (fun b175 => ?_)
                refine OPS.cons (opStep.mapUpdate3 keyTag (by exact Try.underlying148) hp173 (l[k2]!.Tag) la (by kernel_rfl) (fun w176 hp177 => ?_))
                refine OPS.nil ?_
                refine blk_n ?_
                refine thn_n ?_
                refine WP.pure {} [] [0, 4, 5, 48, 49, 50] [.slice a n c, .map (some g4), .map (some g8), .slice a n c, .int .i64 ((n : Nat) : Int), .int .i64 ((k2 : Int) + 1)] (.cons (show Rng .i64 ((k2 : Int) + 1) from Rng.i64 (by omega)) .nil) (by kernel_rfl) (fun b178 => ?_)
                refine thn_n ?_
                exact ⟨l.length - (k2 + 1), (by omega), k2 + 1, mapPut m2 la (l[k2]!.Tag), mapPut kn2 (l[k2]!.Tag) la, rfl, ⟨by omega, by unfold tgB; rw [qb, Option.bind_some]; unfold tgStep; rw [if_neg (show ¬ ¬ rdC l[k2]! from by unfold rdC; have h_ := h107; grind)]; rw [if_neg (show ¬ _ = true from h111)]; rw [← rb, if_neg h159]; rw [if_neg (show ¬ _ = true from h169)]⟩, by kernel_rfl, (((hp177.pull0).pull3).sub (.cons_cons _ (.cons_cons _ (.cons _ (.cons _ (.slnil))))))⟩
    · refine WP.exit ?_
      refine thn_x ?_
      refine thn_x ?_
      refine blk_hit ?_
      refine thn_n ?_
      refine WP.seq ?_
      refine WP.pure {} [] [2, 3] [.map (some g4), .bool true] .nil (by kernel_rfl) (fun b179 => ?_)
      refine thn_n ?_
      refine WP.ret ?_
      refine bodyQ.of _ rfl [.map (some g4), .bool true] ⟨rfl, rfl, trivial⟩ ?_
      obtain rfl : k2 = l.length := by omega
      exact .inr ⟨_, _, _, qb, rfl, (hp63.sub (.cons _ (.cons_cons _ (.slnil))))⟩

end Go.Proofs.Ytdahgdkadfdkeaa.K
