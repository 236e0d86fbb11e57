/- The walks of OrdF: what each function computes. -/
import Derived.Test.YtdahgdkadfdkeaaProg
import Derived.Test.YtdahgdkadfdkeaaCoreO
import Derived.Test.YtdahgdkadfdkeaaOrdE
namespace Go.Proofs.Ytdahgdkadfdkeaa.K
open Go Go.Proofs Go.RowKit
set_option linter.unusedVariables false
set_option linter.unusedSimpArgs false
set_option maxRecDepth 20000
set_option maxHeartbeats 4000000

theorem o_gets (l : List GCall) (a : Option Addr) (n c : Nat) (w : World) (hn : n = l.length) (hb : l.length ≤ 8796093022207) (hs : SlR w a n (l.flatMap GCall.cells)) (h : FuncId) (cap : Array Go.Value) (Pw : GCall → Prop) (hwh : WhichOk w h cap l Pw) :
    Calls Try.prog 84 #[.slice a n c, .func (.func h) #[] cap] w (fun r_ w' => ∃ ao co q, r_ = .returned (.slice ao q.length co) ∧ gtR l Pw q ∧ Hp w Non [Res.own 3 1 (.slice ao q.length co) q.length (List.flatMap (fun (y : Int) => [Go.Value.int .i64 y]) q)] w') := by
  refine calls_of Try.func84 rfl 37 rfl (by simp) ?_
  have hp0 := Hp.init w
  have he0 : List.map (env0 [.slice a n c, .func (.func h) #[] cap]) [0, 1] = [.slice a n c, .func (.func h) #[] cap] := by kernel_rfl
  obtain ⟨b0, he0⟩ := toMk he0
  rw [he0]
  clear he0
  refine WP.seq ?_
  refine WP.region _ rfl (by kernel_rfl) ?_
  refine OPS.cons (opStep.box hp0 [.slice a n c] (by kernel_rfl) (fun g3 w1 hp2 => ?_))
  refine OPS.batch 1 {} [] [1, 2] [.func (.func h) #[] cap, .pointer (some ⟨g3, 0, none⟩)] .nil (by kernel_rfl) (fun b4 => ?_)
  refine OPS.nil ?_
  refine thn_n ?_
  refine WP.seq ?_
  refine WP.region _ rfl (by kernel_rfl) ?_
  refine OPS.cons (opStep.alloc hp2 [.slice none 0 0] (by kernel_rfl) (fun g7 w5 hp6 => ?_))
  refine OPS.nil ?_
  refine thn_n ?_
  refine WP.seq ?_
  refine WP.seq ?_
  refine WP.pure {} [.slice a n c] [1, 2, 5, 8, 9, 10] [.func (.func h) #[] cap, .pointer (some ⟨g3, 0, none⟩), .pointer (some ⟨g7, 0, none⟩), .slice a n c, .int .i64 ((n : Nat) : Int), .int .i64 0] (.cons (Ld.row1 (P := Try.prog) (t := 55) (o := 0) (v := .slice a n c) hp6.get1 (by kernel_rfl)) .nil) (by kernel_rfl) (fun b8 => ?_)
  refine thn_n ?_
  refine WP.block ?_
  have hp9 := (show Hp w Non [Res.own 3 1 (.slice none 0 0) 0 (List.flatMap (fun (y : Int) => [Go.Value.int .i64 y]) ([] : List Int)), Res.row g7 [.slice none 0 0] 24, Res.row g3 [.slice a n c] 55] w5 from hp6.nilOwn 3 1)
  refine WP.loop (fun mz_ e10 w11 => ∃ (k : Nat) (xs : List Int) (ao : Option Addr) (no : Nat) (co : Nat), mz_ = l.length - k ∧ (k ≤ l.length ∧ xs = idxs (gtP l Pw) k) ∧ List.map e10 [1, 2, 5, 8, 9, 10] = [.func (.func h) #[] cap, .pointer (some ⟨g3, 0, none⟩), .pointer (some ⟨g7, 0, none⟩), .slice a n c, .int .i64 ((n : Nat) : Int), .int .i64 (k : Int)] ∧ Hp w Non [Res.own 3 1 (.slice ao no co) no (List.flatMap (fun (y : Int) => [Go.Value.int .i64 y]) xs), Res.row g7 [.slice ao no co] 24, Res.row g3 [.slice a n c] 55] w11) (l.length - (0)) ⟨0, [], none, 0, 0, rfl, ⟨by omega, rfl⟩, by kernel_rfl, hp9⟩ ?_
  rintro _ e10 w11 ⟨k, xs, ao, no, co, rfl, hI13, hE14, hp12⟩
  obtain ⟨b15, rfl⟩ := toMk hE14
  clear hE14
  obtain ⟨pa, pb⟩ := hI13
  have pe := own_flat (sz := 1) (fun _ => rfl) (by decide) hp12.get0
  have pl := idxs_len (gtP l Pw) k
  rw [← pb] at pl
  refine WP.seq ?_
  refine WP.pure {} [] [1, 2, 5, 8, 9, 10, 11] [.func (.func h) #[] cap, .pointer (some ⟨g3, 0, none⟩), .pointer (some ⟨g7, 0, none⟩), .slice a n c, .int .i64 ((n : Nat) : Int), .int .i64 (k : Int), .bool (decide ((k : Int) < ((n : Nat) : Int)))] .nil (by kernel_rfl) (fun b16 => ?_)
  refine thn_n ?_
  refine WP.seq ?_
  refine WP.test (p := (k : Int) < ((n : Nat) : Int)) rfl Bp.dec (fun h17 => ?_) (fun h17 => ?_)
  · refine WP.skip ?_
    refine thn_n ?_
    refine WP.seq ?_
    refine WP.block ?_
    refine WP.seq ?_
    refine WP.region _ rfl (by kernel_rfl) ?_
    have hy21 : (l)[k]? = some l[k]! := get_bang (by first | (omega) | (simp only [List.length_append, List.length_cons, List.length_nil]; omega) | (simp only [List.length_take, List.length_append, List.length_cons, List.length_nil]; omega))
    refine OPS.batch 3 {} [GCall.val (l[k]!)] [1, 2, 5, 8, 9, 10, 12, 14] [.func (.func h) #[] cap, .pointer (some ⟨g3, 0, none⟩), .pointer (some ⟨g7, 0, none⟩), .slice a n c, .int .i64 ((n : Nat) : Int), .int .i64 (k : Int), .int .i64 (k : Int), GCall.val (l[k]!)] (.cons (show InB ((k : Int)) (n) from ⟨by omega, by omega⟩) (.cons ((hs.at hp12).some (by omega)) (.cons (Ld.add0 (Ld.elN (P := Try.prog) (t := 73) (hs.at hp12).rd 11 (fun _ => rfl) hy21 (o := 0) (cs := [.int .i64 (l[k]!.Client), .int .i64 (l[k]!.Op), .bool (l[k]!.Put), .string (l[k]!.Key), .slice (l[k]!.Value.a) (l[k]!.Value.n) (l[k]!.Value.c), .int .i64 (l[k]!.Status), .int .i64 (l[k]!.From), .int .i64 (l[k]!.To), .bool (l[k]!.Open), .int .i64 (l[k]!.Tag.Count), .int .i64 (l[k]!.Tag.Client)]) (by kernel_rfl))) .nil))) (by kernel_rfl) (fun b22 => ?_)
    refine OPS.cons (opStep.alloc hp12 [.int .i64 0, .int .i64 0, .bool false, .string ByteArray.empty, .slice none 0 0, .int .i64 0, .int .i64 0, .int .i64 0, .bool false, .int .i64 0, .int .i64 0] (by kernel_rfl) (fun g25 w23 hp24 => ?_))
    refine OPS.batch 1 {} [] [1, 2, 5, 6, 7, 8, 9, 10, 14] [.func (.func h) #[] cap, .pointer (some ⟨g3, 0, none⟩), .pointer (some ⟨g7, 0, none⟩), .int .i64 (k : Int), .pointer (some ⟨g25, 0, none⟩), .slice a n c, .int .i64 ((n : Nat) : Int), .int .i64 (k : Int), GCall.val (l[k]!)] .nil (by kernel_rfl) (fun b26 => ?_)
    refine OPS.cons (opStep.store0 hp24 rfl [.int .i64 (l[k]!.Client), .int .i64 (l[k]!.Op), .bool (l[k]!.Put), .string (l[k]!.Key), .slice (l[k]!.Value.a) (l[k]!.Value.n) (l[k]!.Value.c), .int .i64 (l[k]!.Status), .int .i64 (l[k]!.From), .int .i64 (l[k]!.To), .bool (l[k]!.Open), .int .i64 (l[k]!.Tag.Count), .int .i64 (l[k]!.Tag.Client)] [.int .i64 (l[k]!.Client), .int .i64 (l[k]!.Op), .bool (l[k]!.Put), .string (l[k]!.Key), .slice (l[k]!.Value.a) (l[k]!.Value.n) (l[k]!.Value.c), .int .i64 (l[k]!.Status), .int .i64 (l[k]!.From), .int .i64 (l[k]!.To), .bool (l[k]!.Open), .int .i64 (l[k]!.Tag.Count), .int .i64 (l[k]!.Tag.Client)] (by kernel_rfl) (fun w27 hp28 => ?_))
    refine OPS.nil ?_
    refine thn_n ?_
    refine WP.cut (fun e57 w58 => ∃ (x55 : Bool), (True) ∧ Bp x55 ((¬ ((l[k]!.Put) = true)) ∧ (dueP (l[k]!)) ∧ (Pw (l[k]!))) ∧ List.map e57 [1, 2, 5, 6, 8, 9, 10, 26] = [.func (.func h) #[] cap, .pointer (some ⟨g3, 0, none⟩), .pointer (some ⟨g7, 0, none⟩), .int .i64 (k : Int), .slice a n c, .int .i64 ((n : Nat) : Int), .int .i64 (k : Int), .bool x55] ∧ Hp w Non [Res.row g25 [.int .i64 (l[k]!.Client), .int .i64 (l[k]!.Op), .bool (l[k]!.Put), .string (l[k]!.Key), .slice (l[k]!.Value.a) (l[k]!.Value.n) (l[k]!.Value.c), .int .i64 (l[k]!.Status), .int .i64 (l[k]!.From), .int .i64 (l[k]!.To), .bool (l[k]!.Open), .int .i64 (l[k]!.Tag.Count), .int .i64 (l[k]!.Tag.Client)] 73, Res.own 3 1 (.slice ao no co) no (List.flatMap (fun (y : Int) => [Go.Value.int .i64 y]) xs), Res.row g7 [.slice ao no co] 24, Res.row g3 [.slice a n c] 55] w58) ?_ ?_
    · refine WP.region _ rfl (by kernel_rfl) ?_
      refine OPS.batch 4 {} [.bool (l[k]!.Put)] [1, 2, 5, 6, 7, 8, 9, 10, 18] [.func (.func h) #[] cap, .pointer (some ⟨g3, 0, none⟩), .pointer (some ⟨g7, 0, none⟩), .int .i64 (k : Int), .pointer (some ⟨g25, 0, none⟩), .slice a n c, .int .i64 ((n : Nat) : Int), .int .i64 (k : Int), .bool (!(l[k]!.Put))] (.cons (Ld.row1 (P := Try.prog) (t := 4) (o := 2) (v := .bool (l[k]!.Put)) hp28.get0 (by kernel_rfl)) .nil) (by kernel_rfl) (fun b30 => ?_)
      by_cases h31 : (l[k]!.Put) = true
      · refine OPS.batch 0 {} [] [1, 2, 5, 6, 7, 8, 9, 10, 18] [.func (.func h) #[] cap, .pointer (some ⟨g3, 0, none⟩), .pointer (some ⟨g7, 0, none⟩), .int .i64 (k : Int), .pointer (some ⟨g25, 0, none⟩), .slice a n c, .int .i64 ((n : Nat) : Int), .int .i64 (k : Int), .bool (!(l[k]!.Put))] .nil (by kernel_rfl) (fun b53 => ?_)
        refine OPS.re [.func (.func h) #[] cap, .pointer (some ⟨g3, 0, none⟩), .pointer (some ⟨g7, 0, none⟩), .int .i64 (k : Int), .pointer (some ⟨g25, 0, none⟩), .slice a n c, .int .i64 ((n : Nat) : Int), .int .i64 (k : Int), .bool false] (by rw [show (!(l[k]!.Put)) = false from (Bp.not Bp.var).ff (fun k => k h31)]) ?_
        refine OPS.batch 8 { wraps := [21, 26] } [] [1, 2, 5, 6, 8, 9, 10, 26] [.func (.func h) #[] cap, .pointer (some ⟨g3, 0, none⟩), .pointer (some ⟨g7, 0, none⟩), .int .i64 (k : Int), .slice a n c, .int .i64 ((n : Nat) : Int), .int .i64 (k : Int), .bool false] .nil (by kernel_rfl) (fun b54 => ?_)
        refine OPS.nil ?_
        refine thn_n ?_
        exact ⟨false, trivial, Bp.of Bp.f (by first | (simp only [h31, iff_false, false_iff, iff_true, true_iff, Classical.not_not, and_true, true_and, and_false, false_and, or_true, true_or, or_false, false_or, not_true_eq_false, not_false_eq_true, and_self, or_self, iff_self]; done) | (simp [h31]; done) | grind | (simp_all; done)), by kernel_rfl, hp28⟩
      · refine OPS.batch 0 {} [] [1, 2, 5, 6, 7, 8, 9, 10, 18] [.func (.func h) #[] cap, .pointer (some ⟨g3, 0, none⟩), .pointer (some ⟨g7, 0, none⟩), .int .i64 (k : Int), .pointer (some ⟨g25, 0, none⟩), .slice a n c, .int .i64 ((n : Nat) : Int), .int .i64 (k : Int), .bool (!(l[k]!.Put))] .nil (by kernel_rfl) (fun b32 => ?_)
        refine OPS.re [.func (.func h) #[] cap, .pointer (some ⟨g3, 0, none⟩), .pointer (some ⟨g7, 0, none⟩), .int .i64 (k : Int), .pointer (some ⟨g25, 0, none⟩), .slice a n c, .int .i64 ((n : Nat) : Int), .int .i64 (k : Int), .bool true] (by rw [show (!(l[k]!.Put)) = true from (Bp.not Bp.var).tt h31]) ?_
        refine OPS.batch 1 {} [GCall.val (l[k]!)] [1, 2, 5, 6, 7, 8, 9, 10, 18, 19] [.func (.func h) #[] cap, .pointer (some ⟨g3, 0, none⟩), .pointer (some ⟨g7, 0, none⟩), .int .i64 (k : Int), .pointer (some ⟨g25, 0, none⟩), .slice a n c, .int .i64 ((n : Nat) : Int), .int .i64 (k : Int), .bool true, GCall.val (l[k]!)] (.cons (show Ld Try.prog w27 73 ⟨g25, 0, none⟩ (GCall.val (l[k]!)) from Ld.rowN (cs := [.int .i64 (l[k]!.Client), .int .i64 (l[k]!.Op), .bool (l[k]!.Put), .string (l[k]!.Key), .slice (l[k]!.Value.a) (l[k]!.Value.n) (l[k]!.Value.c), .int .i64 (l[k]!.Status), .int .i64 (l[k]!.From), .int .i64 (l[k]!.To), .bool (l[k]!.Open), .int .i64 (l[k]!.Tag.Count), .int .i64 (l[k]!.Tag.Client)]) hp28.get0 (by kernel_rfl)) .nil) (by kernel_rfl) (fun b33 => ?_)
        refine OPS.want (by kernel_rfl) ?_
        refine OPS.cons (opStep.call (some 20) [GCall.val (l[k]!)] (by kernel_rfl) (o_due (l[k]!) _) ?_)
        rintro _ w36 ⟨b39, rfl, hb40, hf37⟩
        refine ⟨_, rfl, ?_⟩
        have hp38 := hp28.step hf37
        refine OPS.batch 2 { wraps := [21] } [] [1, 2, 5, 6, 7, 8, 9, 10, 22] [.func (.func h) #[] cap, .pointer (some ⟨g3, 0, none⟩), .pointer (some ⟨g7, 0, none⟩), .int .i64 (k : Int), .pointer (some ⟨g25, 0, none⟩), .slice a n c, .int .i64 ((n : Nat) : Int), .int .i64 (k : Int), .bool b39] .nil (by kernel_rfl) (fun b41 => ?_)
        by_cases h42 : dueP (l[k]!)
        · rw [show b39 = true from hb40.tt h42]
          refine OPS.batch 2 {} [GCall.val (l[k]!)] [1, 2, 5, 6, 8, 9, 10, 22, 23, 24] [.func (.func h) #[] cap, .pointer (some ⟨g3, 0, none⟩), .pointer (some ⟨g7, 0, none⟩), .int .i64 (k : Int), .slice a n c, .int .i64 ((n : Nat) : Int), .int .i64 (k : Int), .bool true, .func (.func h) #[] cap, GCall.val (l[k]!)] (.cons (show Ld Try.prog w36 73 ⟨g25, 0, none⟩ (GCall.val (l[k]!)) from Ld.rowN (cs := [.int .i64 (l[k]!.Client), .int .i64 (l[k]!.Op), .bool (l[k]!.Put), .string (l[k]!.Key), .slice (l[k]!.Value.a) (l[k]!.Value.n) (l[k]!.Value.c), .int .i64 (l[k]!.Status), .int .i64 (l[k]!.From), .int .i64 (l[k]!.To), .bool (l[k]!.Open), .int .i64 (l[k]!.Tag.Count), .int .i64 (l[k]!.Tag.Client)]) hp38.get0 (by kernel_rfl)) .nil) (by kernel_rfl) (fun b43 => ?_)
          refine OPS.want (by kernel_rfl) ?_
          refine OPS.cons (opStep.callE (some 25) ([GCall.val (l[k]!)] ++ cap.toList) rfl hwh.1 rfl (hwh.2 _ hp38.fr (l[k]!) (List.mem_of_getElem? (get_bang (by omega)))) ?_)
          rintro _ w46 ⟨b47, rfl, hb48, hf49⟩
          refine ⟨_, rfl, ?_⟩
          have hp50 := hp38.step hf49
          refine OPS.batch 1 { wraps := [26] } [] [1, 2, 5, 6, 8, 9, 10, 26] [.func (.func h) #[] cap, .pointer (some ⟨g3, 0, none⟩), .pointer (some ⟨g7, 0, none⟩), .int .i64 (k : Int), .slice a n c, .int .i64 ((n : Nat) : Int), .int .i64 (k : Int), .bool b47] .nil (by kernel_rfl) (fun b51 => ?_)
          refine OPS.nil ?_
          refine thn_n ?_
          exact ⟨b47, trivial, Bp.of hb48 (by first | (simp only [h31, h42, iff_false, false_iff, iff_true, true_iff, Classical.not_not, and_true, true_and, and_false, false_and, or_true, true_or, or_false, false_or, not_true_eq_false, not_false_eq_true, and_self, or_self, iff_self]; done) | (simp [h31, h42]; done) | grind | (simp_all; done)), by kernel_rfl, hp50⟩
        · rw [show b39 = false from hb40.ff h42]
          refine OPS.batch 4 { wraps := [26] } [] [1, 2, 5, 6, 8, 9, 10, 26] [.func (.func h) #[] cap, .pointer (some ⟨g3, 0, none⟩), .pointer (some ⟨g7, 0, none⟩), .int .i64 (k : Int), .slice a n c, .int .i64 ((n : Nat) : Int), .int .i64 (k : Int), .bool false] .nil (by kernel_rfl) (fun b52 => ?_)
          refine OPS.nil ?_
          refine thn_n ?_
          exact ⟨false, trivial, Bp.of Bp.f (by first | (simp only [h31, h42, iff_false, false_iff, iff_true, true_iff, Classical.not_not, and_true, true_and, and_false, false_and, or_true, true_or, or_false, false_or, not_true_eq_false, not_false_eq_true, and_self, or_self, iff_self]; done) | (simp [h31, h42]; done) | grind | (simp_all; done)), by kernel_rfl, hp38⟩
    rintro e57 w58 ⟨x55, hd60, hb56, hE61, hp59⟩
    obtain ⟨b62, rfl⟩ := toMk hE61
    clear hE61
    clear hd60
    refine WP.test (p := (¬ ((l[k]!.Put) = true)) ∧ (dueP (l[k]!)) ∧ (Pw (l[k]!))) rfl hb56 (fun h63 => ?_) (fun h63 => ?_)
    · refine WP.region _ rfl (by kernel_rfl) ?_
      refine OPS.batch 2 {} [.slice ao no co] [1, 2, 5, 8, 9, 10, 27, 28] [.func (.func h) #[] cap, .pointer (some ⟨g3, 0, none⟩), .pointer (some ⟨g7, 0, none⟩), .slice a n c, .int .i64 ((n : Nat) : Int), .int .i64 (k : Int), .slice ao no co, .int .i64 (k : Int)] (.cons (Ld.row1 (P := Try.prog) (t := 24) (o := 0) (v := .slice ao no co) hp59.get2 (by kernel_rfl)) .nil) (by kernel_rfl) (fun b64 => ?_)
      refine OPS.cons (opStep.buildSlice (E := 3) hp59 [.int .i64 (k : Int)] (by kernel_rfl) (fun g67 w65 hp66 => ?_))
      refine OPS.cons (opStep.append2 [.int .i64 (k : Int)] hp66 8 (by kernel_rfl) rfl rfl rfl (SlR.row (n := 1) hp66.get0 rfl).rd (List.all_eq_true.1 (by kernel_rfl)) (by decide) (by omega) (by omega) (fun a70 c71 w72 hp73 hn74 => ?_))
      rw [(show List.flatMap (fun (y : Int) => [Go.Value.int .i64 y]) xs ++ [.int .i64 (k : Int)] = List.flatMap (fun (y : Int) => [Go.Value.int .i64 y]) (xs ++ [(k : Int)]) from (List.flatMap_append (xs := xs) (ys := [(k : Int)])).symm)] at hp73
      refine OPS.cons (opStep.store3 hp73 rfl [.slice a70 (no + 1) c71] [.slice a70 (no + 1) c71] (by kernel_rfl) (fun w75 hp76 => ?_))
      refine OPS.nil ?_
      refine blk_n ?_
      refine thn_n ?_
      refine WP.pure {} [] [1, 2, 5, 8, 9, 10] [.func (.func h) #[] cap, .pointer (some ⟨g3, 0, none⟩), .pointer (some ⟨g7, 0, none⟩), .slice a n c, .int .i64 ((n : Nat) : Int), .int .i64 ((k : Int) + 1)] (.cons (show Rng .i64 ((k : Int) + 1) from Rng.i64 (by omega)) .nil) (by kernel_rfl) (fun b77 => ?_)
      refine thn_n ?_
      exact ⟨l.length - (k + 1), (by omega), k + 1, xs ++ [(k : Int)], a70, no + 1, c71, rfl, ⟨by omega, by rw [idxs_succ, if_pos (show gtP l Pw k from by unfold gtP; have h_ := h63; grind), ← pb]⟩, by kernel_rfl, (hp76.sub (.cons _ (.cons _ (.cons_cons _ (.cons_cons _ (.cons_cons _ (.slnil)))))))⟩
    · refine WP.skip ?_
      refine blk_n ?_
      refine thn_n ?_
      refine WP.pure {} [] [1, 2, 5, 8, 9, 10] [.func (.func h) #[] cap, .pointer (some ⟨g3, 0, none⟩), .pointer (some ⟨g7, 0, none⟩), .slice a n c, .int .i64 ((n : Nat) : Int), .int .i64 ((k : Int) + 1)] (.cons (show Rng .i64 ((k : Int) + 1) from Rng.i64 (by omega)) .nil) (by kernel_rfl) (fun b78 => ?_)
      refine thn_n ?_
      exact ⟨l.length - (k + 1), (by omega), k + 1, xs, ao, no, co, rfl, ⟨by omega, by rw [idxs_succ, if_neg (show ¬ gtP l Pw k from by unfold gtP; have h_ := h63; grind), ← pb]⟩, by kernel_rfl, (hp59.sub (.cons _ (.cons_cons _ (.cons_cons _ (.cons_cons _ (.slnil))))))⟩
  · refine WP.exit ?_
    refine thn_x ?_
    refine thn_x ?_
    refine blk_hit ?_
    refine thn_n ?_
    refine WP.seq ?_
    refine WP.region _ rfl (by kernel_rfl) ?_
    refine OPS.batch 3 {} [.slice ao no co] [5, 33, 34] [.pointer (some ⟨g7, 0, none⟩), .iface 24 (.slice ao no co), .func (.func 112) #[] #[.pointer (some ⟨g3, 0, none⟩), .pointer (some ⟨g7, 0, none⟩)]] (.cons (Ld.row1 (P := Try.prog) (t := 24) (o := 0) (v := .slice ao no co) hp12.get1 (by kernel_rfl)) .nil) (by kernel_rfl) (fun b79 => ?_)
    have hp82 := hp12.pull0
    refine OPS.cons (opStep.call (some 35) [.iface 24 (.slice ao no co), .func (.func 112) #[] #[.pointer (some ⟨g3, 0, none⟩), .pointer (some ⟨g7, 0, none⟩)]] (by kernel_rfl) (stab_c ((frLt_wk l).cm _) (by rw [pb]; exact idxs_inc _ _) (by omega) (g1_ok hs hn hb (List.Mem.tail _ (List.Mem.head _)) (List.Mem.head _) (fun y hy => by rw [pb] at hy; obtain ⟨i, e1, _, rfl⟩ := idxs_mem.1 hy; omega) (by omega)) hp82) ?_)
    rintro _ w85 ⟨rfl, q83, hq84, hp86⟩
    refine ⟨_, rfl, ?_⟩
    have hq84l := hq84.1.length_eq
    refine OPS.nil ?_
    refine thn_n ?_
    refine WP.seq ?_
    refine WP.pure {} [.slice ao no co] [4] [.slice ao no co] (.cons (Ld.row1 (P := Try.prog) (t := 24) (o := 0) (v := .slice ao no co) hp86.get1 (by kernel_rfl)) .nil) (by kernel_rfl) (fun b87 => ?_)
    refine thn_n ?_
    refine WP.ret ?_
    refine bodyQ.of _ rfl [.slice ao no co] ⟨rfl, trivial⟩ ?_
    obtain rfl : k = l.length := by omega
    obtain rfl : no = q83.length := by omega
    exact ⟨_, _, q83, rfl, ⟨by rw [← pb]; exact hq84.1, hq84.2⟩, (hp86.sub (.cons_cons _ (.cons _ (.cons _ (.slnil)))))⟩

end Go.Proofs.Ytdahgdkadfdkeaa.K
