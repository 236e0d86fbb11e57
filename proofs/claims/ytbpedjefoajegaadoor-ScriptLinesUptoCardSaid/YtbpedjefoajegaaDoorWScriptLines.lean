/- The walks of WScriptLines: what each function computes. -/
import Derived.Test.YtbpedjefoajegaaDoorProg
import Derived.Test.YtbpedjefoajegaaDoorCoreO
import Derived.Test.YtbpedjefoajegaaDoorSbkB
import Derived.Test.YtbpedjefoajegaaDoorOpen
import Derived.Test.YtbpedjefoajegaaDoorCoreF
import Derived.Test.YtbpedjefoajegaaDoorCoreV
namespace Go.Proofs.YtbpedjefoajegaaDoor.K
open Go Go.Proofs Go.RowKit
set_option linter.unusedVariables false
set_option linter.unusedSimpArgs false
set_option maxRecDepth 20000
set_option maxHeartbeats 4000000

theorem ScriptLines (ls : List ByteArray) (a : Option Addr) (n c : Nat) (w : World) (hls : LibS w) (hn : n = ls.length) (hb : ls.length ≤ 1048576) (hsl : SlR w a n (List.flatMap strc ls)) (hlz2 : ∀ l ∈ ls, l.size ≤ 1048576) :
    Calls Tryd.prog 4 #[.slice a n c] w (fun x w' => x = .returned (.bool true) ∧ Fram Non w w') := by
  have h10 : (⟨#[10]⟩ : ByteArray).size = 1 := rfl
  refine calls_of Tryd.func4 rfl 106 rfl (by simp) ?_
  have hp0 := Hp.init w
  have he0 : List.map (env0 [.slice a n c]) [0] = [.slice a n c] := by kernel_rfl
  obtain ⟨b0, he0⟩ := toMk he0
  rw [he0]
  clear he0
  refine WP.seq ?_
  refine WP.pure {} [] [0] [.slice a n c] .nil (by kernel_rfl) (fun b1 => ?_)
  refine thn_n ?_
  refine WP.seq ?_
  refine WP.seq ?_
  refine WP.region _ rfl (by kernel_rfl) ?_
  refine OPS.cons (opStep.call (some 14) [] (by kernel_rfl) (sb_awake _ (hls.fram hp0.fr)) ?_)
  rintro _ w4 ⟨rfl, hf5⟩
  refine ⟨_, rfl, ?_⟩
  have hp6 := hp0.step hf5
  refine OPS.batch 1 {} [] [0, 15] [.slice a n c, .bool false] .nil (by kernel_rfl) (fun b7 => ?_)
  refine OPS.nil ?_
  refine thn_n ?_
  refine WP.condF rfl ?_
  refine WP.skip ?_
  refine thn_n ?_
  refine WP.seq ?_
  refine WP.pure {} [] [0, 3] [.slice a n c, .string ⟨#[]⟩] .nil (by kernel_rfl) (fun b8 => ?_)
  refine thn_n ?_
  refine WP.seq ?_
  refine WP.pure {} [] [0, 3, 4] [.slice a n c, .string ⟨#[]⟩, .int .i64 (-1)] .nil (by kernel_rfl) (fun b9 => ?_)
  refine thn_n ?_
  refine WP.seq ?_
  refine WP.pure {} [] [0, 3, 4, 5] [.slice a n c, .string ⟨#[]⟩, .int .i64 (-1), .slice none 0 0] .nil (by kernel_rfl) (fun b10 => ?_)
  refine thn_n ?_
  refine WP.seq ?_
  refine WP.seq ?_
  refine WP.pure {} [] [0, 3, 4, 5, 6] [.slice a n c, .string ⟨#[]⟩, .int .i64 (-1), .slice none 0 0, .int .i64 0] .nil (by kernel_rfl) (fun b11 => ?_)
  refine thn_n ?_
  refine WP.block ?_
  have hp13 := hp6.nil.svNil
  have hp12 := (show Hp w Non [Res.own 31 6 (.slice none 0 0) 0 (List.flatMap GStep.cells ([] : List GStep)), Res.sv (fun _ => False) [] []] w4 from hp13.nilOwn 31 6)
  refine WP.loop (fun mz_ e14 w15 => ∃ (k : Nat) (F : Nat → Prop) (c2 : List GStep) (x2 : List StepP) (ao : Option Addr) (no : Nat) (co : Nat) (bd : Int) (tx : ByteArray), mz_ = n - k ∧ (k ≤ n ∧ k ≤ 4096 ∧ c2.length ≤ k ∧ tx = frontB (ls.take k) ∧ tx.size ≤ k * 1048577 ∧ (∀ i, i < k → ∀ c ∈ ls[i]!.data.toList, c ≠ 10) ∧ SlI ls k bd x2) ∧ List.map e14 [0, 3, 4, 5, 6] = [.slice a n c, .string tx, .int .i64 bd, .slice ao no co, .int .i64 (k : Int)] ∧ Hp w Non [Res.own 31 6 (.slice ao no co) no (List.flatMap GStep.cells c2), Res.sv F c2 x2] w15) (n - (0)) ⟨0, (fun _ => False), [], [], none, 0, 0, (-1), (⟨#[]⟩ : ByteArray), rfl, ⟨Nat.zero_le _, by decide, Nat.le_refl _, rfl, by decide, fun i hi => absurd hi (Nat.not_lt_zero _), SlI.start ls⟩, by kernel_rfl, hp12⟩ ?_
  rintro _ e14 w15 ⟨k, F, c2, x2, ao, no, co, bd, tx, rfl, hI17, hE18, hp16⟩
  obtain ⟨b19, rfl⟩ := toMk hE18
  clear hE18
  obtain ⟨pa, pb, pc, pt, pz, pn, ps⟩ := hI17
  have pe := own_flat (f := GStep.cells) (sz := 6) (fun _ => rfl) (by decide) hp16.get0
  have hlk : k < ls.length → ls[k]!.size ≤ 1048576 := fun q => hlz2 _ (List.mem_of_getElem? (get_bang q))
  refine WP.seq ?_
  refine WP.cut (fun e29 w30 => ∃ (x27 : Bool), (True) ∧ Bp x27 (((k : Int) < ((n : Nat) : Int)) ∧ ((k : Int) < 4096)) ∧ List.map e29 [0, 3, 4, 5, 6, 23] = [.slice a n c, .string tx, .int .i64 bd, .slice ao no co, .int .i64 (k : Int), .bool x27] ∧ Hp w Non [Res.own 31 6 (.slice ao no co) no (List.flatMap GStep.cells c2), Res.sv F c2 x2] w30) ?_ ?_
  · refine WP.region _ rfl (by kernel_rfl) ?_
    refine OPS.batch 5 {} [] [0, 3, 4, 5, 6, 20] [.slice a n c, .string tx, .int .i64 bd, .slice ao no co, .int .i64 (k : Int), .bool (decide ((k : Int) < ((n : Nat) : Int)))] .nil (by kernel_rfl) (fun b21 => ?_)
    by_cases h22 : (k : Int) < ((n : Nat) : Int)
    · refine OPS.batch 0 {} [] [0, 3, 4, 5, 6, 20] [.slice a n c, .string tx, .int .i64 bd, .slice ao no co, .int .i64 (k : Int), .bool (decide ((k : Int) < ((n : Nat) : Int)))] .nil (by kernel_rfl) (fun b23 => ?_)
      refine OPS.re [.slice a n c, .string tx, .int .i64 bd, .slice ao no co, .int .i64 (k : Int), .bool true] (by rw [show (decide ((k : Int) < ((n : Nat) : Int))) = true from Bp.dec.tt h22]) ?_
      refine OPS.batch 3 { wraps := [23] } [] [0, 3, 4, 5, 6, 23] [.slice a n c, .string tx, .int .i64 bd, .slice ao no co, .int .i64 (k : Int), .bool (decide ((k : Int) < 4096))] .nil (by kernel_rfl) (fun b24 => ?_)
      refine OPS.nil ?_
      refine thn_n ?_
      exact ⟨decide ((k : Int) < 4096), trivial, Bp.of Bp.dec (by first | (simp only [h22, iff_false, false_iff, iff_true, true_iff, Classical.not_not, and_true, true_and, and_false, false_and, or_true, true_or, or_false, false_or, not_true_eq_false, not_false_eq_true, and_self, or_self, iff_self]; done) | (simp [h22]; done) | grind | (simp_all; done)), by kernel_rfl, hp16⟩
    · refine OPS.batch 0 {} [] [0, 3, 4, 5, 6, 20] [.slice a n c, .string tx, .int .i64 bd, .slice ao no co, .int .i64 (k : Int), .bool (decide ((k : Int) < ((n : Nat) : Int)))] .nil (by kernel_rfl) (fun b25 => ?_)
      refine OPS.re [.slice a n c, .string tx, .int .i64 bd, .slice ao no co, .int .i64 (k : Int), .bool false] (by rw [show (decide ((k : Int) < ((n : Nat) : Int))) = false from Bp.dec.ff h22]) ?_
      refine OPS.batch 3 { wraps := [23] } [] [0, 3, 4, 5, 6, 23] [.slice a n c, .string tx, .int .i64 bd, .slice ao no co, .int .i64 (k : Int), .bool false] .nil (by kernel_rfl) (fun b26 => ?_)
      refine OPS.nil ?_
      refine thn_n ?_
      exact ⟨false, trivial, Bp.of Bp.f (by first | (simp only [h22, iff_false, false_iff, iff_true, true_iff, Classical.not_not, and_true, true_and, and_false, false_and, or_true, true_or, or_false, false_or, not_true_eq_false, not_false_eq_true, and_self, or_self, iff_self]; done) | (simp [h22]; done) | grind | (simp_all; done)), by kernel_rfl, hp16⟩
  rintro e29 w30 ⟨x27, hd32, hb28, hE33, hp31⟩
  obtain ⟨b34, rfl⟩ := toMk hE33
  clear hE33
  clear hd32
  refine WP.test (p := ((k : Int) < ((n : Nat) : Int)) ∧ ((k : Int) < 4096)) rfl hb28 (fun h35 => ?_) (fun h35 => ?_)
  · refine WP.skip ?_
    refine thn_n ?_
    refine WP.seq ?_
    refine WP.block ?_
    refine WP.seq ?_
    refine WP.seq ?_
    refine WP.pure {} [] [0, 3, 4, 5, 6, 7] [.slice a n c, .string tx, .int .i64 bd, .slice ao no co, .int .i64 (k : Int), .int .i64 0] .nil (by kernel_rfl) (fun b36 => ?_)
    refine thn_n ?_
    refine WP.block ?_
    refine WP.loop (fun mz_ e37 w38 => ∃ (j : Nat), mz_ = ls[k]!.size - j ∧ (j ≤ ls[k]!.size ∧ ∀ p, p < j → ¬ byteAt ls[k]! ((p : Nat) : Int) = 10) ∧ List.map e37 [0, 3, 4, 5, 6, 7] = [.slice a n c, .string tx, .int .i64 bd, .slice ao no co, .int .i64 (k : Int), .int .i64 (j : Int)] ∧ Hp w Non [Res.own 31 6 (.slice ao no co) no (List.flatMap GStep.cells c2), Res.sv F c2 x2] w38) (ls[k]!.size - (0)) ⟨0, rfl, ⟨Nat.zero_le _, fun p hp => absurd hp (Nat.not_lt_zero _)⟩, by kernel_rfl, hp31⟩ ?_
    rintro _ e37 w38 ⟨j, rfl, hI40, hE41, hp39⟩
    obtain ⟨b42, rfl⟩ := toMk hE41
    clear hE41
    obtain ⟨qa, qb⟩ := hI40
    refine WP.seq ?_
    refine WP.seq ?_
    have hy44 : (ls)[k]? = some ls[k]! := get_bang (by first | (first | omega | (simp only [ByteArray.size_append]; omega)) | (simp only [List.length_append, List.length_cons, List.length_nil]; omega) | (simp only [List.length_take, List.length_append, List.length_cons, List.length_nil]; omega))
    refine WP.pure {} [.string (ls[k]!)] [0, 3, 4, 5, 6, 7, 32] [.slice a n c, .string tx, .int .i64 bd, .slice ao no co, .int .i64 (k : Int), .int .i64 (j : Int), .bool (decide ((j : Int) < ((ls[k]!).size : Int)))] (.cons (show InB ((k : Int)) (n) from ⟨by first | omega | (simp only [ByteArray.size_append]; omega), by first | omega | (simp only [ByteArray.size_append]; omega)⟩) (.cons ((hsl.at hp39).some (by first | omega | (simp only [ByteArray.size_append]; omega))) (.cons (Ld.add0 (Ld.el1 (P := Tryd.prog) (t := 9) (hsl.at hp39).rd 1 (fun _ => rfl) hy44 (o := 0) (v := .string (ls[k]!)) (by kernel_rfl))) .nil))) (by kernel_rfl) (fun b45 => ?_)
    refine thn_n ?_
    refine WP.test (p := (j : Int) < ((ls[k]!).size : Int)) rfl Bp.dec (fun h46 => ?_) (fun h46 => ?_)
    · refine WP.skip ?_
      refine thn_n ?_
      refine WP.seq ?_
      refine WP.block ?_
      refine WP.seq ?_
      refine WP.pure {} [.string (ls[k]!)] [0, 3, 4, 5, 6, 7, 41] [.slice a n c, .string tx, .int .i64 bd, .slice ao no co, .int .i64 (k : Int), .int .i64 (j : Int), .bool (decide ((byteAt (ls[k]!) ((j : Int))) = 10))] (.cons (show InB ((k : Int)) (n) from ⟨by first | omega | (simp only [ByteArray.size_append]; omega), by first | omega | (simp only [ByteArray.size_append]; omega)⟩) (.cons ((hsl.at hp39).some (by first | omega | (simp only [ByteArray.size_append]; omega))) (.cons (Ld.add0 (Ld.el1 (P := Tryd.prog) (t := 9) (hsl.at hp39).rd 1 (fun _ => rfl) hy44 (o := 0) (v := .string (ls[k]!)) (by kernel_rfl))) (.cons (show InB ((j : Int)) (ls[k]!).size from ⟨by first | omega | (simp only [ByteArray.size_append]; omega), by first | omega | (simp only [ByteArray.size_append]; omega)⟩) .nil)))) (by kernel_rfl) (fun b47 => ?_)
      refine thn_n ?_
      refine WP.test (p := (byteAt (ls[k]!) ((j : Int))) = 10) rfl Bp.dec (fun h48 => ?_) (fun h48 => ?_)
      · refine WP.seq ?_
        refine WP.pure {} [] [2] [.bool true] .nil (by kernel_rfl) (fun b49 => ?_)
        refine thn_n ?_
        refine WP.ret ?_
        refine blk_r ?_
        refine thn_r ?_
        refine thn_r ?_
        refine blk_r ?_
        refine thn_r ?_
        refine blk_r ?_
        refine thn_r ?_
        refine thn_r ?_
        refine blk_r ?_
        refine thn_r ?_
        refine bodyQ.of _ rfl [.bool true] ⟨rfl, trivial⟩ ?_
        exact ⟨rfl, hp39.fr⟩
      · refine WP.skip ?_
        refine blk_n ?_
        refine thn_n ?_
        refine WP.pure {} [] [0, 3, 4, 5, 6, 7] [.slice a n c, .string tx, .int .i64 bd, .slice ao no co, .int .i64 (k : Int), .int .i64 ((j : Int) + 1)] (.cons (show Rng .i64 ((j : Int) + 1) from Rng.i64 (by first | omega | (simp only [ByteArray.size_append]; omega))) .nil) (by kernel_rfl) (fun b50 => ?_)
        refine thn_n ?_
        exact ⟨ls[k]!.size - (j + 1), (by omega), j + 1, rfl, ⟨by omega, fun p hp => by by_cases e_ : p = j; subst e_; exact h48; exact qb p (by omega)⟩, by kernel_rfl, hp39⟩
    · refine WP.exit ?_
      refine thn_x ?_
      refine thn_x ?_
      refine blk_hit ?_
      refine thn_n ?_
      refine WP.seq ?_
      have hno : ∀ c ∈ ls[k]!.data.toList, c ≠ 10 := no10 fun p hp => qb p (by omega)
      refine WP.pure {} [.string (ls[k]!)] [0, 3, 4, 5, 6] [.slice a n c, .string ((tx ++ (ls[k]!)) ++ (⟨#[10]⟩ : ByteArray)), .int .i64 bd, .slice ao no co, .int .i64 (k : Int)] (.cons (show InB ((k : Int)) (n) from ⟨by first | omega | (simp only [ByteArray.size_append]; omega), by first | omega | (simp only [ByteArray.size_append]; omega)⟩) (.cons ((hsl.at hp39).some (by first | omega | (simp only [ByteArray.size_append]; omega))) (.cons (Ld.add0 (Ld.el1 (P := Tryd.prog) (t := 9) (hsl.at hp39).rd 1 (fun _ => rfl) hy44 (o := 0) (v := .string (ls[k]!)) (by kernel_rfl))) (.cons (show tx.size + (ls[k]!).size ≤ 9223372036854775807 from by first | omega | (simp only [ByteArray.size_append]; omega)) (.cons (show (tx ++ (ls[k]!)).size + (⟨#[10]⟩ : ByteArray).size ≤ 9223372036854775807 from by first | omega | (simp only [ByteArray.size_append]; omega)) .nil))))) (by kernel_rfl) (fun b51 => ?_)
      refine thn_n ?_
      refine WP.seq ?_
      refine WP.region _ rfl (by kernel_rfl) ?_
      refine OPS.batch 5 {} [.string (ls[k]!)] [0, 3, 4, 5, 6, 54] [.slice a n c, .string ((tx ++ (ls[k]!)) ++ (⟨#[10]⟩ : ByteArray)), .int .i64 bd, .slice ao no co, .int .i64 (k : Int), .string ((ls[k]!) ++ (⟨#[10]⟩ : ByteArray))] (.cons (show InB ((k : Int)) (n) from ⟨by first | omega | (simp only [ByteArray.size_append]; omega), by first | omega | (simp only [ByteArray.size_append]; omega)⟩) (.cons ((hsl.at hp39).some (by first | omega | (simp only [ByteArray.size_append]; omega))) (.cons (Ld.add0 (Ld.el1 (P := Tryd.prog) (t := 9) (hsl.at hp39).rd 1 (fun _ => rfl) hy44 (o := 0) (v := .string (ls[k]!)) (by kernel_rfl))) (.cons (show (ls[k]!).size + (⟨#[10]⟩ : ByteArray).size ≤ 9223372036854775807 from by first | omega | (simp only [ByteArray.size_append]; omega)) .nil)))) (by kernel_rfl) (fun b52 => ?_)
      refine OPS.cons (opStep.call (some 55) [.string ((ls[k]!) ++ (⟨#[10]⟩ : ByteArray))] (by kernel_rfl) (sc_Parse ((ls[k]!) ++ (⟨#[10]⟩ : ByteArray)) (by first | omega | (rw [ByteArray.size_append]; omega)) (fun x hx => by have h_ := linesB_size hx; first | omega | (simp only [ByteArray.size_append] at h_; omega)) _ (hls.fram hp39.fr)) ?_)
      rintro _ w55 ⟨a57, n58, c59, cl60, F61, xs62, m63, e64, rfl, hq65, hp56⟩
      have hq65a := own_flat (f := GStep.cells) (sz := 6) (fun _ => rfl) (by decide) hp56.get0
      have hq65b := hp56.get1.1
      refine ⟨_, rfl, ?_⟩
      have hp66 := hp39.madeQ hp56
      simp only [List.cons_append, List.nil_append] at hp66
      by_cases hb_ : ¬ isL ls[k]!
      · obtain rfl := hq65.one_bad hno hb_
        refine OPS.batch 7 {} [] [0, 3, 4, 5, 6, 8, 10] [.slice a n c, .string ((tx ++ (ls[k]!)) ++ (⟨#[10]⟩ : ByteArray)), .int .i64 bd, .slice ao no co, .int .i64 (k : Int), .slice a57 n58 c59, .int .i64 82] .nil (by kernel_rfl) (fun b69 => ?_)
        refine OPS.nil ?_
        refine thn_n ?_
        refine WP.seq ?_
        refine WP.seq ?_
        refine WP.pure { wraps := [65] } [] [0, 3, 4, 5, 6, 8, 65] [.slice a n c, .string ((tx ++ (ls[k]!)) ++ (⟨#[10]⟩ : ByteArray)), .int .i64 bd, .slice ao no co, .int .i64 (k : Int), .slice a57 n58 c59, .bool true] .nil (by kernel_rfl) (fun b70 => ?_)
        refine thn_n ?_
        refine WP.condT rfl ?_
        refine WP.seq ?_
        refine WP.seq ?_
        refine WP.pure {} [] [0, 3, 4, 5, 6, 67] [.slice a n c, .string ((tx ++ (ls[k]!)) ++ (⟨#[10]⟩ : ByteArray)), .int .i64 bd, .slice ao no co, .int .i64 (k : Int), .bool (decide (bd < 0))] .nil (by kernel_rfl) (fun b71 => ?_)
        refine thn_n ?_
        refine WP.test (p := bd < 0) rfl Bp.dec (fun h72 => ?_) (fun h72 => ?_)
        · refine WP.pure {} [] [0, 3, 4, 5, 6] [.slice a n c, .string ((tx ++ (ls[k]!)) ++ (⟨#[10]⟩ : ByteArray)), .int .i64 (k : Int), .slice ao no co, .int .i64 (k : Int)] .nil (by kernel_rfl) (fun b73 => ?_)
          refine thn_n ?_
          refine WP.exit ?_
          refine thn_x ?_
          refine blk_hit ?_
          refine thn_n ?_
          refine WP.pure {} [] [0, 3, 4, 5, 6] [.slice a n c, .string ((tx ++ (ls[k]!)) ++ (⟨#[10]⟩ : ByteArray)), .int .i64 (k : Int), .slice ao no co, .int .i64 ((k : Int) + 1)] (.cons (show Rng .i64 ((k : Int) + 1) from Rng.i64 (by first | omega | (simp only [ByteArray.size_append]; omega))) .nil) (by kernel_rfl) (fun b74 => ?_)
          refine thn_n ?_
          exact ⟨n - (k + 1), (by omega), k + 1, F, c2, x2, ao, no, co, (k : Int), (tx ++ (ls[k]!)) ++ (⟨#[10]⟩ : ByteArray), rfl, ⟨by omega, by omega, by omega, by rw [pt, ByteArray.append_assoc]; exact front_step (by omega), by simp only [ByteArray.size_append]; omega, fun i hi => by by_cases e_ : i = k; subst e_; exact hno; exact pn i (by omega), ps.bad (by omega) h72 hb_⟩, by kernel_rfl, (hp66.sub (.cons _ (.cons _ (.cons_cons _ (.cons_cons _ (.slnil))))))⟩
        · refine WP.skip ?_
          refine thn_n ?_
          refine WP.exit ?_
          refine thn_x ?_
          refine blk_hit ?_
          refine thn_n ?_
          refine WP.pure {} [] [0, 3, 4, 5, 6] [.slice a n c, .string ((tx ++ (ls[k]!)) ++ (⟨#[10]⟩ : ByteArray)), .int .i64 bd, .slice ao no co, .int .i64 ((k : Int) + 1)] (.cons (show Rng .i64 ((k : Int) + 1) from Rng.i64 (by first | omega | (simp only [ByteArray.size_append]; omega))) .nil) (by kernel_rfl) (fun b75 => ?_)
          refine thn_n ?_
          exact ⟨n - (k + 1), (by omega), k + 1, F, c2, x2, ao, no, co, bd, (tx ++ (ls[k]!)) ++ (⟨#[10]⟩ : ByteArray), rfl, ⟨by omega, by omega, by omega, by rw [pt, ByteArray.append_assoc]; exact front_step (by omega), by simp only [ByteArray.size_append]; omega, fun i hi => by by_cases e_ : i = k; subst e_; exact hno; exact pn i (by omega), ps.worse h72⟩, by kernel_rfl, (hp66.sub (.cons _ (.cons _ (.cons_cons _ (.cons_cons _ (.slnil))))))⟩
      · replace hb_ := Classical.not_not.1 hb_
        obtain ⟨hz1_, hz2_, x76, hz3_, ox_, ix_, lx_⟩ := hq65.one_ok hno hb_
        subst hz1_ hz2_ hz3_
        have hc1_ : cl60.length = 1 := hq65b
        have hp77 := hp66
        rw [show Res.sv F61 cl60 [x76] = Res.sv F61 [cl60[0]!] [x76] from by rw [one_of hc1_]] at hp77
        refine OPS.batch 7 {} [] [0, 3, 4, 5, 6, 8, 10] [.slice a n c, .string ((tx ++ (ls[k]!)) ++ (⟨#[10]⟩ : ByteArray)), .int .i64 bd, .slice ao no co, .int .i64 (k : Int), .slice a57 n58 c59, .int .i64 0] .nil (by kernel_rfl) (fun b78 => ?_)
        refine OPS.nil ?_
        refine thn_n ?_
        refine WP.seq ?_
        refine WP.seq ?_
        refine WP.pure { wraps := [65], subs := [64] } [.bool false] [0, 3, 4, 5, 6, 8, 65] [.slice a n c, .string ((tx ++ (ls[k]!)) ++ (⟨#[10]⟩ : ByteArray)), .int .i64 bd, .slice ao no co, .int .i64 (k : Int), .slice a57 n58 c59, .bool false] (.cons (show (.bool (decide (¬ (((n58 : Nat) : Int) = 1))) : Go.Value) = .bool false from congrArg Value.bool (decide_eq_false (fun q_ => q_ (by first | rfl | assumption | omega)))) .nil) (by kernel_rfl) (fun b79 => ?_)
        refine thn_n ?_
        refine WP.condF rfl ?_
        refine WP.skip ?_
        refine thn_n ?_
        refine WP.region _ rfl (by kernel_rfl) ?_
        have := own_flat (sz := 6) (fun _ => rfl) (by decide) hp77.get0
        have hy83 : (cl60)[0]? = some cl60[0]! := get_bang (by first | (first | omega | (simp only [ByteArray.size_append]; omega)) | (simp only [List.length_append, List.length_cons, List.length_nil]; omega) | (simp only [List.length_take, List.length_append, List.length_cons, List.length_nil]; omega))
        refine OPS.batch 4 {} [GStep.val (cl60[0]!)] [0, 3, 4, 6, 69, 72] [.slice a n c, .string ((tx ++ (ls[k]!)) ++ (⟨#[10]⟩ : ByteArray)), .int .i64 bd, .int .i64 (k : Int), .slice ao no co, GStep.val (cl60[0]!)] (.cons (show InB (0) (n58) from ⟨by first | omega | (simp only [ByteArray.size_append]; omega), by first | omega | (simp only [ByteArray.size_append]; omega)⟩) (.cons ((SlR.own (hp77.get0)).some (by first | omega | (simp only [ByteArray.size_append]; omega))) (.cons (Ld.add0 (Ld.elN (P := Tryd.prog) (t := 31) (SlR.own (hp77.get0)).rd 6 (fun _ => rfl) hy83 (o := 0) (cs := [.int .i64 (cl60[0]!.Kind), .int .i64 (cl60[0]!.A), .int .i64 (cl60[0]!.B), .string (cl60[0]!.Key), .slice (cl60[0]!.Value.a) (cl60[0]!.Value.n) (cl60[0]!.Value.c), .slice (cl60[0]!.L.a) (cl60[0]!.L.n) (cl60[0]!.L.c)]) (by kernel_rfl))) .nil))) (by kernel_rfl) (fun b84 => ?_)
        refine OPS.cons (opStep.buildSlice (E := 31) hp77 [.int .i64 (cl60[0]!.Kind), .int .i64 (cl60[0]!.A), .int .i64 (cl60[0]!.B), .string (cl60[0]!.Key), .slice (cl60[0]!.Value.a) (cl60[0]!.Value.n) (cl60[0]!.Value.c), .slice (cl60[0]!.L.a) (cl60[0]!.L.n) (cl60[0]!.L.c)] (by kernel_rfl) (fun g87 w85 hp86 => ?_))
        refine OPS.cons (opStep.append3 [.int .i64 (cl60[0]!.Kind), .int .i64 (cl60[0]!.A), .int .i64 (cl60[0]!.B), .string (cl60[0]!.Key), .slice (cl60[0]!.Value.a) (cl60[0]!.Value.n) (cl60[0]!.Value.c), .slice (cl60[0]!.L.a) (cl60[0]!.L.n) (cl60[0]!.L.c)] hp86 88 (by kernel_rfl) rfl rfl rfl (SlR.row (n := 1) hp86.get0 rfl).rd (List.all_eq_true.1 (by kernel_rfl)) (by decide) (by first | omega | (simp only [ByteArray.size_append]; omega)) (by first | omega | (simp only [ByteArray.size_append]; omega)) (fun a90 c91 w92 hp93 hn94 => ?_))
        rw [(show List.flatMap GStep.cells c2 ++ [.int .i64 (cl60[0]!.Kind), .int .i64 (cl60[0]!.A), .int .i64 (cl60[0]!.B), .string (cl60[0]!.Key), .slice (cl60[0]!.Value.a) (cl60[0]!.Value.n) (cl60[0]!.Value.c), .slice (cl60[0]!.L.a) (cl60[0]!.L.n) (cl60[0]!.L.c)] = List.flatMap GStep.cells (c2 ++ [(⟨cl60[0]!.Kind, cl60[0]!.A, cl60[0]!.B, cl60[0]!.Key, cl60[0]!.Value, cl60[0]!.L⟩ : GStep)]) from (List.flatMap_append (xs := c2) (ys := [(⟨cl60[0]!.Kind, cl60[0]!.A, cl60[0]!.B, cl60[0]!.Key, cl60[0]!.Value, cl60[0]!.L⟩ : GStep)])).symm)] at hp93
        refine OPS.batch 1 {} [] [0, 3, 4, 5, 6] [.slice a n c, .string ((tx ++ (ls[k]!)) ++ (⟨#[10]⟩ : ByteArray)), .int .i64 bd, .slice a90 (no + 1) c91, .int .i64 (k : Int)] .nil (by kernel_rfl) (fun b95 => ?_)
        refine OPS.nil ?_
        refine blk_n ?_
        refine thn_n ?_
        refine WP.pure {} [] [0, 3, 4, 5, 6] [.slice a n c, .string ((tx ++ (ls[k]!)) ++ (⟨#[10]⟩ : ByteArray)), .int .i64 bd, .slice a90 (no + 1) c91, .int .i64 ((k : Int) + 1)] (.cons (show Rng .i64 ((k : Int) + 1) from Rng.i64 (by first | omega | (simp only [ByteArray.size_append]; omega))) .nil) (by kernel_rfl) (fun b96 => ?_)
        refine thn_n ?_
        have hp97 := hp93.pull2
        have hp98 := hp97.pull4
        have hp99 := hp98.pull1
        have hp100 := hp99.svPush
        exact ⟨n - (k + 1), (by omega), k + 1, fun k => F k ∨ F61 k, c2 ++ [(⟨cl60[0]!.Kind, cl60[0]!.A, cl60[0]!.B, cl60[0]!.Key, cl60[0]!.Value, cl60[0]!.L⟩ : GStep)], x2 ++ [x76], a90, no + 1, c91, bd, (tx ++ (ls[k]!)) ++ (⟨#[10]⟩ : ByteArray), rfl, ⟨by omega, by omega, by rw [List.length_append, List.length_singleton]; omega, by rw [pt, ByteArray.append_assoc]; exact front_step (by omega), by simp only [ByteArray.size_append]; omega, fun i hi => by by_cases e_ : i = k; subst e_; exact hno; exact pn i (by omega), ps.more (by omega) ox_ ix_ lx_⟩, by kernel_rfl, (((hp100.pull0).pull3).sub (.cons_cons _ (.cons_cons _ (.cons _ (.cons _ (.slnil))))))⟩
  · refine WP.exit ?_
    refine thn_x ?_
    refine thn_x ?_
    refine blk_hit ?_
    refine thn_n ?_
    refine WP.seq ?_
    refine WP.region _ rfl (by kernel_rfl) ?_
    refine OPS.batch 1 {} [] [4, 5, 76] [.int .i64 bd, .slice ao no co, .string tx] .nil (by kernel_rfl) (fun b101 => ?_)
    refine OPS.cons (opStep.call (some 77) [.string tx] (by kernel_rfl) (sc_Parse tx (by first | omega | (rw [ByteArray.size_append]; omega)) (fun x hx => by rw [pt, front_lines (take_all (fun i hi => pn i hi) (by omega))] at hx; exact Nat.le_trans (hlz2 _ (List.mem_of_mem_take hx)) (by decide)) _ (hls.fram hp31.fr)) ?_)
    rintro _ w104 ⟨a106, n107, c108, cl109, F110, xs111, m112, e113, rfl, hq114, hp105⟩
    have hq114a := own_flat (f := GStep.cells) (sz := 6) (fun _ => rfl) (by decide) hp105.get0
    have hq114b := hp105.get1.1
    refine ⟨_, rfl, ?_⟩
    have hp115 := hp31.madeQ hp105
    simp only [List.cons_append, List.nil_append] at hp115
    have hE := ps.fin (by omega) pb (take_all (fun i hi => pn i hi) (by omega)) (pt ▸ hq114)
    refine OPS.batch 7 {} [] [4, 5, 11, 12, 13] [.int .i64 bd, .slice ao no co, .slice a106 n107 c108, .int .i64 m112, .int .i64 e113] .nil (by kernel_rfl) (fun b118 => ?_)
    refine OPS.nil ?_
    refine thn_n ?_
    refine WP.seq ?_
    refine WP.seq ?_
    refine WP.pure {} [] [4, 5, 11, 12, 13, 82] [.int .i64 bd, .slice ao no co, .slice a106 n107 c108, .int .i64 m112, .int .i64 e113, .bool (decide (0 ≤ bd))] .nil (by kernel_rfl) (fun b119 => ?_)
    refine thn_n ?_
    refine WP.test (p := 0 ≤ bd) rfl Bp.dec (fun h120 => ?_) (fun h120 => ?_)
    · refine WP.seq ?_
      obtain ⟨g1, g2, g3⟩ := hE.1 (by omega)
      have g4 := congrArg List.length g3
      simp only [List.length_nil] at g4
      refine WP.pure { wraps := [89, 94], subs := [84, 88, 93] } [.bool true, .bool true, .bool true] [2] [.bool true] (.cons (show (.bool (decide (e113 = 82)) : Go.Value) = .bool true from congrArg Value.bool (decide_eq_true (by first | rfl | assumption | omega))) (.cons (show (.bool (decide (m112 = bd)) : Go.Value) = .bool true from congrArg Value.bool (decide_eq_true (by first | rfl | assumption | omega))) (.cons (show (.bool (decide (((n107 : Nat) : Int) = 0)) : Go.Value) = .bool true from congrArg Value.bool (decide_eq_true (by first | rfl | assumption | omega))) .nil))) (by kernel_rfl) (fun b121 => ?_)
      refine thn_n ?_
      refine WP.ret ?_
      refine thn_r ?_
      refine bodyQ.of _ rfl [.bool true] ⟨rfl, trivial⟩ ?_
      exact ⟨rfl, hp115.fr⟩
    · refine WP.skip ?_
      refine thn_n ?_
      refine WP.seq ?_
      obtain ⟨g1, g2, g3, g4, g5⟩ := hE.2 (by omega)
      have g6 := congrArg List.length g4
      rw [List.length_map, List.length_take] at g6
      have g7 := congrArg List.length g3
      refine WP.region _ rfl (by kernel_rfl) ?_
      refine OPS.batch 9 { wraps := [100], subs := [96, 99] } [.bool true, .bool true] [101, 102, 103] [.bool true, .slice a106 n107 c108, .slice ao no co] (.cons (show (.bool (decide (e113 = 0)) : Go.Value) = .bool true from congrArg Value.bool (decide_eq_true (by first | rfl | assumption | omega))) (.cons (show (.bool (decide (m112 = 0)) : Go.Value) = .bool true from congrArg Value.bool (decide_eq_true (by first | rfl | assumption | omega))) .nil)) (by kernel_rfl) (fun b122 => ?_)
      refine OPS.want (by kernel_rfl) ?_
      refine OPS.cons (opStep.call (some 104) [.slice a106 n107 c108, .slice ao no co] (by kernel_rfl) (sb_sames cl109 c2 xs111 a106 ao n107 no c108 co _ (own_flat (f := GStep.cells) (sz := 6) (fun _ => rfl) (by decide) hp115.get0).symm (own_flat (f := GStep.cells) (sz := 6) (fun _ => rfl) (by decide) hp115.get2).symm (by have h_ := (own_flat (f := GStep.cells) (sz := 6) (fun _ => rfl) (by decide) hp115.get0); omega) (SlR.own hp115.get0) (SlR.own hp115.get2) (hp115.get1).tr (by rw [g3]; exact (hp115.get3).tr) (fun i hi => by rw [g3] at hi ⊢; have h_ := (mem_all (sl_sm g4 g5 hlz2) hi).2.2.2; omega)) ?_)
      rintro _ w125 ⟨rfl, hf126⟩
      refine ⟨_, rfl, ?_⟩
      have hp127 := hp115.step hf126
      refine OPS.batch 2 { wraps := [105] } [] [2] [.bool true] .nil (by kernel_rfl) (fun b128 => ?_)
      refine OPS.nil ?_
      refine thn_n ?_
      refine WP.ret ?_
      refine bodyQ.of _ rfl [.bool true] ⟨rfl, trivial⟩ ?_
      exact ⟨rfl, hp127.fr⟩

end Go.Proofs.YtbpedjefoajegaaDoor.K
