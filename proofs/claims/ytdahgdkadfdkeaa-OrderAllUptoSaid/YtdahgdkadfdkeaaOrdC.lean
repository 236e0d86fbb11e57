/- The walks of OrdC: what each function computes. -/
import Derived.Test.YtdahgdkadfdkeaaProg
import Derived.Test.YtdahgdkadfdkeaaCoreO
import Derived.Test.YtdahgdkadfdkeaaOrdA
namespace Go.Proofs.Ytdahgdkadfdkeaa.K
open Go Go.Proofs Go.RowKit
set_option linter.unusedVariables false
set_option linter.unusedSimpArgs false
set_option maxRecDepth 20000
set_option maxHeartbeats 4000000

theorem o_told2 (l : List GCall) (a : Option Addr) (n c : Nat) (w : World) (hn : n = l.length) (hb : l.length ≤ 8796093022207) (hs : SlR w a n (l.flatMap GCall.cells)) (o : List Int) (ao : Option Addr) (no co : Nat) (hno : no = o.length) (hbo : o.length ≤ 9223372036854775807) (hso : SlR w ao no (List.flatMap (fun (y : Int) => [Go.Value.int .i64 y]) o)) (w0 : World) (hf : Fram Non w0 w) (hin : ∀ j, j < o.length → 0 ≤ o[j]! ∧ o[j]! < (l.length : Int)) (hv : ∀ y ∈ l, VB w0 y.Value) (hvn : ∀ y ∈ l, y.Value.n ≤ 8796093022207000) : Calls Try.prog 73 #[.slice a n c, .slice ao no co] w (fun r_ w' => ∃ f_, r_ = .returned (.bool f_) ∧ Bp f_ (toldP w0 l o) ∧ Fram Non w w') :=
  (o_told l a n c w hn hb hs o ao no co hno hbo hso hin (fun y hy => (hv y hy).at' hf) hvn).mono fun _ _ ⟨f, e1, e2, e3⟩ => ⟨f, e1, Bp.of e2 (told_fram hf hv hin), e3⟩
theorem o_Check (l : List GCall) (a : Option Addr) (n c : Nat) (w : World) (hn : n = l.length) (hb : l.length ≤ 8796093022207) (hs : SlR w a n (l.flatMap GCall.cells)) (o : List Int) (ao : Option Addr) (no co : Nat) (hno : no = o.length) (hbo : o.length ≤ 9223372036854775807) (hso : SlR w ao no (List.flatMap (fun (y : Int) => [Go.Value.int .i64 y]) o)) (hv : ∀ y ∈ l, VB w y.Value) (hvn : ∀ y ∈ l, y.Value.n ≤ 8796093022207000) :
    Calls Try.prog 28 #[.slice a n c, .slice ao no co] w (fun r_ w' => r_ = .returned (.int .i64 (chkO w l o)) ∧ Fram Non w w') := by
  refine calls_of Try.func28 rfl 24 rfl (by simp) ?_
  have hp0 := Hp.init w
  have he0 : List.map (env0 [.slice a n c, .slice ao no co]) [0, 1] = [.slice a n c, .slice ao no co] := by kernel_rfl
  obtain ⟨b0, he0⟩ := toMk he0
  rw [he0]
  clear he0
  refine WP.seq ?_
  refine WP.pure {} [] [0, 1] [.slice a n c, .slice ao no co] .nil (by kernel_rfl) (fun b1 => ?_)
  refine thn_n ?_
  refine WP.seq ?_
  refine WP.seq ?_
  refine WP.region _ rfl (by kernel_rfl) ?_
  refine OPS.batch 1 {} [] [0, 1, 5] [.slice a n c, .slice ao no co, .slice a n c] .nil (by kernel_rfl) (fun b2 => ?_)
  refine OPS.cons (opStep.call (some 6) [.slice a n c] (by kernel_rfl) (o_fit l _ _ _ _ (by omega) (by omega) (hs.at hp0)) ?_)
  rintro _ w5 ⟨b8, rfl, hb9, hf6⟩
  refine ⟨_, rfl, ?_⟩
  have hp7 := hp0.step hf6
  refine OPS.batch 1 {} [] [0, 1, 7] [.slice a n c, .slice ao no co, .bool (!b8)] .nil (by kernel_rfl) (fun b10 => ?_)
  refine OPS.nil ?_
  refine thn_n ?_
  refine WP.test (p := ¬ (fitP l)) rfl (Bp.not hb9) (fun h11 => ?_) (fun h11 => ?_)
  · refine WP.seq ?_
    refine WP.pure {} [] [4] [.int .i64 1] .nil (by kernel_rfl) (fun b12 => ?_)
    refine thn_n ?_
    refine WP.ret ?_
    refine thn_r ?_
    refine bodyQ.of _ rfl [.int .i64 1] ⟨rfl, trivial⟩ ?_
    exact ⟨by simp only [pack]; rw [chkO_1 h11], hp7.fr⟩
  · replace h11 := Classical.not_not.1 h11
    refine WP.skip ?_
    refine thn_n ?_
    refine WP.seq ?_
    refine WP.cut (fun e51 w52 => ∃ (x49 : Bool), (True) ∧ Bp x49 (((¬ (wholeP l o))) ∨ ((wholeP l o) ∧ (¬ (timelyP l o))) ∨ ((wholeP l o) ∧ (timelyP l o) ∧ (¬ (toldP w l o)))) ∧ List.map e51 [23] = [.bool x49] ∧ Hp w Non [] w52) ?_ ?_
    · refine WP.region _ rfl (by kernel_rfl) ?_
      refine OPS.batch 2 {} [] [0, 1, 8, 9] [.slice a n c, .slice ao no co, .slice a n c, .slice ao no co] .nil (by kernel_rfl) (fun b14 => ?_)
      refine OPS.cons (opStep.call (some 10) [.slice a n c, .slice ao no co] (by kernel_rfl) (o_whole l _ _ _ _ (by omega) (by omega) (hs.at hp7) o _ _ _ (by omega) (by omega) (hso.at hp7)) ?_)
      rintro _ w17 ⟨b20, rfl, hb21, hf18⟩
      refine ⟨_, rfl, ?_⟩
      have hp19 := hp7.step hf18
      refine OPS.batch 2 {} [] [0, 1, 12] [.slice a n c, .slice ao no co, .bool (!b20)] .nil (by kernel_rfl) (fun b22 => ?_)
      by_cases h23 : wholeP l o
      · refine OPS.batch 0 {} [] [0, 1, 12] [.slice a n c, .slice ao no co, .bool (!b20)] .nil (by kernel_rfl) (fun b26 => ?_)
        refine OPS.re [.slice a n c, .slice ao no co, .bool false] (by rw [show (!b20) = false from (Bp.not hb21).ff (fun k => k h23)]) ?_
        refine OPS.batch 2 {} [] [0, 1, 12, 13, 14] [.slice a n c, .slice ao no co, .bool false, .slice a n c, .slice ao no co] .nil (by kernel_rfl) (fun b27 => ?_)
        refine OPS.want (by kernel_rfl) ?_
        refine OPS.cons (opStep.call (some 15) [.slice a n c, .slice ao no co] (by kernel_rfl) (o_timely l _ _ _ _ (by omega) (by omega) (hs.at hp19) o _ _ _ (by omega) (by omega) (hso.at hp19) (fun j hj => ⟨(h23.1 j hj).1, (h23.1 j hj).2.1⟩)) ?_)
        rintro _ w30 ⟨b33, rfl, hb34, hf31⟩
        refine ⟨_, rfl, ?_⟩
        have hp32 := hp19.step hf31
        refine OPS.batch 3 { wraps := [17] } [] [0, 1, 18] [.slice a n c, .slice ao no co, .bool (!b33)] .nil (by kernel_rfl) (fun b35 => ?_)
        by_cases h36 : timelyP l o
        · refine OPS.batch 0 {} [] [0, 1, 18] [.slice a n c, .slice ao no co, .bool (!b33)] .nil (by kernel_rfl) (fun b39 => ?_)
          refine OPS.re [.slice a n c, .slice ao no co, .bool false] (by rw [show (!b33) = false from (Bp.not hb34).ff (fun k => k h36)]) ?_
          refine OPS.batch 2 {} [] [18, 19, 20] [.bool false, .slice a n c, .slice ao no co] .nil (by kernel_rfl) (fun b40 => ?_)
          refine OPS.want (by kernel_rfl) ?_
          refine OPS.cons (opStep.call (some 21) [.slice a n c, .slice ao no co] (by kernel_rfl) (o_told2 l _ _ _ _ (by omega) (by omega) (hs.at hp32) o _ _ _ (by omega) (by omega) (hso.at hp32) w hp32.fr (fun j hj => ⟨(h23.1 j hj).1, (h23.1 j hj).2.1⟩) hv hvn) ?_)
          rintro _ w43 ⟨b46, rfl, hb47, hf44⟩
          refine ⟨_, rfl, ?_⟩
          have hp45 := hp32.step hf44
          refine OPS.batch 2 { wraps := [23] } [] [23] [.bool (!b46)] .nil (by kernel_rfl) (fun b48 => ?_)
          refine OPS.nil ?_
          refine thn_n ?_
          exact ⟨!b46, trivial, Bp.of (Bp.not hb47) (by first | (simp only [h23, h36, iff_false, false_iff, iff_true, true_iff, Classical.not_not, and_true, true_and, and_false, false_and, or_true, true_or, or_false, false_or, not_true_eq_false, not_false_eq_true, and_self, or_self, iff_self]; done) | (simp [h23, h36]; done) | grind | (simp_all; done)), by kernel_rfl, hp45⟩
        · refine OPS.batch 0 {} [] [0, 1, 18] [.slice a n c, .slice ao no co, .bool (!b33)] .nil (by kernel_rfl) (fun b37 => ?_)
          refine OPS.re [.slice a n c, .slice ao no co, .bool true] (by rw [show (!b33) = true from (Bp.not hb34).tt h36]) ?_
          refine OPS.batch 5 { wraps := [23] } [] [23] [.bool true] .nil (by kernel_rfl) (fun b38 => ?_)
          refine OPS.nil ?_
          refine thn_n ?_
          exact ⟨true, trivial, Bp.of Bp.t (by first | (simp only [h23, h36, iff_false, false_iff, iff_true, true_iff, Classical.not_not, and_true, true_and, and_false, false_and, or_true, true_or, or_false, false_or, not_true_eq_false, not_false_eq_true, and_self, or_self, iff_self]; done) | (simp [h23, h36]; done) | grind | (simp_all; done)), by kernel_rfl, hp32⟩
      · refine OPS.batch 0 {} [] [0, 1, 12] [.slice a n c, .slice ao no co, .bool (!b20)] .nil (by kernel_rfl) (fun b24 => ?_)
        refine OPS.re [.slice a n c, .slice ao no co, .bool true] (by rw [show (!b20) = true from (Bp.not hb21).tt h23]) ?_
        refine OPS.batch 11 { wraps := [17, 23] } [] [23] [.bool true] .nil (by kernel_rfl) (fun b25 => ?_)
        refine OPS.nil ?_
        refine thn_n ?_
        exact ⟨true, trivial, Bp.of Bp.t (by first | (simp only [h23, iff_false, false_iff, iff_true, true_iff, Classical.not_not, and_true, true_and, and_false, false_and, or_true, true_or, or_false, false_or, not_true_eq_false, not_false_eq_true, and_self, or_self, iff_self]; done) | (simp [h23]; done) | grind | (simp_all; done)), by kernel_rfl, hp19⟩
    rintro e51 w52 ⟨x49, hd54, hb50, hE55, hp53⟩
    obtain ⟨b56, rfl⟩ := toMk hE55
    clear hE55
    clear hd54
    refine WP.test (p := ((¬ (wholeP l o))) ∨ ((wholeP l o) ∧ (¬ (timelyP l o))) ∨ ((wholeP l o) ∧ (timelyP l o) ∧ (¬ (toldP w l o)))) rfl hb50 (fun h57 => ?_) (fun h57 => ?_)
    · refine WP.seq ?_
      refine WP.pure {} [] [4] [.int .i64 81] .nil (by kernel_rfl) (fun b58 => ?_)
      refine thn_n ?_
      refine WP.ret ?_
      refine thn_r ?_
      refine bodyQ.of _ rfl [.int .i64 81] ⟨rfl, trivial⟩ ?_
      exact ⟨by simp only [pack]; rw [chkO_81 h11 (by have h_ := h57; grind)], hp53.fr⟩
    · refine WP.skip ?_
      refine thn_n ?_
      refine WP.seq ?_
      refine WP.pure {} [] [4] [.int .i64 0] .nil (by kernel_rfl) (fun b59 => ?_)
      refine thn_n ?_
      refine WP.ret ?_
      refine bodyQ.of _ rfl [.int .i64 0] ⟨rfl, trivial⟩ ?_
      have hall : wholeP l o ∧ timelyP l o ∧ toldP w l o := by have h_ := h57; grind
      exact ⟨by simp only [pack]; rw [chkO_0 h11 hall.1 hall.2.1 hall.2.2], hp53.fr⟩

end Go.Proofs.Ytdahgdkadfdkeaa.K
