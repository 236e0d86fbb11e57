/- The walks of PlayB: what each function computes. -/
import Derived.Test.YthdkbbpiaeaojaaProg
import Derived.Test.YthdkbbpiaeaojaaCoreO
import Derived.Test.YthdkbbpiaeaojaaPlayA
import Derived.Test.YthdkbbpiaeaojaaQuoZ
import Derived.Test.YthdkbbpiaeaojaaQuoL
import Derived.Test.YthdkbbpiaeaojaaCoreT
import Derived.Test.YthdkbbpiaeaojaaCoreV
namespace Go.Proofs.Ythdkbbpiaeaojaa.K
open Go Go.Proofs Go.RowKit
set_option linter.unusedVariables false
set_option linter.unusedSimpArgs false
set_option maxRecDepth 20000
set_option maxHeartbeats 4000000

theorem q_List_nil (w : World) :
    Calls Try.prog 38 #[.pointer none] w (fun r_ w' => r_ = .returned (.slice none 0 0) ∧ Fram Non w w') := by
  refine calls_of Try.func38 rfl 5 rfl (by simp) ?_
  have hp0 := Hp.init w
  have he0 : List.map (env0 [.pointer none]) [0] = [.pointer none] := by kernel_rfl
  obtain ⟨b0, he0⟩ := toMk he0
  rw [he0]
  clear he0
  refine WP.seq ?_
  refine WP.pure {} [] [0] [.pointer none] .nil (by kernel_rfl) (fun b1 => ?_)
  refine thn_n ?_
  refine WP.seq ?_
  refine WP.region _ rfl (by kernel_rfl) ?_
  refine OPS.batch 1 {} [] [3] [.pointer none] .nil (by kernel_rfl) (fun b2 => ?_)
  refine OPS.cons (opStep.call (some 4) [.pointer none, .bool true] (by kernel_rfl) (q_those_nil _ true) ?_)
  rintro _ w5 ⟨rfl, hf6⟩
  refine ⟨_, rfl, ?_⟩
  have hp7 := hp0.step hf6
  refine OPS.batch 1 {} [] [2] [.slice none 0 0] .nil (by kernel_rfl) (fun b8 => ?_)
  refine OPS.nil ?_
  refine thn_n ?_
  refine WP.ret ?_
  refine bodyQ.of _ rfl [.slice none 0 0] ⟨rfl, trivial⟩ ?_
  exact ⟨rfl, hp7.fr⟩

theorem q_Rest_nil (w : World) :
    Calls Try.prog 39 #[.pointer none] w (fun r_ w' => r_ = .returned (.slice none 0 0) ∧ Fram Non w w') := by
  refine calls_of Try.func39 rfl 5 rfl (by simp) ?_
  have hp0 := Hp.init w
  have he0 : List.map (env0 [.pointer none]) [0] = [.pointer none] := by kernel_rfl
  obtain ⟨b0, he0⟩ := toMk he0
  rw [he0]
  clear he0
  refine WP.seq ?_
  refine WP.pure {} [] [0] [.pointer none] .nil (by kernel_rfl) (fun b1 => ?_)
  refine thn_n ?_
  refine WP.seq ?_
  refine WP.region _ rfl (by kernel_rfl) ?_
  refine OPS.batch 1 {} [] [3] [.pointer none] .nil (by kernel_rfl) (fun b2 => ?_)
  refine OPS.cons (opStep.call (some 4) [.pointer none, .bool false] (by kernel_rfl) (q_those_nil _ false) ?_)
  rintro _ w5 ⟨rfl, hf6⟩
  refine ⟨_, rfl, ?_⟩
  have hp7 := hp0.step hf6
  refine OPS.batch 1 {} [] [2] [.slice none 0 0] .nil (by kernel_rfl) (fun b8 => ?_)
  refine OPS.nil ?_
  refine thn_n ?_
  refine WP.ret ?_
  refine bodyQ.of _ rfl [.slice none 0 0] ⟨rfl, trivial⟩ ?_
  exact ⟨rfl, hp7.fr⟩

theorem set_getQ {α : Type} [Inhabited α] {l : List α} {i j : Nat} {x : α} (hi : i < l.length) : (l.set i x)[j]! = if j = i then x else l[j]! := by
  rw [List.getElem!_eq_getElem?_getD, List.getElem!_eq_getElem?_getD, List.getElem?_set]
  by_cases h : i = j
  · subst h; simp [hi]
  · have : ¬ j = i := fun e => h e.symm
    simp [h, this]
theorem app_bangQ {α : Type} [Inhabited α] {l : List α} {x : α} {i : Nat} (h : i < l.length + 1) : (l ++ [x])[i]! = if i < l.length then l[i]! else x := by
  rw [List.getElem!_eq_getElem?_getD, List.getElem!_eq_getElem?_getD, List.getElem?_append]
  by_cases h1 : i < l.length
  · simp [h1]
  · obtain rfl : i = l.length := by omega
    simp
def modQ (n k : Int) : Int := (n.tmod k + k).tmod k
theorem modQ_bd (n : Int) {k : Int} (h : 0 < k) : 0 ≤ modQ n k ∧ modQ n k < k := by
  unfold modQ
  have h2 := Int.tmod_lt_of_pos (-n) h
  rw [Int.neg_tmod] at h2
  exact ⟨Int.tmod_nonneg _ (by omega), Int.tmod_lt_of_pos _ h⟩
theorem all_set {zs : List Int} {v : Int} {k : Nat} (hk : k < zs.length) (h : ∀ j, j < k → zs[j]! = v) : ∀ j, j < k + 1 → (zs.set k v)[j]! = v := fun j hj => by
  rw [set_getQ hk]
  split
  · rfl
  · exact h j (by omega)
theorem all_more {zs : List Int} {v : Int} {n k : Nat} (hn : zs.length = n) (h : ∀ j, j < n → zs[j]! = v) (hk : k < n + 1) : (zs ++ [v])[k]! = v := by
  rw [app_bangQ (by omega)]
  split
  · exact h k (by omega)
  · rfl

theorem same_nil (w : World) :
    Calls Try.prog 51 #[.pointer none, .pointer none] w (fun x w' => x = .returned (.bool true) ∧ Fram Non w w') := by
  refine calls_of Try.func51 rfl 104 rfl (by simp) ?_
  have hp0 := Hp.init w
  have he0 : List.map (env0 [.pointer none, .pointer none]) [0, 1] = [.pointer none, .pointer none] := by kernel_rfl
  obtain ⟨b0, he0⟩ := toMk he0
  rw [he0]
  clear he0
  refine WP.seq ?_
  refine WP.pure {} [] [0, 1] [.pointer none, .pointer none] .nil (by kernel_rfl) (fun b1 => ?_)
  refine thn_n ?_
  refine WP.seq ?_
  refine WP.cut (fun e35 w36 => ∃ (x33 : Bool), (True) ∧ Bp x33 (((¬ (((True) ↔ (True))))) ∨ (((True) ↔ (True)) ∧ (¬ (((False) ↔ (False)))))) ∧ List.map e35 [0, 1, 33] = [.pointer none, .pointer none, .bool x33] ∧ Hp w Non [] w36) ?_ ?_
  · refine WP.region _ rfl (by kernel_rfl) ?_
    refine OPS.batch 6 {} [] [0, 1, 20] [.pointer none, .pointer none, .bool (!(true == true))] .nil (by kernel_rfl) (fun b3 => ?_)
    by_cases h4 : ((True) ↔ (True))
    · refine OPS.batch 0 {} [] [0, 1, 20] [.pointer none, .pointer none, .bool (!(true == true))] .nil (by kernel_rfl) (fun b7 => ?_)
      refine OPS.re [.pointer none, .pointer none, .bool false] (by rw [show (!(true == true)) = false from (Bp.not (Bp.beq Bp.t Bp.t)).ff (fun k => k h4)]) ?_
      refine OPS.batch 1 {} [] [0, 1, 20, 21] [.pointer none, .pointer none, .bool false, .pointer none] .nil (by kernel_rfl) (fun b8 => ?_)
      refine OPS.want (by kernel_rfl) ?_
      refine OPS.cons (opStep.call (some 22) [.pointer none] (by kernel_rfl) (q_Len_nil _) ?_)
      rintro _ w11 ⟨rfl, hf12⟩
      refine ⟨_, rfl, ?_⟩
      have hp13 := hp0.step hf12
      refine OPS.batch 1 {} [] [0, 1, 20, 22, 23] [.pointer none, .pointer none, .bool false, .int .i64 0, .pointer none] .nil (by kernel_rfl) (fun b14 => ?_)
      refine OPS.want (by kernel_rfl) ?_
      refine OPS.cons (opStep.call (some 24) [.pointer none] (by kernel_rfl) (r_Len_nil _) ?_)
      rintro _ w17 ⟨rfl, hf18⟩
      refine ⟨_, rfl, ?_⟩
      have hp19 := hp13.step hf18
      refine OPS.batch 4 { wraps := [26] } [] [0, 1, 27, 28] [.pointer none, .pointer none, .bool false, .pointer none] .nil (by kernel_rfl) (fun b20 => ?_)
      refine OPS.want (by kernel_rfl) ?_
      refine OPS.cons (opStep.call (some 29) [.pointer none] (by kernel_rfl) (q_Met_nil _) ?_)
      rintro _ w23 ⟨rfl, hf24⟩
      refine ⟨_, rfl, ?_⟩
      have hp25 := hp19.step hf24
      refine OPS.batch 1 {} [] [0, 1, 27, 29, 30] [.pointer none, .pointer none, .bool false, .bool false, .pointer none] .nil (by kernel_rfl) (fun b26 => ?_)
      refine OPS.want (by kernel_rfl) ?_
      refine OPS.cons (opStep.call (some 31) [.pointer none] (by kernel_rfl) (r_Met_nil _) ?_)
      rintro _ w29 ⟨rfl, hf30⟩
      refine ⟨_, rfl, ?_⟩
      have hp31 := hp25.step hf30
      refine OPS.batch 2 { wraps := [33] } [] [0, 1, 33] [.pointer none, .pointer none, .bool (!(false == false))] .nil (by kernel_rfl) (fun b32 => ?_)
      refine OPS.nil ?_
      refine thn_n ?_
      exact ⟨!(false == false), trivial, Bp.of (Bp.not (Bp.beq Bp.f Bp.f)) (by first | (simp only [h4, iff_false, false_iff, iff_true, true_iff, Classical.not_not, and_true, true_and, and_false, false_and, or_true, true_or, or_false, false_or, not_true_eq_false, not_false_eq_true, and_self, or_self, iff_self]; done) | (simp [h4]; done) | simp_all), by kernel_rfl, hp31⟩
    · refine OPS.batch 0 {} [] [0, 1, 20] [.pointer none, .pointer none, .bool (!(true == true))] .nil (by kernel_rfl) (fun b5 => ?_)
      refine OPS.re [.pointer none, .pointer none, .bool true] (by rw [show (!(true == true)) = true from (Bp.not (Bp.beq Bp.t Bp.t)).tt h4]) ?_
      refine OPS.batch 13 { wraps := [26, 33] } [] [0, 1, 33] [.pointer none, .pointer none, .bool true] .nil (by kernel_rfl) (fun b6 => ?_)
      refine OPS.nil ?_
      refine thn_n ?_
      exact ⟨true, trivial, Bp.of Bp.t (by first | (simp only [h4, iff_false, false_iff, iff_true, true_iff, Classical.not_not, and_true, true_and, and_false, false_and, or_true, true_or, or_false, false_or, not_true_eq_false, not_false_eq_true, and_self, or_self, iff_self]; done) | (simp [h4]; done) | simp_all), by kernel_rfl, hp0⟩
  rintro e35 w36 ⟨x33, hd38, hb34, hE39, hp37⟩
  obtain ⟨b40, rfl⟩ := toMk hE39
  clear hE39
  clear hd38
  refine WP.test (p := ((¬ (((True) ↔ (True))))) ∨ (((True) ↔ (True)) ∧ (¬ (((False) ↔ (False)))))) rfl hb34 (fun h41 => ?_) (fun h41 => ?_)
  · refine WP.seq ?_
    refine WP.pure {} [] [4] [.bool false] .nil (by kernel_rfl) (fun b42 => ?_)
    refine thn_n ?_
    refine WP.ret ?_
    refine thn_r ?_
    refine bodyQ.of _ rfl [.bool false] ⟨rfl, trivial⟩ ?_
    exfalso
    first | exact h41 rfl | exact h41 Iff.rfl | exact absurd rfl h41 | (simp at h41; done) | (rcases h41 with z | z <;> simp_all; done) | simp_all
  · refine WP.skip ?_
    refine thn_n ?_
    refine WP.seq ?_
    refine WP.region _ rfl (by kernel_rfl) ?_
    refine OPS.batch 1 {} [] [0, 1, 34] [.pointer none, .pointer none, .pointer none] .nil (by kernel_rfl) (fun b43 => ?_)
    refine OPS.cons (opStep.call (some 35) [.pointer none] (by kernel_rfl) (r_List_nil _) ?_)
    rintro _ w46 ⟨rfl, hf47⟩
    refine ⟨_, rfl, ?_⟩
    have hp48 := hp37.step hf47
    refine OPS.batch 1 {} [] [0, 1, 5] [.pointer none, .pointer none, .slice none 0 0] .nil (by kernel_rfl) (fun b49 => ?_)
    refine OPS.nil ?_
    refine thn_n ?_
    refine WP.seq ?_
    refine WP.region _ rfl (by kernel_rfl) ?_
    refine OPS.batch 1 {} [] [0, 5, 36] [.pointer none, .slice none 0 0, .pointer none] .nil (by kernel_rfl) (fun b50 => ?_)
    refine OPS.cons (opStep.call (some 37) [.pointer none] (by kernel_rfl) (r_Rest_nil _) ?_)
    rintro _ w53 ⟨rfl, hf54⟩
    refine ⟨_, rfl, ?_⟩
    have hp55 := hp48.step hf54
    refine OPS.batch 1 {} [] [0, 5, 6] [.pointer none, .slice none 0 0, .slice none 0 0] .nil (by kernel_rfl) (fun b56 => ?_)
    refine OPS.nil ?_
    refine thn_n ?_
    refine WP.seq ?_
    refine WP.region _ rfl (by kernel_rfl) ?_
    refine OPS.batch 1 {} [] [0, 5, 6, 38] [.pointer none, .slice none 0 0, .slice none 0 0, .pointer none] .nil (by kernel_rfl) (fun b57 => ?_)
    refine OPS.cons (opStep.call (some 39) [.pointer none] (by kernel_rfl) (q_List_nil _) ?_)
    rintro _ w60 ⟨rfl, hf61⟩
    refine ⟨_, rfl, ?_⟩
    have hp62 := hp55.step hf61
    refine OPS.batch 1 {} [] [0, 5, 6, 7] [.pointer none, .slice none 0 0, .slice none 0 0, .slice none 0 0] .nil (by kernel_rfl) (fun b63 => ?_)
    refine OPS.nil ?_
    refine thn_n ?_
    refine WP.seq ?_
    refine WP.region _ rfl (by kernel_rfl) ?_
    refine OPS.batch 1 {} [] [0, 5, 6, 7, 40] [.pointer none, .slice none 0 0, .slice none 0 0, .slice none 0 0, .pointer none] .nil (by kernel_rfl) (fun b64 => ?_)
    refine OPS.cons (opStep.call (some 41) [.pointer none] (by kernel_rfl) (q_Rest_nil _) ?_)
    rintro _ w67 ⟨rfl, hf68⟩
    refine ⟨_, rfl, ?_⟩
    have hp69 := hp62.step hf68
    refine OPS.batch 1 {} [] [0, 5, 6, 7, 8] [.pointer none, .slice none 0 0, .slice none 0 0, .slice none 0 0, .slice none 0 0] .nil (by kernel_rfl) (fun b70 => ?_)
    refine OPS.nil ?_
    refine thn_n ?_
    refine WP.seq ?_
    refine WP.cut (fun e96 w97 => ∃ (x94 : Bool), (True) ∧ Bp x94 (((¬ (([] : List Int) = ([] : List Int)))) ∨ ((([] : List Int) = ([] : List Int)) ∧ (¬ (([] : List Int) = ([] : List Int))))) ∧ List.map e96 [0, 5, 6, 7, 8, 51] = [.pointer none, .slice none 0 0, .slice none 0 0, .slice none 0 0, .slice none 0 0, .bool x94] ∧ Hp w Non [] w97) ?_ ?_
    · refine WP.region _ rfl (by kernel_rfl) ?_
      refine OPS.batch 2 {} [] [0, 5, 6, 7, 8, 42, 43] [.pointer none, .slice none 0 0, .slice none 0 0, .slice none 0 0, .slice none 0 0, .slice none 0 0, .slice none 0 0] .nil (by kernel_rfl) (fun b72 => ?_)
      refine OPS.cons (opStep.call (some 44) [.slice none 0 0, .slice none 0 0] (by kernel_rfl) (sherdlaw09_sameInts ([] : List Int) ([] : List Int) none none 0 0 0 0 _ (by first | rfl | omega) (by first | rfl | omega) (by first | decide | (simp only [ints_len]; exact Nat.le_trans (sel_le _ _ _) (by omega)) | (simp only [ints_len]; omega)) (SlR.nil _ 0 rfl) (SlR.nil _ 0 rfl)) ?_)
      rintro _ w75 ⟨b78, rfl, hb79, hf76⟩
      refine ⟨_, rfl, ?_⟩
      have hp77 := hp69.step hf76
      refine OPS.batch 2 {} [] [0, 5, 6, 7, 8, 46] [.pointer none, .slice none 0 0, .slice none 0 0, .slice none 0 0, .slice none 0 0, .bool (!b78)] .nil (by kernel_rfl) (fun b80 => ?_)
      by_cases h81 : ([] : List Int) = ([] : List Int)
      · refine OPS.batch 0 {} [] [0, 5, 6, 7, 8, 46] [.pointer none, .slice none 0 0, .slice none 0 0, .slice none 0 0, .slice none 0 0, .bool (!b78)] .nil (by kernel_rfl) (fun b84 => ?_)
        refine OPS.re [.pointer none, .slice none 0 0, .slice none 0 0, .slice none 0 0, .slice none 0 0, .bool false] (by rw [show (!b78) = false from (Bp.not hb79).ff (fun k => k h81)]) ?_
        refine OPS.batch 2 {} [] [0, 5, 6, 7, 8, 46, 47, 48] [.pointer none, .slice none 0 0, .slice none 0 0, .slice none 0 0, .slice none 0 0, .bool false, .slice none 0 0, .slice none 0 0] .nil (by kernel_rfl) (fun b85 => ?_)
        refine OPS.want (by kernel_rfl) ?_
        refine OPS.cons (opStep.call (some 49) [.slice none 0 0, .slice none 0 0] (by kernel_rfl) (sherdlaw09_sameInts ([] : List Int) ([] : List Int) none none 0 0 0 0 _ (by first | rfl | omega) (by first | rfl | omega) (by first | decide | (simp only [ints_len]; exact Nat.le_trans (sel_le _ _ _) (by omega)) | (simp only [ints_len]; omega)) (SlR.nil _ 0 rfl) (SlR.nil _ 0 rfl)) ?_)
        rintro _ w88 ⟨b91, rfl, hb92, hf89⟩
        refine ⟨_, rfl, ?_⟩
        have hp90 := hp77.step hf89
        refine OPS.batch 2 { wraps := [51] } [] [0, 5, 6, 7, 8, 51] [.pointer none, .slice none 0 0, .slice none 0 0, .slice none 0 0, .slice none 0 0, .bool (!b91)] .nil (by kernel_rfl) (fun b93 => ?_)
        refine OPS.nil ?_
        refine thn_n ?_
        exact ⟨!b91, trivial, Bp.of (Bp.not hb92) (by first | (simp only [h81, iff_false, false_iff, iff_true, true_iff, Classical.not_not, and_true, true_and, and_false, false_and, or_true, true_or, or_false, false_or, not_true_eq_false, not_false_eq_true, and_self, or_self, iff_self]; done) | (simp [h81]; done) | simp_all), by kernel_rfl, hp90⟩
      · refine OPS.batch 0 {} [] [0, 5, 6, 7, 8, 46] [.pointer none, .slice none 0 0, .slice none 0 0, .slice none 0 0, .slice none 0 0, .bool (!b78)] .nil (by kernel_rfl) (fun b82 => ?_)
        refine OPS.re [.pointer none, .slice none 0 0, .slice none 0 0, .slice none 0 0, .slice none 0 0, .bool true] (by rw [show (!b78) = true from (Bp.not hb79).tt h81]) ?_
        refine OPS.batch 5 { wraps := [51] } [] [0, 5, 6, 7, 8, 51] [.pointer none, .slice none 0 0, .slice none 0 0, .slice none 0 0, .slice none 0 0, .bool true] .nil (by kernel_rfl) (fun b83 => ?_)
        refine OPS.nil ?_
        refine thn_n ?_
        exact ⟨true, trivial, Bp.of Bp.t (by first | (simp only [h81, iff_false, false_iff, iff_true, true_iff, Classical.not_not, and_true, true_and, and_false, false_and, or_true, true_or, or_false, false_or, not_true_eq_false, not_false_eq_true, and_self, or_self, iff_self]; done) | (simp [h81]; done) | simp_all), by kernel_rfl, hp77⟩
    rintro e96 w97 ⟨x94, hd99, hb95, hE100, hp98⟩
    obtain ⟨b101, rfl⟩ := toMk hE100
    clear hE100
    clear hd99
    refine WP.test (p := ((¬ (([] : List Int) = ([] : List Int)))) ∨ ((([] : List Int) = ([] : List Int)) ∧ (¬ (([] : List Int) = ([] : List Int))))) rfl hb95 (fun h102 => ?_) (fun h102 => ?_)
    · refine WP.seq ?_
      refine WP.pure {} [] [4] [.bool false] .nil (by kernel_rfl) (fun b103 => ?_)
      refine thn_n ?_
      refine WP.ret ?_
      refine thn_r ?_
      refine bodyQ.of _ rfl [.bool false] ⟨rfl, trivial⟩ ?_
      exfalso
      first | exact h102 rfl | exact h102 Iff.rfl | exact absurd rfl h102 | (simp at h102; done) | (rcases h102 with z | z <;> simp_all; done) | simp_all
    · refine WP.skip ?_
      refine thn_n ?_
      refine WP.seq ?_
      refine WP.seq ?_
      refine WP.pure {} [] [0, 5, 6, 7, 8, 53, 54] [.pointer none, .slice none 0 0, .slice none 0 0, .slice none 0 0, .slice none 0 0, .int .i64 0, .int .i64 0] .nil (by kernel_rfl) (fun b104 => ?_)
      refine thn_n ?_
      refine WP.block ?_
      refine WP.rounds 1 ?_
      refine RND.step ?_
      refine WP.seq ?_
      refine WP.pure {} [] [0, 5, 6, 7, 8, 53, 54, 55] [.pointer none, .slice none 0 0, .slice none 0 0, .slice none 0 0, .slice none 0 0, .int .i64 0, .int .i64 0, .bool false] .nil (by kernel_rfl) (fun b105 => ?_)
      refine thn_n ?_
      refine WP.seq ?_
      refine WP.condF rfl ?_
      refine WP.exit ?_
      refine thn_x ?_
      refine thn_x ?_
      refine blk_hit ?_
      refine thn_n ?_
      refine WP.seq ?_
      refine WP.seq ?_
      refine WP.pure {} [] [0, 5, 6, 7, 8, 62, 63] [.pointer none, .slice none 0 0, .slice none 0 0, .slice none 0 0, .slice none 0 0, .int .i64 0, .int .i64 0] .nil (by kernel_rfl) (fun b106 => ?_)
      refine thn_n ?_
      refine WP.block ?_
      refine WP.rounds 1 ?_
      refine RND.step ?_
      refine WP.seq ?_
      refine WP.pure {} [] [0, 5, 6, 7, 8, 62, 63, 64] [.pointer none, .slice none 0 0, .slice none 0 0, .slice none 0 0, .slice none 0 0, .int .i64 0, .int .i64 0, .bool false] .nil (by kernel_rfl) (fun b107 => ?_)
      refine thn_n ?_
      refine WP.seq ?_
      refine WP.condF rfl ?_
      refine WP.exit ?_
      refine thn_x ?_
      refine thn_x ?_
      refine blk_hit ?_
      refine thn_n ?_
      refine WP.seq ?_
      refine WP.region _ rfl (by kernel_rfl) ?_
      refine OPS.batch 1 {} [] [0, 5, 6, 8, 70] [.pointer none, .slice none 0 0, .slice none 0 0, .slice none 0 0, .slice none 0 0] .nil (by kernel_rfl) (fun b108 => ?_)
      refine OPS.cons (opStep.buildSlice (E := 3) hp98 [.int .i64 (-1)] (by kernel_rfl) (fun g111 w109 hp110 => ?_))
      have hp115 := (show Hp w Non [Res.own 3 1 (.slice none 0 0) 0 (List.flatMap (fun (y : Int) => [Go.Value.int .i64 y]) ([] : List Int)), Res.row g111 [.int .i64 (-1)] 3] w109 from hp110.nilOwn 3 1)
      refine OPS.cons (opStep.append0 [.int .i64 (-1)] hp115 8 (by kernel_rfl) rfl rfl rfl (SlR.row (n := 1) hp115.get1 rfl).rd (List.all_eq_true.1 (by kernel_rfl)) (by decide) (by omega) (by omega) (fun a116 c117 w118 hp119 hn120 => ?_))
      rw [(show List.flatMap (fun (y : Int) => [Go.Value.int .i64 y]) ([] : List Int) ++ [.int .i64 (-1)] = List.flatMap (fun (y : Int) => [Go.Value.int .i64 y]) (([] : List Int) ++ [(-1)]) from (List.flatMap_append (xs := ([] : List Int)) (ys := [(-1)])).symm)] at hp119
      refine OPS.batch 1 {} [] [0, 5, 6, 7, 8] [.pointer none, .slice none 0 0, .slice none 0 0, .slice a116 1 c117, .slice none 0 0] .nil (by kernel_rfl) (fun b121 => ?_)
      refine OPS.nil ?_
      refine thn_n ?_
      refine WP.seq ?_
      refine WP.region _ rfl (by kernel_rfl) ?_
      refine OPS.batch 1 {} [] [0, 5, 6, 7, 73] [.pointer none, .slice none 0 0, .slice none 0 0, .slice a116 1 c117, .slice none 0 0] .nil (by kernel_rfl) (fun b122 => ?_)
      refine OPS.cons (opStep.buildSlice (E := 3) hp119 [.int .i64 (-2)] (by kernel_rfl) (fun g125 w123 hp124 => ?_))
      have hp129 := (show Hp w Non [Res.own 3 1 (.slice none 0 0) 0 (List.flatMap (fun (y : Int) => [Go.Value.int .i64 y]) ([] : List Int)), Res.row g125 [.int .i64 (-2)] 3, Res.own 3 1 (.slice a116 1 c117) 1 (List.flatMap (fun (y : Int) => [Go.Value.int .i64 y]) (([] : List Int) ++ [(-1)])), Res.row g111 [.int .i64 (-1)] 3] w123 from hp124.nilOwn 3 1)
      refine OPS.cons (opStep.append0 [.int .i64 (-2)] hp129 8 (by kernel_rfl) rfl rfl rfl (SlR.row (n := 1) hp129.get1 rfl).rd (List.all_eq_true.1 (by kernel_rfl)) (by decide) (by omega) (by omega) (fun a130 c131 w132 hp133 hn134 => ?_))
      rw [(show List.flatMap (fun (y : Int) => [Go.Value.int .i64 y]) ([] : List Int) ++ [.int .i64 (-2)] = List.flatMap (fun (y : Int) => [Go.Value.int .i64 y]) (([] : List Int) ++ [(-2)]) from (List.flatMap_append (xs := ([] : List Int)) (ys := [(-2)])).symm)] at hp133
      refine OPS.batch 1 {} [] [0, 5, 6, 7, 8] [.pointer none, .slice none 0 0, .slice none 0 0, .slice a116 1 c117, .slice a130 1 c131] .nil (by kernel_rfl) (fun b135 => ?_)
      refine OPS.nil ?_
      refine thn_n ?_
      refine WP.seq ?_
      refine WP.seq ?_
      refine WP.pure {} [] [0, 5, 6, 8, 76, 77, 78] [.pointer none, .slice none 0 0, .slice none 0 0, .slice a130 1 c131, .slice a116 1 c117, .int .i64 1, .int .i64 0] .nil (by kernel_rfl) (fun b136 => ?_)
      refine thn_n ?_
      refine WP.block ?_
      refine WP.rounds 2 ?_
      refine RND.step ?_
      refine WP.seq ?_
      refine WP.pure {} [] [0, 5, 6, 8, 76, 77, 78, 79] [.pointer none, .slice none 0 0, .slice none 0 0, .slice a130 1 c131, .slice a116 1 c117, .int .i64 1, .int .i64 0, .bool true] .nil (by kernel_rfl) (fun b137 => ?_)
      refine thn_n ?_
      refine WP.seq ?_
      refine WP.condT rfl ?_
      refine WP.skip ?_
      refine thn_n ?_
      refine WP.seq ?_
      refine WP.block ?_
      refine WP.seq ?_
      have := own_flat (sz := 1) (fun _ => rfl) (by decide) hp133.get2
      have hy139 : (([] : List Int) ++ [(-1)])[0]? = some (([] : List Int) ++ [(-1)])[0]! := get_bang (by first | (omega) | (simp only [List.length_append, List.length_cons, List.length_nil]; omega) | (simp only [List.length_take, List.length_append, List.length_cons, List.length_nil]; omega))
      refine WP.pure {} [.int .i64 ((([] : List Int) ++ [(-1)])[0]!)] [0, 5, 6, 8, 12, 76, 77, 78] [.pointer none, .slice none 0 0, .slice none 0 0, .slice a130 1 c131, .int .i64 ((([] : List Int) ++ [(-1)])[0]!), .slice a116 1 c117, .int .i64 1, .int .i64 0] (.cons (show InB (0) (1) from ⟨by omega, by omega⟩) (.cons ((SlR.own (hp133.get2)).some (by omega)) (.cons (Ld.add0 (Ld.el1 (P := Try.prog) (t := 3) (SlR.own (hp133.get2)).rd 1 (fun _ => rfl) hy139 (o := 0) (v := .int .i64 ((([] : List Int) ++ [(-1)])[0]!)) (by kernel_rfl))) .nil))) (by kernel_rfl) (fun b140 => ?_)
      refine thn_n ?_
      refine WP.seq ?_
      refine WP.pure {} [] [0, 5, 6, 8, 76, 77, 78, 83] [.pointer none, .slice none 0 0, .slice none 0 0, .slice a130 1 c131, .slice a116 1 c117, .int .i64 1, .int .i64 0, .bool (decide (¬ (((([] : List Int) ++ [(-1)])[0]!) = (-1))))] .nil (by kernel_rfl) (fun b141 => ?_)
      refine thn_n ?_
      refine WP.test (p := ¬ (((([] : List Int) ++ [(-1)])[0]!) = (-1))) rfl Bp.dec (fun h142 => ?_) (fun h142 => ?_)
      · refine WP.seq ?_
        refine WP.pure {} [] [4] [.bool false] .nil (by kernel_rfl) (fun b143 => ?_)
        refine thn_n ?_
        refine WP.ret ?_
        refine blk_r ?_
        refine thn_r ?_
        refine thn_r ?_
        refine blk_r ?_
        refine thn_r ?_
        refine bodyQ.of _ rfl [.bool false] ⟨rfl, trivial⟩ ?_
        exfalso
        first | exact h142 rfl | exact h142 Iff.rfl | exact absurd rfl h142 | (simp at h142; done) | (rcases h142 with z | z <;> simp_all; done) | simp_all
      · replace h142 := Classical.not_not.1 h142
        refine WP.skip ?_
        refine blk_n ?_
        refine thn_n ?_
        refine WP.pure {} [] [0, 5, 6, 8, 76, 77, 78] [.pointer none, .slice none 0 0, .slice none 0 0, .slice a130 1 c131, .slice a116 1 c117, .int .i64 1, .int .i64 1] (.cons (show Rng .i64 (1) from Rng.i64 (by omega)) .nil) (by kernel_rfl) (fun b144 => ?_)
        refine thn_n ?_
        refine RND.step ?_
        refine WP.seq ?_
        refine WP.pure {} [] [0, 5, 6, 8, 76, 77, 78, 79] [.pointer none, .slice none 0 0, .slice none 0 0, .slice a130 1 c131, .slice a116 1 c117, .int .i64 1, .int .i64 1, .bool false] .nil (by kernel_rfl) (fun b145 => ?_)
        refine thn_n ?_
        refine WP.seq ?_
        refine WP.condF rfl ?_
        refine WP.exit ?_
        refine thn_x ?_
        refine thn_x ?_
        refine blk_hit ?_
        refine thn_n ?_
        refine WP.seq ?_
        refine WP.seq ?_
        refine WP.pure {} [] [0, 5, 6, 85, 86, 87] [.pointer none, .slice none 0 0, .slice none 0 0, .slice a130 1 c131, .int .i64 1, .int .i64 0] .nil (by kernel_rfl) (fun b146 => ?_)
        refine thn_n ?_
        refine WP.block ?_
        refine WP.rounds 2 ?_
        refine RND.step ?_
        refine WP.seq ?_
        refine WP.pure {} [] [0, 5, 6, 85, 86, 87, 88] [.pointer none, .slice none 0 0, .slice none 0 0, .slice a130 1 c131, .int .i64 1, .int .i64 0, .bool true] .nil (by kernel_rfl) (fun b147 => ?_)
        refine thn_n ?_
        refine WP.seq ?_
        refine WP.condT rfl ?_
        refine WP.skip ?_
        refine thn_n ?_
        refine WP.seq ?_
        refine WP.block ?_
        refine WP.seq ?_
        have := own_flat (sz := 1) (fun _ => rfl) (by decide) hp133.get0
        have hy149 : (([] : List Int) ++ [(-2)])[0]? = some (([] : List Int) ++ [(-2)])[0]! := get_bang (by first | (omega) | (simp only [List.length_append, List.length_cons, List.length_nil]; omega) | (simp only [List.length_take, List.length_append, List.length_cons, List.length_nil]; omega))
        refine WP.pure {} [.int .i64 ((([] : List Int) ++ [(-2)])[0]!)] [0, 5, 6, 14, 85, 86, 87] [.pointer none, .slice none 0 0, .slice none 0 0, .int .i64 ((([] : List Int) ++ [(-2)])[0]!), .slice a130 1 c131, .int .i64 1, .int .i64 0] (.cons (show InB (0) (1) from ⟨by omega, by omega⟩) (.cons ((SlR.own (hp133.get0)).some (by omega)) (.cons (Ld.add0 (Ld.el1 (P := Try.prog) (t := 3) (SlR.own (hp133.get0)).rd 1 (fun _ => rfl) hy149 (o := 0) (v := .int .i64 ((([] : List Int) ++ [(-2)])[0]!)) (by kernel_rfl))) .nil))) (by kernel_rfl) (fun b150 => ?_)
        refine thn_n ?_
        refine WP.seq ?_
        refine WP.pure {} [] [0, 5, 6, 85, 86, 87, 92] [.pointer none, .slice none 0 0, .slice none 0 0, .slice a130 1 c131, .int .i64 1, .int .i64 0, .bool (decide (¬ (((([] : List Int) ++ [(-2)])[0]!) = (-2))))] .nil (by kernel_rfl) (fun b151 => ?_)
        refine thn_n ?_
        refine WP.test (p := ¬ (((([] : List Int) ++ [(-2)])[0]!) = (-2))) rfl Bp.dec (fun h152 => ?_) (fun h152 => ?_)
        · refine WP.seq ?_
          refine WP.pure {} [] [4] [.bool false] .nil (by kernel_rfl) (fun b153 => ?_)
          refine thn_n ?_
          refine WP.ret ?_
          refine blk_r ?_
          refine thn_r ?_
          refine thn_r ?_
          refine blk_r ?_
          refine thn_r ?_
          refine bodyQ.of _ rfl [.bool false] ⟨rfl, trivial⟩ ?_
          exfalso
          first | exact h152 rfl | exact h152 Iff.rfl | exact absurd rfl h152 | (simp at h152; done) | (rcases h152 with z | z <;> simp_all; done) | simp_all
        · replace h152 := Classical.not_not.1 h152
          refine WP.skip ?_
          refine blk_n ?_
          refine thn_n ?_
          refine WP.pure {} [] [0, 5, 6, 85, 86, 87] [.pointer none, .slice none 0 0, .slice none 0 0, .slice a130 1 c131, .int .i64 1, .int .i64 1] (.cons (show Rng .i64 (1) from Rng.i64 (by omega)) .nil) (by kernel_rfl) (fun b154 => ?_)
          refine thn_n ?_
          refine RND.step ?_
          refine WP.seq ?_
          refine WP.pure {} [] [0, 5, 6, 85, 86, 87, 88] [.pointer none, .slice none 0 0, .slice none 0 0, .slice a130 1 c131, .int .i64 1, .int .i64 1, .bool false] .nil (by kernel_rfl) (fun b155 => ?_)
          refine thn_n ?_
          refine WP.seq ?_
          refine WP.condF rfl ?_
          refine WP.exit ?_
          refine thn_x ?_
          refine thn_x ?_
          refine blk_hit ?_
          refine thn_n ?_
          refine WP.cut (fun e191 w192 => ∃ (x189 : Bool), (True) ∧ Bp x189 ((([] : List Int) = ([] : List Int)) ∧ (([] : List Int) = ([] : List Int))) ∧ List.map e191 [4] = [.bool x189] ∧ Hp w Non [Res.own 3 1 (.slice a130 1 c131) 1 (List.flatMap (fun (y : Int) => [Go.Value.int .i64 y]) (([] : List Int) ++ [(-2)])), Res.row g125 [.int .i64 (-2)] 3, Res.own 3 1 (.slice a116 1 c117) 1 (List.flatMap (fun (y : Int) => [Go.Value.int .i64 y]) (([] : List Int) ++ [(-1)])), Res.row g111 [.int .i64 (-1)] 3] w192) ?_ ?_
          · refine WP.region _ rfl (by kernel_rfl) ?_
            refine OPS.batch 1 {} [] [0, 5, 6, 94] [.pointer none, .slice none 0 0, .slice none 0 0, .pointer none] .nil (by kernel_rfl) (fun b157 => ?_)
            refine OPS.cons (opStep.call (some 95) [.pointer none] (by kernel_rfl) (q_List_nil _) ?_)
            rintro _ w160 ⟨rfl, hf161⟩
            refine ⟨_, rfl, ?_⟩
            have hp162 := hp133.step hf161
            refine OPS.batch 1 {} [] [0, 6, 95, 96] [.pointer none, .slice none 0 0, .slice none 0 0, .slice none 0 0] .nil (by kernel_rfl) (fun b163 => ?_)
            refine OPS.cons (opStep.call (some 97) [.slice none 0 0, .slice none 0 0] (by kernel_rfl) (sherdlaw09_sameInts ([] : List Int) ([] : List Int) none none 0 0 0 0 _ (by first | rfl | omega) (by first | rfl | omega) (by first | decide | (simp only [ints_len]; exact Nat.le_trans (sel_le _ _ _) (by omega)) | (simp only [ints_len]; omega)) (SlR.nil _ 0 rfl) (SlR.nil _ 0 rfl)) ?_)
            rintro _ w166 ⟨b169, rfl, hb170, hf167⟩
            refine ⟨_, rfl, ?_⟩
            have hp168 := hp162.step hf167
            refine OPS.batch 1 {} [] [0, 6, 98] [.pointer none, .slice none 0 0, .bool b169] .nil (by kernel_rfl) (fun b171 => ?_)
            by_cases h172 : ([] : List Int) = ([] : List Int)
            · rw [show b169 = true from hb170.tt h172]
              refine OPS.batch 1 {} [] [6, 98, 99] [.slice none 0 0, .bool true, .pointer none] .nil (by kernel_rfl) (fun b173 => ?_)
              refine OPS.want (by kernel_rfl) ?_
              refine OPS.cons (opStep.call (some 100) [.pointer none] (by kernel_rfl) (q_Rest_nil _) ?_)
              rintro _ w176 ⟨rfl, hf177⟩
              refine ⟨_, rfl, ?_⟩
              have hp178 := hp168.step hf177
              refine OPS.batch 1 {} [] [98, 100, 101] [.bool true, .slice none 0 0, .slice none 0 0] .nil (by kernel_rfl) (fun b179 => ?_)
              refine OPS.want (by kernel_rfl) ?_
              refine OPS.cons (opStep.call (some 102) [.slice none 0 0, .slice none 0 0] (by kernel_rfl) (sherdlaw09_sameInts ([] : List Int) ([] : List Int) none none 0 0 0 0 _ (by first | rfl | omega) (by first | rfl | omega) (by first | decide | (simp only [ints_len]; exact Nat.le_trans (sel_le _ _ _) (by omega)) | (simp only [ints_len]; omega)) (SlR.nil _ 0 rfl) (SlR.nil _ 0 rfl)) ?_)
              rintro _ w182 ⟨b185, rfl, hb186, hf183⟩
              refine ⟨_, rfl, ?_⟩
              have hp184 := hp178.step hf183
              refine OPS.batch 2 { wraps := [103] } [] [4] [.bool b185] .nil (by kernel_rfl) (fun b187 => ?_)
              refine OPS.nil ?_
              refine thn_n ?_
              exact ⟨b185, trivial, Bp.of hb186 (by first | (simp only [h172, iff_false, false_iff, iff_true, true_iff, Classical.not_not, and_true, true_and, and_false, false_and, or_true, true_or, or_false, false_or, not_true_eq_false, not_false_eq_true, and_self, or_self, iff_self]; done) | (simp [h172]; done) | simp_all), by kernel_rfl, hp184⟩
            · rw [show b169 = false from hb170.ff h172]
              refine OPS.batch 6 { wraps := [103] } [] [4] [.bool false] .nil (by kernel_rfl) (fun b188 => ?_)
              refine OPS.nil ?_
              refine thn_n ?_
              exact ⟨false, trivial, Bp.of Bp.f (by first | (simp only [h172, iff_false, false_iff, iff_true, true_iff, Classical.not_not, and_true, true_and, and_false, false_and, or_true, true_or, or_false, false_or, not_true_eq_false, not_false_eq_true, and_self, or_self, iff_self]; done) | (simp [h172]; done) | simp_all), by kernel_rfl, hp168⟩
          rintro e191 w192 ⟨x189, hd194, hb190, hE195, hp193⟩
          obtain ⟨b196, rfl⟩ := toMk hE195
          clear hE195
          clear hd194
          refine WP.ret ?_
          refine bodyQ.of _ rfl [.bool x189] ⟨rfl, trivial⟩ ?_
          exact ⟨congrArg (fun b => Ending.returned (.bool b)) (Bp.tt hb190 (by first | exact ⟨rfl, rfl⟩ | rfl | simp)), hp193.fr⟩

theorem same_ok (w0 : World) (L : List Res) (p q : Nat) (c : GConfig) (m : Nat) (ys : List Int) (a : Option Addr) (n cp : Nat) (w : World) (hok : okCfg c) (hrel : Rel c m ys) (hp0 : Hp w0 Non (Res.row p [.int .i64 c.N, .int .i64 c.K, .int .i64 c.Delta, .int .u64 ((wd m 0 : Nat) : Int), .int .u64 ((wd m 1 : Nat) : Int), .int .u64 ((wd m 2 : Nat) : Int), .int .u64 ((wd m 3 : Nat) : Int)] 133 :: Res.row q [.int .i64 c.N, .int .i64 c.K, .int .i64 c.Delta, .slice a n cp] 163 :: Res.own 3 1 (.slice a n cp) n (List.flatMap (fun (y : Int) => [Go.Value.int .i64 y]) ys) :: L) w) :
    Calls Try.prog 51 #[.pointer (some ⟨p, 0, none⟩), .pointer (some ⟨q, 0, none⟩)] w (fun x w' => x = .returned (.bool true) ∧ Hp w0 Non (Res.row p [.int .i64 c.N, .int .i64 c.K, .int .i64 c.Delta, .int .u64 ((wd m 0 : Nat) : Int), .int .u64 ((wd m 1 : Nat) : Int), .int .u64 ((wd m 2 : Nat) : Int), .int .u64 ((wd m 3 : Nat) : Int)] 133 :: Res.row q [.int .i64 c.N, .int .i64 c.K, .int .i64 c.Delta, .slice a n cp] 163 :: Res.own 3 1 (.slice a n cp) n (List.flatMap (fun (y : Int) => [Go.Value.int .i64 y]) ys) :: L) w') := by
  have hok1 := hok
  unfold okCfg at hok1
  refine calls_of Try.func51 rfl 104 rfl (by simp) ?_
  have he0 : List.map (env0 [.pointer (some ⟨p, 0, none⟩), .pointer (some ⟨q, 0, none⟩)]) [0, 1] = [.pointer (some ⟨p, 0, none⟩), .pointer (some ⟨q, 0, none⟩)] := by kernel_rfl
  obtain ⟨b0, he0⟩ := toMk he0
  rw [he0]
  clear he0
  refine WP.seq ?_
  refine WP.pure {} [] [0, 1] [.pointer (some ⟨p, 0, none⟩), .pointer (some ⟨q, 0, none⟩)] .nil (by kernel_rfl) (fun b1 => ?_)
  refine thn_n ?_
  refine WP.seq ?_
  refine WP.cut (fun e48 w49 => ∃ (x46 : Bool), (True) ∧ Bp x46 (((¬ (((False) ↔ (False))))) ∨ (((False) ↔ (False)) ∧ (¬ (((cntB m 256 : Nat) : Int) = ((cntB m 256 : Nat) : Int)))) ∨ (((False) ↔ (False)) ∧ (((cntB m 256 : Nat) : Int) = ((cntB m 256 : Nat) : Int)) ∧ (¬ (((qSize c ≤ ((cntB m 256 : Nat) : Int)) ↔ (qSize c ≤ ((cntB m 256 : Nat) : Int))))))) ∧ List.map e48 [0, 1, 33] = [.pointer (some ⟨p, 0, none⟩), .pointer (some ⟨q, 0, none⟩), .bool x46] ∧ Hp w0 Non (Res.row p [.int .i64 c.N, .int .i64 c.K, .int .i64 c.Delta, .int .u64 ((wd m 0 : Nat) : Int), .int .u64 ((wd m 1 : Nat) : Int), .int .u64 ((wd m 2 : Nat) : Int), .int .u64 ((wd m 3 : Nat) : Int)] 133 :: Res.row q [.int .i64 c.N, .int .i64 c.K, .int .i64 c.Delta, .slice a n cp] 163 :: Res.own 3 1 (.slice a n cp) n (List.flatMap (fun (y : Int) => [Go.Value.int .i64 y]) ys) :: L) w49) ?_ ?_
  · refine WP.region _ rfl (by kernel_rfl) ?_
    refine OPS.batch 6 {} [] [0, 1, 20] [.pointer (some ⟨p, 0, none⟩), .pointer (some ⟨q, 0, none⟩), .bool (!(false == false))] .nil (by kernel_rfl) (fun b3 => ?_)
    by_cases h4 : ((False) ↔ (False))
    · refine OPS.batch 0 {} [] [0, 1, 20] [.pointer (some ⟨p, 0, none⟩), .pointer (some ⟨q, 0, none⟩), .bool (!(false == false))] .nil (by kernel_rfl) (fun b7 => ?_)
      refine OPS.re [.pointer (some ⟨p, 0, none⟩), .pointer (some ⟨q, 0, none⟩), .bool false] (by rw [show (!(false == false)) = false from (Bp.not (Bp.beq Bp.f Bp.f)).ff (fun k => k h4)]) ?_
      refine OPS.batch 1 {} [] [0, 1, 20, 21] [.pointer (some ⟨p, 0, none⟩), .pointer (some ⟨q, 0, none⟩), .bool false, .pointer (some ⟨p, 0, none⟩)] .nil (by kernel_rfl) (fun b8 => ?_)
      refine OPS.want (by kernel_rfl) ?_
      have hp11 := hp0.pull0
      refine OPS.cons (opStep.call (some 22) [.pointer (some ⟨p, 0, none⟩)] (by kernel_rfl) (q_Len _ _ _ c m _ hok  hp11) ?_)
      rintro _ w12 ⟨rfl, hp13⟩
      refine ⟨_, rfl, ?_⟩
      refine OPS.batch 1 {} [] [0, 1, 20, 22, 23] [.pointer (some ⟨p, 0, none⟩), .pointer (some ⟨q, 0, none⟩), .bool false, .int .i64 ((cntB m 256 : Nat) : Int), .pointer (some ⟨q, 0, none⟩)] .nil (by kernel_rfl) (fun b15 => ?_)
      refine OPS.want (by kernel_rfl) ?_
      have hp18 := hp13.pull2
      have hp19 := hp18.pull2
      refine OPS.cons (opStep.call (some 24) [.pointer (some ⟨q, 0, none⟩)] (by kernel_rfl) (r_Len _ _ q c m ys a n cp _ hok hrel hp19) ?_)
      rintro _ w20 ⟨rfl, hp21⟩
      refine ⟨_, rfl, ?_⟩
      refine OPS.batch 3 { wraps := [26] } [] [0, 1, 27] [.pointer (some ⟨p, 0, none⟩), .pointer (some ⟨q, 0, none⟩), .bool (decide (¬ (((cntB m 256 : Nat) : Int) = ((cntB m 256 : Nat) : Int))))] .nil (by kernel_rfl) (fun b23 => ?_)
      by_cases h24 : ((cntB m 256 : Nat) : Int) = ((cntB m 256 : Nat) : Int)
      · refine OPS.batch 0 {} [] [0, 1, 27] [.pointer (some ⟨p, 0, none⟩), .pointer (some ⟨q, 0, none⟩), .bool (decide (¬ (((cntB m 256 : Nat) : Int) = ((cntB m 256 : Nat) : Int))))] .nil (by kernel_rfl) (fun b27 => ?_)
        refine OPS.re [.pointer (some ⟨p, 0, none⟩), .pointer (some ⟨q, 0, none⟩), .bool false] (by rw [show (decide (¬ (((cntB m 256 : Nat) : Int) = ((cntB m 256 : Nat) : Int)))) = false from Bp.dec.ff (fun k => k h24)]) ?_
        refine OPS.batch 1 {} [] [0, 1, 27, 28] [.pointer (some ⟨p, 0, none⟩), .pointer (some ⟨q, 0, none⟩), .bool false, .pointer (some ⟨p, 0, none⟩)] .nil (by kernel_rfl) (fun b28 => ?_)
        refine OPS.want (by kernel_rfl) ?_
        have hp31 := hp21.pull2
        refine OPS.cons (opStep.call (some 29) [.pointer (some ⟨p, 0, none⟩)] (by kernel_rfl) (q_Met _ _ _ c m _ hok  hp31) ?_)
        rintro _ w32 ⟨b35, rfl, hq34, hp33⟩
        refine ⟨_, rfl, ?_⟩
        refine OPS.batch 1 {} [] [0, 1, 27, 29, 30] [.pointer (some ⟨p, 0, none⟩), .pointer (some ⟨q, 0, none⟩), .bool false, .bool b35, .pointer (some ⟨q, 0, none⟩)] .nil (by kernel_rfl) (fun b36 => ?_)
        refine OPS.want (by kernel_rfl) ?_
        have hp39 := hp33.pull2
        have hp40 := hp39.pull2
        refine OPS.cons (opStep.call (some 31) [.pointer (some ⟨q, 0, none⟩)] (by kernel_rfl) (r_Met _ _ q c m ys a n cp _ hok hrel hp40) ?_)
        rintro _ w41 ⟨b44, rfl, hq43, hp42⟩
        refine ⟨_, rfl, ?_⟩
        refine OPS.batch 2 { wraps := [33] } [] [0, 1, 33] [.pointer (some ⟨p, 0, none⟩), .pointer (some ⟨q, 0, none⟩), .bool (!(b35 == b44))] .nil (by kernel_rfl) (fun b45 => ?_)
        refine OPS.nil ?_
        refine thn_n ?_
        exact ⟨!(b35 == b44), trivial, Bp.of (Bp.not (Bp.beq hq34 hq43)) (by first | (simp only [h4, h24, iff_false, false_iff, iff_true, true_iff, Classical.not_not, and_true, true_and, and_false, false_and, or_true, true_or, or_false, false_or, not_true_eq_false, not_false_eq_true, and_self, or_self, iff_self]; done) | (simp [h4, h24]; done) | simp_all), by kernel_rfl, ((((hp42.pull1).pull1).pull2).sub (.cons_cons _ (.cons_cons _ (.cons_cons _ (.refl _)))))⟩
      · refine OPS.batch 0 {} [] [0, 1, 27] [.pointer (some ⟨p, 0, none⟩), .pointer (some ⟨q, 0, none⟩), .bool (decide (¬ (((cntB m 256 : Nat) : Int) = ((cntB m 256 : Nat) : Int))))] .nil (by kernel_rfl) (fun b25 => ?_)
        refine OPS.re [.pointer (some ⟨p, 0, none⟩), .pointer (some ⟨q, 0, none⟩), .bool true] (by rw [show (decide (¬ (((cntB m 256 : Nat) : Int) = ((cntB m 256 : Nat) : Int)))) = true from Bp.dec.tt h24]) ?_
        refine OPS.batch 6 { wraps := [33] } [] [0, 1, 33] [.pointer (some ⟨p, 0, none⟩), .pointer (some ⟨q, 0, none⟩), .bool true] .nil (by kernel_rfl) (fun b26 => ?_)
        refine OPS.nil ?_
        refine thn_n ?_
        exact ⟨true, trivial, Bp.of Bp.t (by first | (simp only [h4, h24, iff_false, false_iff, iff_true, true_iff, Classical.not_not, and_true, true_and, and_false, false_and, or_true, true_or, or_false, false_or, not_true_eq_false, not_false_eq_true, and_self, or_self, iff_self]; done) | (simp [h4, h24]; done) | simp_all), by kernel_rfl, ((((hp21.pull1).pull1).pull2).sub (.cons_cons _ (.cons_cons _ (.cons_cons _ (.refl _)))))⟩
    · refine OPS.batch 0 {} [] [0, 1, 20] [.pointer (some ⟨p, 0, none⟩), .pointer (some ⟨q, 0, none⟩), .bool (!(false == false))] .nil (by kernel_rfl) (fun b5 => ?_)
      refine OPS.re [.pointer (some ⟨p, 0, none⟩), .pointer (some ⟨q, 0, none⟩), .bool true] (by rw [show (!(false == false)) = true from (Bp.not (Bp.beq Bp.f Bp.f)).tt h4]) ?_
      refine OPS.batch 13 { wraps := [26, 33] } [] [0, 1, 33] [.pointer (some ⟨p, 0, none⟩), .pointer (some ⟨q, 0, none⟩), .bool true] .nil (by kernel_rfl) (fun b6 => ?_)
      refine OPS.nil ?_
      refine thn_n ?_
      exact ⟨true, trivial, Bp.of Bp.t (by first | (simp only [h4, iff_false, false_iff, iff_true, true_iff, Classical.not_not, and_true, true_and, and_false, false_and, or_true, true_or, or_false, false_or, not_true_eq_false, not_false_eq_true, and_self, or_self, iff_self]; done) | (simp [h4]; done) | simp_all), by kernel_rfl, hp0⟩
  rintro e48 w49 ⟨x46, hd51, hb47, hE52, hp50⟩
  obtain ⟨b53, rfl⟩ := toMk hE52
  clear hE52
  clear hd51
  refine WP.test (p := ((¬ (((False) ↔ (False))))) ∨ (((False) ↔ (False)) ∧ (¬ (((cntB m 256 : Nat) : Int) = ((cntB m 256 : Nat) : Int)))) ∨ (((False) ↔ (False)) ∧ (((cntB m 256 : Nat) : Int) = ((cntB m 256 : Nat) : Int)) ∧ (¬ (((qSize c ≤ ((cntB m 256 : Nat) : Int)) ↔ (qSize c ≤ ((cntB m 256 : Nat) : Int))))))) rfl hb47 (fun h54 => ?_) (fun h54 => ?_)
  · refine WP.seq ?_
    refine WP.pure {} [] [4] [.bool false] .nil (by kernel_rfl) (fun b55 => ?_)
    refine thn_n ?_
    refine WP.ret ?_
    refine thn_r ?_
    refine bodyQ.of _ rfl [.bool false] ⟨rfl, trivial⟩ ?_
    exfalso
    first | exact h54 rfl | exact h54 Iff.rfl | exact absurd rfl h54 | (simp at h54; done) | (rcases h54 with z | z <;> simp_all; done) | simp_all
  · refine WP.skip ?_
    refine thn_n ?_
    refine WP.seq ?_
    refine WP.region _ rfl (by kernel_rfl) ?_
    refine OPS.batch 1 {} [] [0, 1, 34] [.pointer (some ⟨p, 0, none⟩), .pointer (some ⟨q, 0, none⟩), .pointer (some ⟨q, 0, none⟩)] .nil (by kernel_rfl) (fun b56 => ?_)
    have hp59 := hp50.pull2
    have hp60 := hp59.pull2
    refine OPS.cons (opStep.call (some 35) [.pointer (some ⟨q, 0, none⟩)] (by kernel_rfl) (r_List _ _ q c m ys a n cp _ hok hrel  hp60) ?_)
    rintro _ w61 ⟨ao63, co64, rfl, hp62⟩
    refine ⟨_, rfl, ?_⟩
    have := sel_le m true (c.N).toNat
    refine OPS.batch 1 {} [] [0, 1, 5] [.pointer (some ⟨p, 0, none⟩), .pointer (some ⟨q, 0, none⟩), .slice ao63 ((sel m true (c.N).toNat).length) co64] .nil (by kernel_rfl) (fun b65 => ?_)
    refine OPS.nil ?_
    refine thn_n ?_
    refine WP.seq ?_
    refine WP.region _ rfl (by kernel_rfl) ?_
    refine OPS.batch 1 {} [] [0, 5, 36] [.pointer (some ⟨p, 0, none⟩), .slice ao63 ((sel m true (c.N).toNat).length) co64, .pointer (some ⟨q, 0, none⟩)] .nil (by kernel_rfl) (fun b66 => ?_)
    have hp69 := hp62.pull2
    have hp70 := hp69.pull2
    refine OPS.cons (opStep.call (some 37) [.pointer (some ⟨q, 0, none⟩)] (by kernel_rfl) (r_Rest _ _ q c m ys a n cp _ hok hrel  hp70) ?_)
    rintro _ w71 ⟨ao73, co74, rfl, hp72⟩
    refine ⟨_, rfl, ?_⟩
    have := sel_le m false (c.N).toNat
    refine OPS.batch 1 {} [] [0, 5, 6] [.pointer (some ⟨p, 0, none⟩), .slice ao63 ((sel m true (c.N).toNat).length) co64, .slice ao73 ((sel m false (c.N).toNat).length) co74] .nil (by kernel_rfl) (fun b75 => ?_)
    refine OPS.nil ?_
    refine thn_n ?_
    refine WP.seq ?_
    refine WP.region _ rfl (by kernel_rfl) ?_
    refine OPS.batch 1 {} [] [0, 5, 6, 38] [.pointer (some ⟨p, 0, none⟩), .slice ao63 ((sel m true (c.N).toNat).length) co64, .slice ao73 ((sel m false (c.N).toNat).length) co74, .pointer (some ⟨p, 0, none⟩)] .nil (by kernel_rfl) (fun b76 => ?_)
    have hp79 := hp72.pull4
    refine OPS.cons (opStep.call (some 39) [.pointer (some ⟨p, 0, none⟩)] (by kernel_rfl) (q_List _ _ _ c m _ hok  hp79) ?_)
    rintro _ w80 ⟨ao82, co83, rfl, hp81⟩
    refine ⟨_, rfl, ?_⟩
    have := sel_le m true (c.N).toNat
    refine OPS.batch 1 {} [] [0, 5, 6, 7] [.pointer (some ⟨p, 0, none⟩), .slice ao63 ((sel m true (c.N).toNat).length) co64, .slice ao73 ((sel m false (c.N).toNat).length) co74, .slice ao82 ((sel m true (c.N).toNat).length) co83] .nil (by kernel_rfl) (fun b84 => ?_)
    refine OPS.nil ?_
    refine thn_n ?_
    refine WP.seq ?_
    refine WP.region _ rfl (by kernel_rfl) ?_
    refine OPS.batch 1 {} [] [0, 5, 6, 7, 40] [.pointer (some ⟨p, 0, none⟩), .slice ao63 ((sel m true (c.N).toNat).length) co64, .slice ao73 ((sel m false (c.N).toNat).length) co74, .slice ao82 ((sel m true (c.N).toNat).length) co83, .pointer (some ⟨p, 0, none⟩)] .nil (by kernel_rfl) (fun b85 => ?_)
    have hp88 := hp81.pull1
    refine OPS.cons (opStep.call (some 41) [.pointer (some ⟨p, 0, none⟩)] (by kernel_rfl) (q_Rest _ _ _ c m _ hok  hp88) ?_)
    rintro _ w89 ⟨ao91, co92, rfl, hp90⟩
    refine ⟨_, rfl, ?_⟩
    have := sel_le m false (c.N).toNat
    refine OPS.batch 1 {} [] [0, 5, 6, 7, 8] [.pointer (some ⟨p, 0, none⟩), .slice ao63 ((sel m true (c.N).toNat).length) co64, .slice ao73 ((sel m false (c.N).toNat).length) co74, .slice ao82 ((sel m true (c.N).toNat).length) co83, .slice ao91 ((sel m false (c.N).toNat).length) co92] .nil (by kernel_rfl) (fun b93 => ?_)
    refine OPS.nil ?_
    refine thn_n ?_
    refine WP.seq ?_
    refine WP.cut (fun e119 w120 => ∃ (x117 : Bool), (True) ∧ Bp x117 (((¬ (ints (sel m true (c.N).toNat) = ints (sel m true (c.N).toNat)))) ∨ ((ints (sel m true (c.N).toNat) = ints (sel m true (c.N).toNat)) ∧ (¬ (ints (sel m false (c.N).toNat) = ints (sel m false (c.N).toNat))))) ∧ List.map e119 [0, 5, 6, 7, 8, 51] = [.pointer (some ⟨p, 0, none⟩), .slice ao63 ((sel m true (c.N).toNat).length) co64, .slice ao73 ((sel m false (c.N).toNat).length) co74, .slice ao82 ((sel m true (c.N).toNat).length) co83, .slice ao91 ((sel m false (c.N).toNat).length) co92, .bool x117] ∧ Hp w0 Non (Res.own 3 1 (.slice ao91 ((sel m false (c.N).toNat).length) co92) ((sel m false (c.N).toNat).length) (List.flatMap (fun (y : Nat) => [Go.Value.int .i64 (y : Int)]) (sel m false (c.N).toNat)) :: Res.row p [.int .i64 c.N, .int .i64 c.K, .int .i64 c.Delta, .int .u64 ((wd m 0 : Nat) : Int), .int .u64 ((wd m 1 : Nat) : Int), .int .u64 ((wd m 2 : Nat) : Int), .int .u64 ((wd m 3 : Nat) : Int)] 133 :: Res.own 3 1 (.slice ao82 ((sel m true (c.N).toNat).length) co83) ((sel m true (c.N).toNat).length) (List.flatMap (fun (y : Nat) => [Go.Value.int .i64 (y : Int)]) (sel m true (c.N).toNat)) :: Res.own 3 1 (.slice ao73 ((sel m false (c.N).toNat).length) co74) ((sel m false (c.N).toNat).length) (List.flatMap (fun (y : Nat) => [Go.Value.int .i64 (y : Int)]) (sel m false (c.N).toNat)) :: Res.row q [.int .i64 c.N, .int .i64 c.K, .int .i64 c.Delta, .slice a n cp] 163 :: Res.own 3 1 (.slice a n cp) n (List.flatMap (fun (y : Int) => [Go.Value.int .i64 y]) ys) :: Res.own 3 1 (.slice ao63 ((sel m true (c.N).toNat).length) co64) ((sel m true (c.N).toNat).length) (List.flatMap (fun (y : Nat) => [Go.Value.int .i64 (y : Int)]) (sel m true (c.N).toNat)) :: L) w120) ?_ ?_
    · refine WP.region _ rfl (by kernel_rfl) ?_
      refine OPS.batch 2 {} [] [0, 5, 6, 7, 8, 42, 43] [.pointer (some ⟨p, 0, none⟩), .slice ao63 ((sel m true (c.N).toNat).length) co64, .slice ao73 ((sel m false (c.N).toNat).length) co74, .slice ao82 ((sel m true (c.N).toNat).length) co83, .slice ao91 ((sel m false (c.N).toNat).length) co92, .slice ao82 ((sel m true (c.N).toNat).length) co83, .slice ao63 ((sel m true (c.N).toNat).length) co64] .nil (by kernel_rfl) (fun b95 => ?_)
      refine OPS.cons (opStep.call (some 44) [.slice ao82 ((sel m true (c.N).toNat).length) co83, .slice ao63 ((sel m true (c.N).toNat).length) co64] (by kernel_rfl) (sherdlaw09_sameInts (ints (sel m true (c.N).toNat)) (ints (sel m true (c.N).toNat)) ao82 ao63 ((sel m true (c.N).toNat).length) ((sel m true (c.N).toNat).length) co83 co64 _ ((ints_len _).trans (own_flat (sz := 1) (fun _ => rfl) (by decide) hp90.get2)) ((ints_len _).trans (own_flat (sz := 1) (fun _ => rfl) (by decide) hp90.get6)) (by first | decide | (simp only [ints_len]; exact Nat.le_trans (sel_le _ _ _) (by omega)) | (simp only [ints_len]; omega)) (slr_ints (SlR.own hp90.get2)) (slr_ints (SlR.own hp90.get6))) ?_)
      rintro _ w98 ⟨b101, rfl, hb102, hf99⟩
      refine ⟨_, rfl, ?_⟩
      have hp100 := hp90.step hf99
      refine OPS.batch 2 {} [] [0, 5, 6, 7, 8, 46] [.pointer (some ⟨p, 0, none⟩), .slice ao63 ((sel m true (c.N).toNat).length) co64, .slice ao73 ((sel m false (c.N).toNat).length) co74, .slice ao82 ((sel m true (c.N).toNat).length) co83, .slice ao91 ((sel m false (c.N).toNat).length) co92, .bool (!b101)] .nil (by kernel_rfl) (fun b103 => ?_)
      by_cases h104 : ints (sel m true (c.N).toNat) = ints (sel m true (c.N).toNat)
      · refine OPS.batch 0 {} [] [0, 5, 6, 7, 8, 46] [.pointer (some ⟨p, 0, none⟩), .slice ao63 ((sel m true (c.N).toNat).length) co64, .slice ao73 ((sel m false (c.N).toNat).length) co74, .slice ao82 ((sel m true (c.N).toNat).length) co83, .slice ao91 ((sel m false (c.N).toNat).length) co92, .bool (!b101)] .nil (by kernel_rfl) (fun b107 => ?_)
        refine OPS.re [.pointer (some ⟨p, 0, none⟩), .slice ao63 ((sel m true (c.N).toNat).length) co64, .slice ao73 ((sel m false (c.N).toNat).length) co74, .slice ao82 ((sel m true (c.N).toNat).length) co83, .slice ao91 ((sel m false (c.N).toNat).length) co92, .bool false] (by rw [show (!b101) = false from (Bp.not hb102).ff (fun k => k h104)]) ?_
        refine OPS.batch 2 {} [] [0, 5, 6, 7, 8, 46, 47, 48] [.pointer (some ⟨p, 0, none⟩), .slice ao63 ((sel m true (c.N).toNat).length) co64, .slice ao73 ((sel m false (c.N).toNat).length) co74, .slice ao82 ((sel m true (c.N).toNat).length) co83, .slice ao91 ((sel m false (c.N).toNat).length) co92, .bool false, .slice ao91 ((sel m false (c.N).toNat).length) co92, .slice ao73 ((sel m false (c.N).toNat).length) co74] .nil (by kernel_rfl) (fun b108 => ?_)
        refine OPS.want (by kernel_rfl) ?_
        refine OPS.cons (opStep.call (some 49) [.slice ao91 ((sel m false (c.N).toNat).length) co92, .slice ao73 ((sel m false (c.N).toNat).length) co74] (by kernel_rfl) (sherdlaw09_sameInts (ints (sel m false (c.N).toNat)) (ints (sel m false (c.N).toNat)) ao91 ao73 ((sel m false (c.N).toNat).length) ((sel m false (c.N).toNat).length) co92 co74 _ ((ints_len _).trans (own_flat (sz := 1) (fun _ => rfl) (by decide) hp100.get0)) ((ints_len _).trans (own_flat (sz := 1) (fun _ => rfl) (by decide) hp100.get3)) (by first | decide | (simp only [ints_len]; exact Nat.le_trans (sel_le _ _ _) (by omega)) | (simp only [ints_len]; omega)) (slr_ints (SlR.own hp100.get0)) (slr_ints (SlR.own hp100.get3))) ?_)
        rintro _ w111 ⟨b114, rfl, hb115, hf112⟩
        refine ⟨_, rfl, ?_⟩
        have hp113 := hp100.step hf112
        refine OPS.batch 2 { wraps := [51] } [] [0, 5, 6, 7, 8, 51] [.pointer (some ⟨p, 0, none⟩), .slice ao63 ((sel m true (c.N).toNat).length) co64, .slice ao73 ((sel m false (c.N).toNat).length) co74, .slice ao82 ((sel m true (c.N).toNat).length) co83, .slice ao91 ((sel m false (c.N).toNat).length) co92, .bool (!b114)] .nil (by kernel_rfl) (fun b116 => ?_)
        refine OPS.nil ?_
        refine thn_n ?_
        exact ⟨!b114, trivial, Bp.of (Bp.not hb115) (by first | (simp only [h104, iff_false, false_iff, iff_true, true_iff, Classical.not_not, and_true, true_and, and_false, false_and, or_true, true_or, or_false, false_or, not_true_eq_false, not_false_eq_true, and_self, or_self, iff_self]; done) | (simp [h104]; done) | simp_all), by kernel_rfl, hp113⟩
      · refine OPS.batch 0 {} [] [0, 5, 6, 7, 8, 46] [.pointer (some ⟨p, 0, none⟩), .slice ao63 ((sel m true (c.N).toNat).length) co64, .slice ao73 ((sel m false (c.N).toNat).length) co74, .slice ao82 ((sel m true (c.N).toNat).length) co83, .slice ao91 ((sel m false (c.N).toNat).length) co92, .bool (!b101)] .nil (by kernel_rfl) (fun b105 => ?_)
        refine OPS.re [.pointer (some ⟨p, 0, none⟩), .slice ao63 ((sel m true (c.N).toNat).length) co64, .slice ao73 ((sel m false (c.N).toNat).length) co74, .slice ao82 ((sel m true (c.N).toNat).length) co83, .slice ao91 ((sel m false (c.N).toNat).length) co92, .bool true] (by rw [show (!b101) = true from (Bp.not hb102).tt h104]) ?_
        refine OPS.batch 5 { wraps := [51] } [] [0, 5, 6, 7, 8, 51] [.pointer (some ⟨p, 0, none⟩), .slice ao63 ((sel m true (c.N).toNat).length) co64, .slice ao73 ((sel m false (c.N).toNat).length) co74, .slice ao82 ((sel m true (c.N).toNat).length) co83, .slice ao91 ((sel m false (c.N).toNat).length) co92, .bool true] .nil (by kernel_rfl) (fun b106 => ?_)
        refine OPS.nil ?_
        refine thn_n ?_
        exact ⟨true, trivial, Bp.of Bp.t (by first | (simp only [h104, iff_false, false_iff, iff_true, true_iff, Classical.not_not, and_true, true_and, and_false, false_and, or_true, true_or, or_false, false_or, not_true_eq_false, not_false_eq_true, and_self, or_self, iff_self]; done) | (simp [h104]; done) | simp_all), by kernel_rfl, hp100⟩
    rintro e119 w120 ⟨x117, hd122, hb118, hE123, hp121⟩
    obtain ⟨b124, rfl⟩ := toMk hE123
    clear hE123
    clear hd122
    refine WP.test (p := ((¬ (ints (sel m true (c.N).toNat) = ints (sel m true (c.N).toNat)))) ∨ ((ints (sel m true (c.N).toNat) = ints (sel m true (c.N).toNat)) ∧ (¬ (ints (sel m false (c.N).toNat) = ints (sel m false (c.N).toNat))))) rfl hb118 (fun h125 => ?_) (fun h125 => ?_)
    · refine WP.seq ?_
      refine WP.pure {} [] [4] [.bool false] .nil (by kernel_rfl) (fun b126 => ?_)
      refine thn_n ?_
      refine WP.ret ?_
      refine thn_r ?_
      refine bodyQ.of _ rfl [.bool false] ⟨rfl, trivial⟩ ?_
      exfalso
      first | exact h125 rfl | exact h125 Iff.rfl | exact absurd rfl h125 | (simp at h125; done) | (rcases h125 with z | z <;> simp_all; done) | simp_all
    · refine WP.skip ?_
      refine thn_n ?_
      refine WP.seq ?_
      refine WP.seq ?_
      refine WP.pure {} [] [0, 5, 6, 7, 8, 53, 54] [.pointer (some ⟨p, 0, none⟩), .slice ao63 ((sel m true (c.N).toNat).length) co64, .slice ao73 ((sel m false (c.N).toNat).length) co74, .slice ao82 ((sel m true (c.N).toNat).length) co83, .slice ao91 ((sel m false (c.N).toNat).length) co92, .int .i64 (((sel m true (c.N).toNat).length : Nat) : Int), .int .i64 0] .nil (by kernel_rfl) (fun b127 => ?_)
      refine thn_n ?_
      refine WP.block ?_
      have hp128 : Hp w0 Non (Res.own 3 1 (.slice ao91 ((sel m false (c.N).toNat).length) co92) ((sel m false (c.N).toNat).length) (List.flatMap (fun (y : Nat) => [Go.Value.int .i64 (y : Int)]) (sel m false (c.N).toNat)) :: Res.row p [.int .i64 c.N, .int .i64 c.K, .int .i64 c.Delta, .int .u64 ((wd m 0 : Nat) : Int), .int .u64 ((wd m 1 : Nat) : Int), .int .u64 ((wd m 2 : Nat) : Int), .int .u64 ((wd m 3 : Nat) : Int)] 133 :: Res.own 3 1 (.slice ao82 ((sel m true (c.N).toNat).length) co83) ((sel m true (c.N).toNat).length) (List.flatMap (fun (y : Int) => [Go.Value.int .i64 y]) (ints (sel m true (c.N).toNat))) :: Res.own 3 1 (.slice ao73 ((sel m false (c.N).toNat).length) co74) ((sel m false (c.N).toNat).length) (List.flatMap (fun (y : Nat) => [Go.Value.int .i64 (y : Int)]) (sel m false (c.N).toNat)) :: Res.row q [.int .i64 c.N, .int .i64 c.K, .int .i64 c.Delta, .slice a n cp] 163 :: Res.own 3 1 (.slice a n cp) n (List.flatMap (fun (y : Int) => [Go.Value.int .i64 y]) ys) :: Res.own 3 1 (.slice ao63 ((sel m true (c.N).toNat).length) co64) ((sel m true (c.N).toNat).length) (List.flatMap (fun (y : Nat) => [Go.Value.int .i64 (y : Int)]) (sel m true (c.N).toNat)) :: L) w120 := by rw [show Res.own 3 1 (.slice ao82 ((sel m true (c.N).toNat).length) co83) ((sel m true (c.N).toNat).length) (List.flatMap (fun (y : Int) => [Go.Value.int .i64 y]) (ints (sel m true (c.N).toNat))) = Res.own 3 1 (.slice ao82 ((sel m true (c.N).toNat).length) co83) ((sel m true (c.N).toNat).length) (List.flatMap (fun (y : Nat) => [Go.Value.int .i64 (y : Int)]) (sel m true (c.N).toNat)) from by rw [ints_flat]]; exact hp121
      refine WP.loop (fun mz_ e129 w130 => ∃ (k : Nat) (zs54 : List Int), mz_ = (sel m true (c.N).toNat).length - k ∧ (k ≤ (sel m true (c.N).toNat).length ∧ ∀ j, j < k → zs54[j]! = -1) ∧ List.map e129 [0, 5, 6, 7, 8, 53, 54] = [.pointer (some ⟨p, 0, none⟩), .slice ao63 ((sel m true (c.N).toNat).length) co64, .slice ao73 ((sel m false (c.N).toNat).length) co74, .slice ao82 ((sel m true (c.N).toNat).length) co83, .slice ao91 ((sel m false (c.N).toNat).length) co92, .int .i64 (((sel m true (c.N).toNat).length : Nat) : Int), .int .i64 (k : Int)] ∧ Hp w0 Non (Res.own 3 1 (.slice ao91 ((sel m false (c.N).toNat).length) co92) ((sel m false (c.N).toNat).length) (List.flatMap (fun (y : Nat) => [Go.Value.int .i64 (y : Int)]) (sel m false (c.N).toNat)) :: Res.row p [.int .i64 c.N, .int .i64 c.K, .int .i64 c.Delta, .int .u64 ((wd m 0 : Nat) : Int), .int .u64 ((wd m 1 : Nat) : Int), .int .u64 ((wd m 2 : Nat) : Int), .int .u64 ((wd m 3 : Nat) : Int)] 133 :: Res.own 3 1 (.slice ao82 ((sel m true (c.N).toNat).length) co83) ((sel m true (c.N).toNat).length) (List.flatMap (fun (y : Int) => [Go.Value.int .i64 y]) zs54) :: Res.own 3 1 (.slice ao73 ((sel m false (c.N).toNat).length) co74) ((sel m false (c.N).toNat).length) (List.flatMap (fun (y : Nat) => [Go.Value.int .i64 (y : Int)]) (sel m false (c.N).toNat)) :: Res.row q [.int .i64 c.N, .int .i64 c.K, .int .i64 c.Delta, .slice a n cp] 163 :: Res.own 3 1 (.slice a n cp) n (List.flatMap (fun (y : Int) => [Go.Value.int .i64 y]) ys) :: Res.own 3 1 (.slice ao63 ((sel m true (c.N).toNat).length) co64) ((sel m true (c.N).toNat).length) (List.flatMap (fun (y : Nat) => [Go.Value.int .i64 (y : Int)]) (sel m true (c.N).toNat)) :: L) w130) ((sel m true (c.N).toNat).length - (0)) ⟨0, (ints (sel m true (c.N).toNat)), rfl, ⟨by omega, fun j hj => by omega⟩, by kernel_rfl, hp128⟩ ?_
      rintro _ e129 w130 ⟨k, zs54, rfl, hI132, hE133, hp131⟩
      obtain ⟨b134, rfl⟩ := toMk hE133
      clear hE133
      obtain ⟨k1_54, k2_54⟩ := hI132
      have kz_54 := own_flat (sz := 1) (fun _ => rfl) (by decide) hp131.get2
      refine WP.seq ?_
      refine WP.pure {} [] [0, 5, 6, 7, 8, 53, 54, 55] [.pointer (some ⟨p, 0, none⟩), .slice ao63 ((sel m true (c.N).toNat).length) co64, .slice ao73 ((sel m false (c.N).toNat).length) co74, .slice ao82 ((sel m true (c.N).toNat).length) co83, .slice ao91 ((sel m false (c.N).toNat).length) co92, .int .i64 (((sel m true (c.N).toNat).length : Nat) : Int), .int .i64 (k : Int), .bool (decide ((k : Int) < (((sel m true (c.N).toNat).length : Nat) : Int)))] .nil (by kernel_rfl) (fun b135 => ?_)
      refine thn_n ?_
      refine WP.seq ?_
      refine WP.test (p := (k : Int) < (((sel m true (c.N).toNat).length : Nat) : Int)) rfl Bp.dec (fun h136 => ?_) (fun h136 => ?_)
      · refine WP.skip ?_
        refine thn_n ?_
        refine WP.seq ?_
        refine WP.block ?_
        refine WP.seq ?_
        refine WP.pure {} [] [0, 5, 6, 7, 8, 9, 53, 54] [.pointer (some ⟨p, 0, none⟩), .slice ao63 ((sel m true (c.N).toNat).length) co64, .slice ao73 ((sel m false (c.N).toNat).length) co74, .slice ao82 ((sel m true (c.N).toNat).length) co83, .slice ao91 ((sel m false (c.N).toNat).length) co92, .int .i64 (k : Int), .int .i64 (((sel m true (c.N).toNat).length : Nat) : Int), .int .i64 (k : Int)] .nil (by kernel_rfl) (fun b137 => ?_)
        refine thn_n ?_
        refine WP.region _ rfl (by kernel_rfl) ?_
        refine OPS.batch 3 {} [] [0, 5, 6, 7, 8, 53, 54, 59] [.pointer (some ⟨p, 0, none⟩), .slice ao63 ((sel m true (c.N).toNat).length) co64, .slice ao73 ((sel m false (c.N).toNat).length) co74, .slice ao82 ((sel m true (c.N).toNat).length) co83, .slice ao91 ((sel m false (c.N).toNat).length) co92, .int .i64 (((sel m true (c.N).toNat).length : Nat) : Int), .int .i64 (k : Int), .pointer (some ((adr ao82).add (k * 1)))] (.cons (show InB ((k : Int)) ((sel m true (c.N).toNat).length) from ⟨by omega, by omega⟩) (.cons ((SlR.own (hp131.get2)).some (by omega)) .nil)) (by kernel_rfl) (fun b138 => ?_)
        have := own_flat (sz := 1) (fun _ => rfl) (by decide) hp131.get2
        try simp only [List.length_set] at this
        refine OPS.cons (opStep.storeOwn2 (k * 1) hp131 rfl [.int .i64 (-1)] (by kernel_rfl) (by simp) (show k * 1 + 1 ≤ ((sel m true (c.N).toNat).length) * 1 by omega) (fun w139 hp140 => ?_))
        have hp141 := hp140
        rw [show ow (List.flatMap (fun (y : Int) => [Go.Value.int .i64 y]) zs54) (k * 1) [.int .i64 (-1)] = List.flatMap (fun (y : Int) => [Go.Value.int .i64 y]) (zs54.set k (-1)) from ow_flat (sz := 1) (fun _ => rfl) (by first | (omega) | (simp only [List.length_set]; omega)) (-1)] at hp141
        refine OPS.nil ?_
        refine blk_n ?_
        refine thn_n ?_
        refine WP.pure {} [] [0, 5, 6, 7, 8, 53, 54] [.pointer (some ⟨p, 0, none⟩), .slice ao63 ((sel m true (c.N).toNat).length) co64, .slice ao73 ((sel m false (c.N).toNat).length) co74, .slice ao82 ((sel m true (c.N).toNat).length) co83, .slice ao91 ((sel m false (c.N).toNat).length) co92, .int .i64 (((sel m true (c.N).toNat).length : Nat) : Int), .int .i64 ((k : Int) + 1)] (.cons (show Rng .i64 ((k : Int) + 1) from Rng.i64 (by omega)) .nil) (by kernel_rfl) (fun b142 => ?_)
        refine thn_n ?_
        exact ⟨(sel m true (c.N).toNat).length - (k + 1), (by omega), k + 1, zs54.set k (-1), rfl, ⟨by omega, all_set (by omega) k2_54⟩, by kernel_rfl, hp141⟩
      · refine WP.exit ?_
        refine thn_x ?_
        refine thn_x ?_
        refine blk_hit ?_
        refine thn_n ?_
        refine WP.seq ?_
        refine WP.seq ?_
        refine WP.pure {} [] [0, 5, 6, 7, 8, 62, 63] [.pointer (some ⟨p, 0, none⟩), .slice ao63 ((sel m true (c.N).toNat).length) co64, .slice ao73 ((sel m false (c.N).toNat).length) co74, .slice ao82 ((sel m true (c.N).toNat).length) co83, .slice ao91 ((sel m false (c.N).toNat).length) co92, .int .i64 (((sel m false (c.N).toNat).length : Nat) : Int), .int .i64 0] .nil (by kernel_rfl) (fun b143 => ?_)
        refine thn_n ?_
        refine WP.block ?_
        have hp144 : Hp w0 Non (Res.own 3 1 (.slice ao91 ((sel m false (c.N).toNat).length) co92) ((sel m false (c.N).toNat).length) (List.flatMap (fun (y : Int) => [Go.Value.int .i64 y]) (ints (sel m false (c.N).toNat))) :: Res.row p [.int .i64 c.N, .int .i64 c.K, .int .i64 c.Delta, .int .u64 ((wd m 0 : Nat) : Int), .int .u64 ((wd m 1 : Nat) : Int), .int .u64 ((wd m 2 : Nat) : Int), .int .u64 ((wd m 3 : Nat) : Int)] 133 :: Res.own 3 1 (.slice ao82 ((sel m true (c.N).toNat).length) co83) ((sel m true (c.N).toNat).length) (List.flatMap (fun (y : Int) => [Go.Value.int .i64 y]) zs54) :: Res.own 3 1 (.slice ao73 ((sel m false (c.N).toNat).length) co74) ((sel m false (c.N).toNat).length) (List.flatMap (fun (y : Nat) => [Go.Value.int .i64 (y : Int)]) (sel m false (c.N).toNat)) :: Res.row q [.int .i64 c.N, .int .i64 c.K, .int .i64 c.Delta, .slice a n cp] 163 :: Res.own 3 1 (.slice a n cp) n (List.flatMap (fun (y : Int) => [Go.Value.int .i64 y]) ys) :: Res.own 3 1 (.slice ao63 ((sel m true (c.N).toNat).length) co64) ((sel m true (c.N).toNat).length) (List.flatMap (fun (y : Nat) => [Go.Value.int .i64 (y : Int)]) (sel m true (c.N).toNat)) :: L) w130 := by rw [show Res.own 3 1 (.slice ao91 ((sel m false (c.N).toNat).length) co92) ((sel m false (c.N).toNat).length) (List.flatMap (fun (y : Int) => [Go.Value.int .i64 y]) (ints (sel m false (c.N).toNat))) = Res.own 3 1 (.slice ao91 ((sel m false (c.N).toNat).length) co92) ((sel m false (c.N).toNat).length) (List.flatMap (fun (y : Nat) => [Go.Value.int .i64 (y : Int)]) (sel m false (c.N).toNat)) from by rw [ints_flat]]; exact hp131
        refine WP.loop (fun mz_ e145 w146 => ∃ (k : Nat) (zs63 : List Int), mz_ = (sel m false (c.N).toNat).length - k ∧ (k ≤ (sel m false (c.N).toNat).length ∧ ∀ j, j < k → zs63[j]! = -2) ∧ List.map e145 [0, 5, 6, 7, 8, 62, 63] = [.pointer (some ⟨p, 0, none⟩), .slice ao63 ((sel m true (c.N).toNat).length) co64, .slice ao73 ((sel m false (c.N).toNat).length) co74, .slice ao82 ((sel m true (c.N).toNat).length) co83, .slice ao91 ((sel m false (c.N).toNat).length) co92, .int .i64 (((sel m false (c.N).toNat).length : Nat) : Int), .int .i64 (k : Int)] ∧ Hp w0 Non (Res.own 3 1 (.slice ao91 ((sel m false (c.N).toNat).length) co92) ((sel m false (c.N).toNat).length) (List.flatMap (fun (y : Int) => [Go.Value.int .i64 y]) zs63) :: Res.row p [.int .i64 c.N, .int .i64 c.K, .int .i64 c.Delta, .int .u64 ((wd m 0 : Nat) : Int), .int .u64 ((wd m 1 : Nat) : Int), .int .u64 ((wd m 2 : Nat) : Int), .int .u64 ((wd m 3 : Nat) : Int)] 133 :: Res.own 3 1 (.slice ao82 ((sel m true (c.N).toNat).length) co83) ((sel m true (c.N).toNat).length) (List.flatMap (fun (y : Int) => [Go.Value.int .i64 y]) zs54) :: Res.own 3 1 (.slice ao73 ((sel m false (c.N).toNat).length) co74) ((sel m false (c.N).toNat).length) (List.flatMap (fun (y : Nat) => [Go.Value.int .i64 (y : Int)]) (sel m false (c.N).toNat)) :: Res.row q [.int .i64 c.N, .int .i64 c.K, .int .i64 c.Delta, .slice a n cp] 163 :: Res.own 3 1 (.slice a n cp) n (List.flatMap (fun (y : Int) => [Go.Value.int .i64 y]) ys) :: Res.own 3 1 (.slice ao63 ((sel m true (c.N).toNat).length) co64) ((sel m true (c.N).toNat).length) (List.flatMap (fun (y : Nat) => [Go.Value.int .i64 (y : Int)]) (sel m true (c.N).toNat)) :: L) w146) ((sel m false (c.N).toNat).length - (0)) ⟨0, (ints (sel m false (c.N).toNat)), rfl, ⟨by omega, fun j hj => by omega⟩, by kernel_rfl, hp144⟩ ?_
        rintro _ e145 w146 ⟨k, zs63, rfl, hI148, hE149, hp147⟩
        obtain ⟨b150, rfl⟩ := toMk hE149
        clear hE149
        obtain ⟨k1_63, k2_63⟩ := hI148
        have kz_63 := own_flat (sz := 1) (fun _ => rfl) (by decide) hp147.get0
        refine WP.seq ?_
        refine WP.pure {} [] [0, 5, 6, 7, 8, 62, 63, 64] [.pointer (some ⟨p, 0, none⟩), .slice ao63 ((sel m true (c.N).toNat).length) co64, .slice ao73 ((sel m false (c.N).toNat).length) co74, .slice ao82 ((sel m true (c.N).toNat).length) co83, .slice ao91 ((sel m false (c.N).toNat).length) co92, .int .i64 (((sel m false (c.N).toNat).length : Nat) : Int), .int .i64 (k : Int), .bool (decide ((k : Int) < (((sel m false (c.N).toNat).length : Nat) : Int)))] .nil (by kernel_rfl) (fun b151 => ?_)
        refine thn_n ?_
        refine WP.seq ?_
        refine WP.test (p := (k : Int) < (((sel m false (c.N).toNat).length : Nat) : Int)) rfl Bp.dec (fun h152 => ?_) (fun h152 => ?_)
        · refine WP.skip ?_
          refine thn_n ?_
          refine WP.seq ?_
          refine WP.block ?_
          refine WP.seq ?_
          refine WP.pure {} [] [0, 5, 6, 7, 8, 10, 62, 63] [.pointer (some ⟨p, 0, none⟩), .slice ao63 ((sel m true (c.N).toNat).length) co64, .slice ao73 ((sel m false (c.N).toNat).length) co74, .slice ao82 ((sel m true (c.N).toNat).length) co83, .slice ao91 ((sel m false (c.N).toNat).length) co92, .int .i64 (k : Int), .int .i64 (((sel m false (c.N).toNat).length : Nat) : Int), .int .i64 (k : Int)] .nil (by kernel_rfl) (fun b153 => ?_)
          refine thn_n ?_
          refine WP.region _ rfl (by kernel_rfl) ?_
          refine OPS.batch 3 {} [] [0, 5, 6, 7, 8, 62, 63, 68] [.pointer (some ⟨p, 0, none⟩), .slice ao63 ((sel m true (c.N).toNat).length) co64, .slice ao73 ((sel m false (c.N).toNat).length) co74, .slice ao82 ((sel m true (c.N).toNat).length) co83, .slice ao91 ((sel m false (c.N).toNat).length) co92, .int .i64 (((sel m false (c.N).toNat).length : Nat) : Int), .int .i64 (k : Int), .pointer (some ((adr ao91).add (k * 1)))] (.cons (show InB ((k : Int)) ((sel m false (c.N).toNat).length) from ⟨by omega, by omega⟩) (.cons ((SlR.own (hp147.get0)).some (by omega)) .nil)) (by kernel_rfl) (fun b154 => ?_)
          have := own_flat (sz := 1) (fun _ => rfl) (by decide) hp147.get0
          try simp only [List.length_set] at this
          refine OPS.cons (opStep.storeOwn0 (k * 1) hp147 rfl [.int .i64 (-2)] (by kernel_rfl) (by simp) (show k * 1 + 1 ≤ ((sel m false (c.N).toNat).length) * 1 by omega) (fun w155 hp156 => ?_))
          have hp157 := hp156
          rw [show ow (List.flatMap (fun (y : Int) => [Go.Value.int .i64 y]) zs63) (k * 1) [.int .i64 (-2)] = List.flatMap (fun (y : Int) => [Go.Value.int .i64 y]) (zs63.set k (-2)) from ow_flat (sz := 1) (fun _ => rfl) (by first | (omega) | (simp only [List.length_set]; omega)) (-2)] at hp157
          refine OPS.nil ?_
          refine blk_n ?_
          refine thn_n ?_
          refine WP.pure {} [] [0, 5, 6, 7, 8, 62, 63] [.pointer (some ⟨p, 0, none⟩), .slice ao63 ((sel m true (c.N).toNat).length) co64, .slice ao73 ((sel m false (c.N).toNat).length) co74, .slice ao82 ((sel m true (c.N).toNat).length) co83, .slice ao91 ((sel m false (c.N).toNat).length) co92, .int .i64 (((sel m false (c.N).toNat).length : Nat) : Int), .int .i64 ((k : Int) + 1)] (.cons (show Rng .i64 ((k : Int) + 1) from Rng.i64 (by omega)) .nil) (by kernel_rfl) (fun b158 => ?_)
          refine thn_n ?_
          exact ⟨(sel m false (c.N).toNat).length - (k + 1), (by omega), k + 1, zs63.set k (-2), rfl, ⟨by omega, all_set (by omega) k2_63⟩, by kernel_rfl, hp157⟩
        · refine WP.exit ?_
          refine thn_x ?_
          refine thn_x ?_
          refine blk_hit ?_
          refine thn_n ?_
          refine WP.seq ?_
          refine WP.region _ rfl (by kernel_rfl) ?_
          refine OPS.batch 1 {} [] [0, 5, 6, 8, 70] [.pointer (some ⟨p, 0, none⟩), .slice ao63 ((sel m true (c.N).toNat).length) co64, .slice ao73 ((sel m false (c.N).toNat).length) co74, .slice ao91 ((sel m false (c.N).toNat).length) co92, .slice ao82 ((sel m true (c.N).toNat).length) co83] .nil (by kernel_rfl) (fun b159 => ?_)
          refine OPS.cons (opStep.buildSlice (E := 3) hp147 [.int .i64 (-1)] (by kernel_rfl) (fun g162 w160 hp161 => ?_))
          refine OPS.cons (opStep.append3 [.int .i64 (-1)] hp161 8 (by kernel_rfl) rfl rfl rfl (SlR.row (n := 1) hp161.get0 rfl).rd (List.all_eq_true.1 (by kernel_rfl)) (by decide) (by omega) (by omega) (fun a165 c166 w167 hp168 hn169 => ?_))
          rw [(show List.flatMap (fun (y : Int) => [Go.Value.int .i64 y]) zs54 ++ [.int .i64 (-1)] = List.flatMap (fun (y : Int) => [Go.Value.int .i64 y]) (zs54 ++ [(-1)]) from (List.flatMap_append (xs := zs54) (ys := [(-1)])).symm)] at hp168
          refine OPS.batch 1 {} [] [0, 5, 6, 7, 8] [.pointer (some ⟨p, 0, none⟩), .slice ao63 ((sel m true (c.N).toNat).length) co64, .slice ao73 ((sel m false (c.N).toNat).length) co74, .slice a165 ((sel m true (c.N).toNat).length + 1) c166, .slice ao91 ((sel m false (c.N).toNat).length) co92] .nil (by kernel_rfl) (fun b170 => ?_)
          refine OPS.nil ?_
          refine thn_n ?_
          refine WP.seq ?_
          refine WP.region _ rfl (by kernel_rfl) ?_
          refine OPS.batch 1 {} [] [0, 5, 6, 7, 73] [.pointer (some ⟨p, 0, none⟩), .slice ao63 ((sel m true (c.N).toNat).length) co64, .slice ao73 ((sel m false (c.N).toNat).length) co74, .slice a165 ((sel m true (c.N).toNat).length + 1) c166, .slice ao91 ((sel m false (c.N).toNat).length) co92] .nil (by kernel_rfl) (fun b171 => ?_)
          refine OPS.cons (opStep.buildSlice (E := 3) hp168 [.int .i64 (-2)] (by kernel_rfl) (fun g174 w172 hp173 => ?_))
          refine OPS.cons (opStep.append2 [.int .i64 (-2)] hp173 8 (by kernel_rfl) rfl rfl rfl (SlR.row (n := 1) hp173.get0 rfl).rd (List.all_eq_true.1 (by kernel_rfl)) (by decide) (by omega) (by omega) (fun a177 c178 w179 hp180 hn181 => ?_))
          rw [(show List.flatMap (fun (y : Int) => [Go.Value.int .i64 y]) zs63 ++ [.int .i64 (-2)] = List.flatMap (fun (y : Int) => [Go.Value.int .i64 y]) (zs63 ++ [(-2)]) from (List.flatMap_append (xs := zs63) (ys := [(-2)])).symm)] at hp180
          refine OPS.batch 1 {} [] [0, 5, 6, 7, 8] [.pointer (some ⟨p, 0, none⟩), .slice ao63 ((sel m true (c.N).toNat).length) co64, .slice ao73 ((sel m false (c.N).toNat).length) co74, .slice a165 ((sel m true (c.N).toNat).length + 1) c166, .slice a177 ((sel m false (c.N).toNat).length + 1) c178] .nil (by kernel_rfl) (fun b182 => ?_)
          refine OPS.nil ?_
          refine thn_n ?_
          refine WP.seq ?_
          refine WP.seq ?_
          refine WP.pure {} [] [0, 5, 6, 8, 76, 77, 78] [.pointer (some ⟨p, 0, none⟩), .slice ao63 ((sel m true (c.N).toNat).length) co64, .slice ao73 ((sel m false (c.N).toNat).length) co74, .slice a177 ((sel m false (c.N).toNat).length + 1) c178, .slice a165 ((sel m true (c.N).toNat).length + 1) c166, .int .i64 (((sel m true (c.N).toNat).length + 1 : Nat) : Int), .int .i64 0] .nil (by kernel_rfl) (fun b183 => ?_)
          refine thn_n ?_
          refine WP.block ?_
          refine WP.loop (fun mz_ e184 w185 => ∃ (k : Nat), mz_ = zs54.length + 1 - k ∧ (k ≤ zs54.length + 1) ∧ List.map e184 [0, 5, 6, 8, 76, 77, 78] = [.pointer (some ⟨p, 0, none⟩), .slice ao63 ((sel m true (c.N).toNat).length) co64, .slice ao73 ((sel m false (c.N).toNat).length) co74, .slice a177 ((sel m false (c.N).toNat).length + 1) c178, .slice a165 ((sel m true (c.N).toNat).length + 1) c166, .int .i64 (((sel m true (c.N).toNat).length + 1 : Nat) : Int), .int .i64 (k : Int)] ∧ Hp w0 Non (Res.row g174 [.int .i64 (-2)] 3 :: Res.row g162 [.int .i64 (-1)] 3 :: Res.own 3 1 (.slice a177 ((sel m false (c.N).toNat).length + 1) c178) ((sel m false (c.N).toNat).length + 1) (List.flatMap (fun (y : Int) => [Go.Value.int .i64 y]) (zs63 ++ [(-2)])) :: Res.row p [.int .i64 c.N, .int .i64 c.K, .int .i64 c.Delta, .int .u64 ((wd m 0 : Nat) : Int), .int .u64 ((wd m 1 : Nat) : Int), .int .u64 ((wd m 2 : Nat) : Int), .int .u64 ((wd m 3 : Nat) : Int)] 133 :: Res.own 3 1 (.slice a165 ((sel m true (c.N).toNat).length + 1) c166) ((sel m true (c.N).toNat).length + 1) (List.flatMap (fun (y : Int) => [Go.Value.int .i64 y]) (zs54 ++ [(-1)])) :: Res.own 3 1 (.slice ao73 ((sel m false (c.N).toNat).length) co74) ((sel m false (c.N).toNat).length) (List.flatMap (fun (y : Nat) => [Go.Value.int .i64 (y : Int)]) (sel m false (c.N).toNat)) :: Res.row q [.int .i64 c.N, .int .i64 c.K, .int .i64 c.Delta, .slice a n cp] 163 :: Res.own 3 1 (.slice a n cp) n (List.flatMap (fun (y : Int) => [Go.Value.int .i64 y]) ys) :: Res.own 3 1 (.slice ao63 ((sel m true (c.N).toNat).length) co64) ((sel m true (c.N).toNat).length) (List.flatMap (fun (y : Nat) => [Go.Value.int .i64 (y : Int)]) (sel m true (c.N).toNat)) :: L) w185) (zs54.length + 1 - (0)) ⟨0, rfl, (by omega), by kernel_rfl, hp180⟩ ?_
          rintro _ e184 w185 ⟨k, rfl, hI187, hE188, hp186⟩
          obtain ⟨b189, rfl⟩ := toMk hE188
          clear hE188
          obtain kk_78 := hI187
          refine WP.seq ?_
          refine WP.pure {} [] [0, 5, 6, 8, 76, 77, 78, 79] [.pointer (some ⟨p, 0, none⟩), .slice ao63 ((sel m true (c.N).toNat).length) co64, .slice ao73 ((sel m false (c.N).toNat).length) co74, .slice a177 ((sel m false (c.N).toNat).length + 1) c178, .slice a165 ((sel m true (c.N).toNat).length + 1) c166, .int .i64 (((sel m true (c.N).toNat).length + 1 : Nat) : Int), .int .i64 (k : Int), .bool (decide ((k : Int) < (((sel m true (c.N).toNat).length + 1 : Nat) : Int)))] .nil (by kernel_rfl) (fun b190 => ?_)
          refine thn_n ?_
          refine WP.seq ?_
          refine WP.test (p := (k : Int) < (((sel m true (c.N).toNat).length + 1 : Nat) : Int)) rfl Bp.dec (fun h191 => ?_) (fun h191 => ?_)
          · refine WP.skip ?_
            refine thn_n ?_
            refine WP.seq ?_
            refine WP.block ?_
            refine WP.seq ?_
            have := own_flat (sz := 1) (fun _ => rfl) (by decide) hp186.get4
            have hy193 : (zs54 ++ [(-1)])[k]? = some (zs54 ++ [(-1)])[k]! := get_bang (by first | (omega) | (simp only [List.length_append, List.length_cons, List.length_nil]; omega) | (simp only [List.length_take, List.length_append, List.length_cons, List.length_nil]; omega))
            refine WP.pure {} [.int .i64 ((zs54 ++ [(-1)])[k]!)] [0, 5, 6, 8, 12, 76, 77, 78] [.pointer (some ⟨p, 0, none⟩), .slice ao63 ((sel m true (c.N).toNat).length) co64, .slice ao73 ((sel m false (c.N).toNat).length) co74, .slice a177 ((sel m false (c.N).toNat).length + 1) c178, .int .i64 ((zs54 ++ [(-1)])[k]!), .slice a165 ((sel m true (c.N).toNat).length + 1) c166, .int .i64 (((sel m true (c.N).toNat).length + 1 : Nat) : Int), .int .i64 (k : Int)] (.cons (show InB ((k : Int)) ((sel m true (c.N).toNat).length + 1) from ⟨by omega, by omega⟩) (.cons ((SlR.own (hp186.get4)).some (by omega)) (.cons (Ld.add0 (Ld.el1 (P := Try.prog) (t := 3) (SlR.own (hp186.get4)).rd 1 (fun _ => rfl) hy193 (o := 0) (v := .int .i64 ((zs54 ++ [(-1)])[k]!)) (by kernel_rfl))) .nil))) (by kernel_rfl) (fun b194 => ?_)
            refine thn_n ?_
            refine WP.seq ?_
            refine WP.pure {} [] [0, 5, 6, 8, 76, 77, 78, 83] [.pointer (some ⟨p, 0, none⟩), .slice ao63 ((sel m true (c.N).toNat).length) co64, .slice ao73 ((sel m false (c.N).toNat).length) co74, .slice a177 ((sel m false (c.N).toNat).length + 1) c178, .slice a165 ((sel m true (c.N).toNat).length + 1) c166, .int .i64 (((sel m true (c.N).toNat).length + 1 : Nat) : Int), .int .i64 (k : Int), .bool (decide (¬ (((zs54 ++ [(-1)])[k]!) = (-1))))] .nil (by kernel_rfl) (fun b195 => ?_)
            refine thn_n ?_
            refine WP.test (p := ¬ (((zs54 ++ [(-1)])[k]!) = (-1))) rfl Bp.dec (fun h196 => ?_) (fun h196 => ?_)
            · refine WP.seq ?_
              refine WP.pure {} [] [4] [.bool false] .nil (by kernel_rfl) (fun b197 => ?_)
              refine thn_n ?_
              refine WP.ret ?_
              refine blk_r ?_
              refine thn_r ?_
              refine thn_r ?_
              refine blk_r ?_
              refine thn_r ?_
              refine bodyQ.of _ rfl [.bool false] ⟨rfl, trivial⟩ ?_
              exfalso
              exact h196 (all_more (zs := zs54) kz_54 (fun j hj => k2_54 j (by omega)) (by omega))
            · replace h196 := Classical.not_not.1 h196
              refine WP.skip ?_
              refine blk_n ?_
              refine thn_n ?_
              refine WP.pure {} [] [0, 5, 6, 8, 76, 77, 78] [.pointer (some ⟨p, 0, none⟩), .slice ao63 ((sel m true (c.N).toNat).length) co64, .slice ao73 ((sel m false (c.N).toNat).length) co74, .slice a177 ((sel m false (c.N).toNat).length + 1) c178, .slice a165 ((sel m true (c.N).toNat).length + 1) c166, .int .i64 (((sel m true (c.N).toNat).length + 1 : Nat) : Int), .int .i64 ((k : Int) + 1)] (.cons (show Rng .i64 ((k : Int) + 1) from Rng.i64 (by omega)) .nil) (by kernel_rfl) (fun b198 => ?_)
              refine thn_n ?_
              exact ⟨zs54.length + 1 - (k + 1), (by omega), k + 1, rfl, (by omega), by kernel_rfl, hp186⟩
          · refine WP.exit ?_
            refine thn_x ?_
            refine thn_x ?_
            refine blk_hit ?_
            refine thn_n ?_
            refine WP.seq ?_
            refine WP.seq ?_
            refine WP.pure {} [] [0, 5, 6, 85, 86, 87] [.pointer (some ⟨p, 0, none⟩), .slice ao63 ((sel m true (c.N).toNat).length) co64, .slice ao73 ((sel m false (c.N).toNat).length) co74, .slice a177 ((sel m false (c.N).toNat).length + 1) c178, .int .i64 (((sel m false (c.N).toNat).length + 1 : Nat) : Int), .int .i64 0] .nil (by kernel_rfl) (fun b199 => ?_)
            refine thn_n ?_
            refine WP.block ?_
            refine WP.loop (fun mz_ e200 w201 => ∃ (k : Nat), mz_ = zs63.length + 1 - k ∧ (k ≤ zs63.length + 1) ∧ List.map e200 [0, 5, 6, 85, 86, 87] = [.pointer (some ⟨p, 0, none⟩), .slice ao63 ((sel m true (c.N).toNat).length) co64, .slice ao73 ((sel m false (c.N).toNat).length) co74, .slice a177 ((sel m false (c.N).toNat).length + 1) c178, .int .i64 (((sel m false (c.N).toNat).length + 1 : Nat) : Int), .int .i64 (k : Int)] ∧ Hp w0 Non (Res.row g174 [.int .i64 (-2)] 3 :: Res.row g162 [.int .i64 (-1)] 3 :: Res.own 3 1 (.slice a177 ((sel m false (c.N).toNat).length + 1) c178) ((sel m false (c.N).toNat).length + 1) (List.flatMap (fun (y : Int) => [Go.Value.int .i64 y]) (zs63 ++ [(-2)])) :: Res.row p [.int .i64 c.N, .int .i64 c.K, .int .i64 c.Delta, .int .u64 ((wd m 0 : Nat) : Int), .int .u64 ((wd m 1 : Nat) : Int), .int .u64 ((wd m 2 : Nat) : Int), .int .u64 ((wd m 3 : Nat) : Int)] 133 :: Res.own 3 1 (.slice a165 ((sel m true (c.N).toNat).length + 1) c166) ((sel m true (c.N).toNat).length + 1) (List.flatMap (fun (y : Int) => [Go.Value.int .i64 y]) (zs54 ++ [(-1)])) :: Res.own 3 1 (.slice ao73 ((sel m false (c.N).toNat).length) co74) ((sel m false (c.N).toNat).length) (List.flatMap (fun (y : Nat) => [Go.Value.int .i64 (y : Int)]) (sel m false (c.N).toNat)) :: Res.row q [.int .i64 c.N, .int .i64 c.K, .int .i64 c.Delta, .slice a n cp] 163 :: Res.own 3 1 (.slice a n cp) n (List.flatMap (fun (y : Int) => [Go.Value.int .i64 y]) ys) :: Res.own 3 1 (.slice ao63 ((sel m true (c.N).toNat).length) co64) ((sel m true (c.N).toNat).length) (List.flatMap (fun (y : Nat) => [Go.Value.int .i64 (y : Int)]) (sel m true (c.N).toNat)) :: L) w201) (zs63.length + 1 - (0)) ⟨0, rfl, (by omega), by kernel_rfl, hp186⟩ ?_
            rintro _ e200 w201 ⟨k, rfl, hI203, hE204, hp202⟩
            obtain ⟨b205, rfl⟩ := toMk hE204
            clear hE204
            obtain kk_87 := hI203
            refine WP.seq ?_
            refine WP.pure {} [] [0, 5, 6, 85, 86, 87, 88] [.pointer (some ⟨p, 0, none⟩), .slice ao63 ((sel m true (c.N).toNat).length) co64, .slice ao73 ((sel m false (c.N).toNat).length) co74, .slice a177 ((sel m false (c.N).toNat).length + 1) c178, .int .i64 (((sel m false (c.N).toNat).length + 1 : Nat) : Int), .int .i64 (k : Int), .bool (decide ((k : Int) < (((sel m false (c.N).toNat).length + 1 : Nat) : Int)))] .nil (by kernel_rfl) (fun b206 => ?_)
            refine thn_n ?_
            refine WP.seq ?_
            refine WP.test (p := (k : Int) < (((sel m false (c.N).toNat).length + 1 : Nat) : Int)) rfl Bp.dec (fun h207 => ?_) (fun h207 => ?_)
            · refine WP.skip ?_
              refine thn_n ?_
              refine WP.seq ?_
              refine WP.block ?_
              refine WP.seq ?_
              have := own_flat (sz := 1) (fun _ => rfl) (by decide) hp202.get2
              have hy209 : (zs63 ++ [(-2)])[k]? = some (zs63 ++ [(-2)])[k]! := get_bang (by first | (omega) | (simp only [List.length_append, List.length_cons, List.length_nil]; omega) | (simp only [List.length_take, List.length_append, List.length_cons, List.length_nil]; omega))
              refine WP.pure {} [.int .i64 ((zs63 ++ [(-2)])[k]!)] [0, 5, 6, 14, 85, 86, 87] [.pointer (some ⟨p, 0, none⟩), .slice ao63 ((sel m true (c.N).toNat).length) co64, .slice ao73 ((sel m false (c.N).toNat).length) co74, .int .i64 ((zs63 ++ [(-2)])[k]!), .slice a177 ((sel m false (c.N).toNat).length + 1) c178, .int .i64 (((sel m false (c.N).toNat).length + 1 : Nat) : Int), .int .i64 (k : Int)] (.cons (show InB ((k : Int)) ((sel m false (c.N).toNat).length + 1) from ⟨by omega, by omega⟩) (.cons ((SlR.own (hp202.get2)).some (by omega)) (.cons (Ld.add0 (Ld.el1 (P := Try.prog) (t := 3) (SlR.own (hp202.get2)).rd 1 (fun _ => rfl) hy209 (o := 0) (v := .int .i64 ((zs63 ++ [(-2)])[k]!)) (by kernel_rfl))) .nil))) (by kernel_rfl) (fun b210 => ?_)
              refine thn_n ?_
              refine WP.seq ?_
              refine WP.pure {} [] [0, 5, 6, 85, 86, 87, 92] [.pointer (some ⟨p, 0, none⟩), .slice ao63 ((sel m true (c.N).toNat).length) co64, .slice ao73 ((sel m false (c.N).toNat).length) co74, .slice a177 ((sel m false (c.N).toNat).length + 1) c178, .int .i64 (((sel m false (c.N).toNat).length + 1 : Nat) : Int), .int .i64 (k : Int), .bool (decide (¬ (((zs63 ++ [(-2)])[k]!) = (-2))))] .nil (by kernel_rfl) (fun b211 => ?_)
              refine thn_n ?_
              refine WP.test (p := ¬ (((zs63 ++ [(-2)])[k]!) = (-2))) rfl Bp.dec (fun h212 => ?_) (fun h212 => ?_)
              · refine WP.seq ?_
                refine WP.pure {} [] [4] [.bool false] .nil (by kernel_rfl) (fun b213 => ?_)
                refine thn_n ?_
                refine WP.ret ?_
                refine blk_r ?_
                refine thn_r ?_
                refine thn_r ?_
                refine blk_r ?_
                refine thn_r ?_
                refine bodyQ.of _ rfl [.bool false] ⟨rfl, trivial⟩ ?_
                exfalso
                exact h212 (all_more (zs := zs63) kz_63 (fun j hj => k2_63 j (by omega)) (by omega))
              · replace h212 := Classical.not_not.1 h212
                refine WP.skip ?_
                refine blk_n ?_
                refine thn_n ?_
                refine WP.pure {} [] [0, 5, 6, 85, 86, 87] [.pointer (some ⟨p, 0, none⟩), .slice ao63 ((sel m true (c.N).toNat).length) co64, .slice ao73 ((sel m false (c.N).toNat).length) co74, .slice a177 ((sel m false (c.N).toNat).length + 1) c178, .int .i64 (((sel m false (c.N).toNat).length + 1 : Nat) : Int), .int .i64 ((k : Int) + 1)] (.cons (show Rng .i64 ((k : Int) + 1) from Rng.i64 (by omega)) .nil) (by kernel_rfl) (fun b214 => ?_)
                refine thn_n ?_
                exact ⟨zs63.length + 1 - (k + 1), (by omega), k + 1, rfl, (by omega), by kernel_rfl, hp202⟩
            · refine WP.exit ?_
              refine thn_x ?_
              refine thn_x ?_
              refine blk_hit ?_
              refine thn_n ?_
              refine WP.cut (fun e254 w255 => ∃ (x252 : Bool), (True) ∧ Bp x252 ((ints (sel m true (c.N).toNat) = ints (sel m true (c.N).toNat)) ∧ (ints (sel m false (c.N).toNat) = ints (sel m false (c.N).toNat))) ∧ List.map e254 [4] = [.bool x252] ∧ Hp w0 Non (Res.row p [.int .i64 c.N, .int .i64 c.K, .int .i64 c.Delta, .int .u64 ((wd m 0 : Nat) : Int), .int .u64 ((wd m 1 : Nat) : Int), .int .u64 ((wd m 2 : Nat) : Int), .int .u64 ((wd m 3 : Nat) : Int)] 133 :: Res.row g174 [.int .i64 (-2)] 3 :: Res.row g162 [.int .i64 (-1)] 3 :: Res.own 3 1 (.slice a177 ((sel m false (c.N).toNat).length + 1) c178) ((sel m false (c.N).toNat).length + 1) (List.flatMap (fun (y : Int) => [Go.Value.int .i64 y]) (zs63 ++ [(-2)])) :: Res.own 3 1 (.slice a165 ((sel m true (c.N).toNat).length + 1) c166) ((sel m true (c.N).toNat).length + 1) (List.flatMap (fun (y : Int) => [Go.Value.int .i64 y]) (zs54 ++ [(-1)])) :: Res.own 3 1 (.slice ao73 ((sel m false (c.N).toNat).length) co74) ((sel m false (c.N).toNat).length) (List.flatMap (fun (y : Nat) => [Go.Value.int .i64 (y : Int)]) (sel m false (c.N).toNat)) :: Res.row q [.int .i64 c.N, .int .i64 c.K, .int .i64 c.Delta, .slice a n cp] 163 :: Res.own 3 1 (.slice a n cp) n (List.flatMap (fun (y : Int) => [Go.Value.int .i64 y]) ys) :: Res.own 3 1 (.slice ao63 ((sel m true (c.N).toNat).length) co64) ((sel m true (c.N).toNat).length) (List.flatMap (fun (y : Nat) => [Go.Value.int .i64 (y : Int)]) (sel m true (c.N).toNat)) :: L) w255) ?_ ?_
              · refine WP.region _ rfl (by kernel_rfl) ?_
                refine OPS.batch 1 {} [] [0, 5, 6, 94] [.pointer (some ⟨p, 0, none⟩), .slice ao63 ((sel m true (c.N).toNat).length) co64, .slice ao73 ((sel m false (c.N).toNat).length) co74, .pointer (some ⟨p, 0, none⟩)] .nil (by kernel_rfl) (fun b216 => ?_)
                have hp219 := hp202.pull3
                refine OPS.cons (opStep.call (some 95) [.pointer (some ⟨p, 0, none⟩)] (by kernel_rfl) (q_List _ _ _ c m _ hok  hp219) ?_)
                rintro _ w220 ⟨ao222, co223, rfl, hp221⟩
                refine ⟨_, rfl, ?_⟩
                have := sel_le m true (c.N).toNat
                refine OPS.batch 1 {} [] [0, 6, 95, 96] [.pointer (some ⟨p, 0, none⟩), .slice ao73 ((sel m false (c.N).toNat).length) co74, .slice ao222 ((sel m true (c.N).toNat).length) co223, .slice ao63 ((sel m true (c.N).toNat).length) co64] .nil (by kernel_rfl) (fun b224 => ?_)
                refine OPS.cons (opStep.call (some 97) [.slice ao222 ((sel m true (c.N).toNat).length) co223, .slice ao63 ((sel m true (c.N).toNat).length) co64] (by kernel_rfl) (sherdlaw09_sameInts (ints (sel m true (c.N).toNat)) (ints (sel m true (c.N).toNat)) ao222 ao63 ((sel m true (c.N).toNat).length) ((sel m true (c.N).toNat).length) co223 co64 _ ((ints_len _).trans (own_flat (sz := 1) (fun _ => rfl) (by decide) hp221.get0)) ((ints_len _).trans (own_flat (sz := 1) (fun _ => rfl) (by decide) hp221.get9)) (by first | decide | (simp only [ints_len]; exact Nat.le_trans (sel_le _ _ _) (by omega)) | (simp only [ints_len]; omega)) (slr_ints (SlR.own hp221.get0)) (slr_ints (SlR.own hp221.get9))) ?_)
                rintro _ w227 ⟨b230, rfl, hb231, hf228⟩
                refine ⟨_, rfl, ?_⟩
                have hp229 := hp221.step hf228
                refine OPS.batch 1 {} [] [0, 6, 98] [.pointer (some ⟨p, 0, none⟩), .slice ao73 ((sel m false (c.N).toNat).length) co74, .bool b230] .nil (by kernel_rfl) (fun b232 => ?_)
                by_cases h233 : ints (sel m true (c.N).toNat) = ints (sel m true (c.N).toNat)
                · rw [show b230 = true from hb231.tt h233]
                  refine OPS.batch 1 {} [] [6, 98, 99] [.slice ao73 ((sel m false (c.N).toNat).length) co74, .bool true, .pointer (some ⟨p, 0, none⟩)] .nil (by kernel_rfl) (fun b234 => ?_)
                  refine OPS.want (by kernel_rfl) ?_
                  have hp237 := hp229.pull1
                  refine OPS.cons (opStep.call (some 100) [.pointer (some ⟨p, 0, none⟩)] (by kernel_rfl) (q_Rest _ _ _ c m _ hok  hp237) ?_)
                  rintro _ w238 ⟨ao240, co241, rfl, hp239⟩
                  refine ⟨_, rfl, ?_⟩
                  have := sel_le m false (c.N).toNat
                  refine OPS.batch 1 {} [] [98, 100, 101] [.bool true, .slice ao240 ((sel m false (c.N).toNat).length) co241, .slice ao73 ((sel m false (c.N).toNat).length) co74] .nil (by kernel_rfl) (fun b242 => ?_)
                  refine OPS.want (by kernel_rfl) ?_
                  refine OPS.cons (opStep.call (some 102) [.slice ao240 ((sel m false (c.N).toNat).length) co241, .slice ao73 ((sel m false (c.N).toNat).length) co74] (by kernel_rfl) (sherdlaw09_sameInts (ints (sel m false (c.N).toNat)) (ints (sel m false (c.N).toNat)) ao240 ao73 ((sel m false (c.N).toNat).length) ((sel m false (c.N).toNat).length) co241 co74 _ ((ints_len _).trans (own_flat (sz := 1) (fun _ => rfl) (by decide) hp239.get0)) ((ints_len _).trans (own_flat (sz := 1) (fun _ => rfl) (by decide) hp239.get7)) (by first | decide | (simp only [ints_len]; exact Nat.le_trans (sel_le _ _ _) (by omega)) | (simp only [ints_len]; omega)) (slr_ints (SlR.own hp239.get0)) (slr_ints (SlR.own hp239.get7))) ?_)
                  rintro _ w245 ⟨b248, rfl, hb249, hf246⟩
                  refine ⟨_, rfl, ?_⟩
                  have hp247 := hp239.step hf246
                  refine OPS.batch 2 { wraps := [103] } [] [4] [.bool b248] .nil (by kernel_rfl) (fun b250 => ?_)
                  refine OPS.nil ?_
                  refine thn_n ?_
                  exact ⟨b248, trivial, Bp.of hb249 (by first | (simp only [h233, iff_false, false_iff, iff_true, true_iff, Classical.not_not, and_true, true_and, and_false, false_and, or_true, true_or, or_false, false_or, not_true_eq_false, not_false_eq_true, and_self, or_self, iff_self]; done) | (simp [h233]; done) | simp_all), by kernel_rfl, (hp247.sub (.cons _ (.cons_cons _ (.cons _ (.cons_cons _ (.cons_cons _ (.cons_cons _ (.cons_cons _ (.cons_cons _ (.cons_cons _ (.cons_cons _ (.cons_cons _ (.refl _)))))))))))))⟩
                · rw [show b230 = false from hb231.ff h233]
                  refine OPS.batch 6 { wraps := [103] } [] [4] [.bool false] .nil (by kernel_rfl) (fun b251 => ?_)
                  refine OPS.nil ?_
                  refine thn_n ?_
                  exact ⟨false, trivial, Bp.of Bp.f (by first | (simp only [h233, iff_false, false_iff, iff_true, true_iff, Classical.not_not, and_true, true_and, and_false, false_and, or_true, true_or, or_false, false_or, not_true_eq_false, not_false_eq_true, and_self, or_self, iff_self]; done) | (simp [h233]; done) | simp_all), by kernel_rfl, (hp229.sub (.cons _ (.cons_cons _ (.cons_cons _ (.cons_cons _ (.cons_cons _ (.cons_cons _ (.cons_cons _ (.cons_cons _ (.cons_cons _ (.cons_cons _ (.refl _))))))))))))⟩
              rintro e254 w255 ⟨x252, hd257, hb253, hE258, hp256⟩
              obtain ⟨b259, rfl⟩ := toMk hE258
              clear hE258
              clear hd257
              refine WP.ret ?_
              refine bodyQ.of _ rfl [.bool x252] ⟨rfl, trivial⟩ ?_
              exact ⟨congrArg (fun b => Ending.returned (.bool b)) (Bp.tt hb253 (by first | exact ⟨rfl, rfl⟩ | rfl | simp)), (hp256.sub (.cons_cons _ (.cons _ (.cons _ (.cons _ (.cons _ (.cons _ (.cons_cons _ (.cons_cons _ (.cons _ (.refl _)))))))))))⟩

end Go.Proofs.Ythdkbbpiaeaojaa.K
