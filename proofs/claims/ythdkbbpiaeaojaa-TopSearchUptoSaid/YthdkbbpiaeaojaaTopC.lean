/- The walks of TopC: what each function computes. -/
import Derived.Test.YthdkbbpiaeaojaaProg
import Derived.Test.YthdkbbpiaeaojaaCoreO
import Derived.Test.YthdkbbpiaeaojaaTopB
import Derived.Test.YthdkbbpiaeaojaaCoreV
namespace Go.Proofs.Ythdkbbpiaeaojaa.K
open Go Go.Proofs Go.RowKit
set_option linter.unusedVariables false
set_option linter.unusedSimpArgs false
set_option maxRecDepth 20000
set_option maxHeartbeats 4000000

abbrev kS : ByteArray → Go.Value := fun s => .string s
abbrev vB : Bool → Go.Value := fun b => .bool b
theorem or_step {P : Nat → Prop} {k : Nat} {rs x : Bool} {p : Prop} (h : rs = true ↔ ∃ i, i < k ∧ P i) (hx : Bp x p) (hp : p ↔ (rs = true ∨ P k)) : x = true ↔ ∃ i, i < k + 1 ∧ P i := by
  rw [show (x = true) = p from propext hx, hp, h]
  constructor
  · rintro (⟨i, h1, h2⟩ | h2)
    · exact ⟨i, by omega, h2⟩
    · exact ⟨k, by omega, h2⟩
  · rintro ⟨i, h1, h2⟩
    rcases Nat.lt_or_ge i k with q | q
    · exact .inl ⟨i, q, h2⟩
    · obtain rfl : i = k := by omega
      exact .inr h2
theorem and_step {P : Nat → Prop} {k : Nat} {rs x : Bool} {p : Prop} (h : rs = true ↔ ∀ i, i < k → ¬ P i) (hx : Bp x p) (hp : p ↔ (rs = true ∧ ¬ P k)) : x = true ↔ ∀ i, i < k + 1 → ¬ P i := by
  rw [show (x = true) = p from propext hx, hp, h]
  constructor
  · rintro ⟨h1, h2⟩ i hi
    rcases Nat.lt_or_ge i k with q | q
    · exact h1 i q
    · obtain rfl : i = k := by omega
      exact h2
  · intro h
    exact ⟨fun i hi => h i (by omega), h k (by omega)⟩
theorem rest_done {l : List GCall} {inn : List Bool} {pre : List Nat} (hin : Ins l inn pre) {k : Nat} (hk : l.length ≤ k) {rs : Bool} (h : rs = true ↔ ∃ i, i < k ∧ (i < l.length ∧ partT l[i]! = 2 ∧ ¬ inn[i]! = true)) : doneA l pre ↔ ¬ rs = true := by
  rw [h]
  constructor
  · rintro d ⟨i, _, h1, h2, h3⟩
    exact h3 ((hin.2.1 i h1).2 (d i h1 (partT_two.1 h2)))
  · intro h i hi hm
    refine (hin.2.1 i hi).1 (Classical.byContradiction fun hn => h ⟨i, by omega, hi, partT_two.2 hm, hn⟩)
theorem free_may {val : SlH → ByteArray} {l : List GCall} {inn : List Bool} {pre : List Nat} (hin : Ins l inn pre) {k m : Nat} (hk : k < l.length) (hm : m = l.length) {fr : Bool} (h : fr = true ↔ ∀ j, j < m → ¬ (partT l[j]! = 2 ∧ ¬ inn[j]! = true ∧ ¬ j = k ∧ aheadT l j k))
    (h1 : ¬ inn[k]! = true) (h2 : ¬ partT l[k]! = 0) (h3 : fitT val l (lastOf l pre) k) : mayA val l pre k ↔ fr = true := by
  have hp : partC l[k]! := Classical.byContradiction fun q => h2 (partT_zero.2 q)
  rw [h]
  constructor
  · rintro ⟨_, _, _, d, _⟩ j hj ⟨a, b, c, e⟩
    have hjl : j < l.length := by omega
    exact b ((hin.2.1 j hjl).2 (d j hjl ((bef_T hp).2 ⟨a, c, e⟩)))
  · intro h
    refine ⟨hk, hp, fun q => h1 ((hin.2.1 k hk).2 q), fun j hj hb => ?_, h3⟩
    obtain ⟨a, c, e⟩ := (bef_T hp).1 hb
    exact (hin.2.1 j hj).1 (Classical.byContradiction fun hn => h j (by omega) ⟨a, hn, c, e⟩)
theorem cont_no {val : SlH → ByteArray} {l : List GCall} {inn : List Bool} {pre : List Nat} (hin : Ins l inn pre) {k : Nat} (hk : k < l.length) (h : inn[k]! = true ∨ partT l[k]! = 0 ∨ ¬ fitT val l (lastOf l pre) k ∨ ¬ wantT val l inn k) : wantT val l inn k → ∀ q, ¬ PathA val l pre (k :: q) := by
  intro hw q hp
  obtain ⟨_, ⟨_, a, b, _, c⟩, _⟩ := hp
  rcases h with h | h | h | h
  · exact b ((hin.2.1 k hk).1 h)
  · exact partT_zero.1 h a
  · exact h c
  · exact h hw
theorem last_snoc_of {l : List GCall} {pre : List Nat} {k : Nat} {x : Int} (h : (x = (k : Int) ∧ l[k]!.Put = true) ∨ (x = lastOf l pre ∧ ¬ l[k]!.Put = true)) : x = lastOf l (pre ++ [k]) := by
  rw [lastOf_snoc]
  rcases h with ⟨h, p⟩ | ⟨h, p⟩
  · rw [if_pos p, h]
  · rw [if_neg p, h]

theorem top_found_step (w0 : World) (l : List GCall) (n : Nat) (hn : l.length = n) (a : Option Addr) (cp : Nat) (hs : SlR w0 a n (l.flatMap GCall.cells)) (hv : ∀ x ∈ l, VB w0 x.Value) (hr : ByR w0 l) (hvn : ∀ x ∈ l, x.Value.n ≤ 1048576) (hll : l.length ≤ 1048576) (ai : Option Addr) (ni ci mb : Nat) (m : Nat) (ih : ∀ (L : List Res) (inn : List Bool) (pre : List Nat) (vain : List (ByteArray × Bool)) (w : World) (hin : Ins l inn pre) (hva : VainOk w0 l vain) (hp0 : Hp w0 Non (Res.own 4 1 (.slice ai ni ci) ni (List.flatMap (fun (y : Bool) => [Go.Value.bool y]) inn) :: Res.mp mb kS vB vain :: L) w), inn.count false < m → Calls Try.prog 99 #[.slice a n cp, .slice ai ni ci, .int .i64 (lastOf l pre), .map (some mb)] w (fun x w' => ∃ (b : Bool) (vain' : List (ByteArray × Bool)), x = .returned (.bool b) ∧ (b = true ↔ ∃ p, PathA (valAt w0) l pre p) ∧ VainOk w0 l vain' ∧ Hp w0 Non (Res.own 4 1 (.slice ai ni ci) ni (List.flatMap (fun (y : Bool) => [Go.Value.bool y]) inn) :: Res.mp mb kS vB vain' :: L) w')) (L : List Res) (inn : List Bool) (pre : List Nat) (vain : List (ByteArray × Bool)) (w : World) (hin : Ins l inn pre) (hva : VainOk w0 l vain) (hp0 : Hp w0 Non (Res.own 4 1 (.slice ai ni ci) ni (List.flatMap (fun (y : Bool) => [Go.Value.bool y]) inn) :: Res.mp mb kS vB vain :: L) w) (hm : inn.count false ≤ m) :
    Calls Try.prog 99 #[.slice a n cp, .slice ai ni ci, .int .i64 (lastOf l pre), .map (some mb)] w (fun x w' => ∃ (b : Bool) (vain' : List (ByteArray × Bool)), x = .returned (.bool b) ∧ (b = true ↔ ∃ p, PathA (valAt w0) l pre p) ∧ VainOk w0 l vain' ∧ Hp w0 Non (Res.own 4 1 (.slice ai ni ci) ni (List.flatMap (fun (y : Bool) => [Go.Value.bool y]) inn) :: Res.mp mb kS vB vain' :: L) w') := by
  have hin0 := hin
  obtain ⟨hi1, hi2, hi3⟩ := hin0
  have hni := own_flat (sz := 1) (fun _ => rfl) (by decide) hp0.get0
  have hlt_ := lastOf_lt (l := l) hi3
  refine calls_of Try.func99 rfl 137 rfl (by simp) ?_
  have he0 : List.map (env0 [.slice a n cp, .slice ai ni ci, .int .i64 (lastOf l pre), .map (some mb)]) [0, 1, 2, 3] = [.slice a n cp, .slice ai ni ci, .int .i64 (lastOf l pre), .map (some mb)] := by kernel_rfl
  obtain ⟨b0, he0⟩ := toMk he0
  rw [he0]
  clear he0
  refine WP.seq ?_
  refine WP.pure {} [] [0, 1, 2, 3] [.slice a n cp, .slice ai ni ci, .int .i64 (lastOf l pre), .map (some mb)] .nil (by kernel_rfl) (fun b1 => ?_)
  refine thn_n ?_
  refine WP.seq ?_
  refine WP.pure {} [] [0, 1, 2, 3, 9] [.slice a n cp, .slice ai ni ci, .int .i64 (lastOf l pre), .map (some mb), .bool false] .nil (by kernel_rfl) (fun b2 => ?_)
  refine thn_n ?_
  refine WP.seq ?_
  refine WP.seq ?_
  refine WP.pure {} [] [0, 1, 2, 3, 9, 18, 19] [.slice a n cp, .slice ai ni ci, .int .i64 (lastOf l pre), .map (some mb), .bool false, .int .i64 ((n : Nat) : Int), .int .i64 0] .nil (by kernel_rfl) (fun b3 => ?_)
  refine thn_n ?_
  refine WP.block ?_
  refine WP.loop (fun mz_ e4 w5 => ∃ (k : Nat) (rs : Bool), mz_ = l.length - k ∧ (k ≤ l.length ∧ (rs = true ↔ ∃ i, i < k ∧ (i < l.length ∧ partT l[i]! = 2 ∧ ¬ inn[i]! = true))) ∧ List.map e4 [0, 1, 2, 3, 9, 18, 19] = [.slice a n cp, .slice ai ni ci, .int .i64 (lastOf l pre), .map (some mb), .bool rs, .int .i64 ((n : Nat) : Int), .int .i64 (k : Int)] ∧ Hp w0 Non (Res.own 4 1 (.slice ai ni ci) ni (List.flatMap (fun (y : Bool) => [Go.Value.bool y]) inn) :: Res.mp mb kS vB vain :: L) w5) (l.length - (0)) ⟨0, false, rfl, ⟨by omega, by simp⟩, by kernel_rfl, hp0⟩ ?_
  rintro _ e4 w5 ⟨k, rs, rfl, hI7, hE8, hp6⟩
  obtain ⟨b9, rfl⟩ := toMk hE8
  clear hE8
  obtain ⟨r1, r2⟩ := hI7
  refine WP.seq ?_
  refine WP.pure {} [] [0, 1, 2, 3, 9, 18, 19, 20] [.slice a n cp, .slice ai ni ci, .int .i64 (lastOf l pre), .map (some mb), .bool rs, .int .i64 ((n : Nat) : Int), .int .i64 (k : Int), .bool (decide ((k : Int) < ((n : Nat) : Int)))] .nil (by kernel_rfl) (fun b10 => ?_)
  refine thn_n ?_
  refine WP.seq ?_
  refine WP.test (p := (k : Int) < ((n : Nat) : Int)) rfl Bp.dec (fun h11 => ?_) (fun h11 => ?_)
  · refine WP.skip ?_
    refine thn_n ?_
    refine WP.seq ?_
    refine WP.block ?_
    refine WP.seq ?_
    refine WP.pure {} [] [0, 1, 2, 3, 9, 10, 18, 19] [.slice a n cp, .slice ai ni ci, .int .i64 (lastOf l pre), .map (some mb), .bool rs, .int .i64 (k : Int), .int .i64 ((n : Nat) : Int), .int .i64 (k : Int)] .nil (by kernel_rfl) (fun b12 => ?_)
    refine thn_n ?_
    refine WP.region _ rfl (by kernel_rfl) ?_
    refine OPS.batch 2 {} [] [0, 1, 2, 3, 10, 18, 19, 23] [.slice a n cp, .slice ai ni ci, .int .i64 (lastOf l pre), .map (some mb), .int .i64 (k : Int), .int .i64 ((n : Nat) : Int), .int .i64 (k : Int), .bool rs] .nil (by kernel_rfl) (fun b13 => ?_)
    by_cases h14 : rs = true
    · refine OPS.batch 0 {} [] [0, 1, 2, 3, 10, 18, 19, 23] [.slice a n cp, .slice ai ni ci, .int .i64 (lastOf l pre), .map (some mb), .int .i64 (k : Int), .int .i64 ((n : Nat) : Int), .int .i64 (k : Int), .bool rs] .nil (by kernel_rfl) (fun b15 => ?_)
      refine OPS.re [.slice a n cp, .slice ai ni ci, .int .i64 (lastOf l pre), .map (some mb), .int .i64 (k : Int), .int .i64 ((n : Nat) : Int), .int .i64 (k : Int), .bool true] (by rw [show rs = true from Bp.var.tt h14]) ?_
      refine OPS.batch 15 { wraps := [37] } [] [0, 1, 2, 3, 9, 18, 19] [.slice a n cp, .slice ai ni ci, .int .i64 (lastOf l pre), .map (some mb), .bool true, .int .i64 ((n : Nat) : Int), .int .i64 (k : Int)] .nil (by kernel_rfl) (fun b16 => ?_)
      refine OPS.nil ?_
      refine blk_n ?_
      refine thn_n ?_
      refine WP.pure {} [] [0, 1, 2, 3, 9, 18, 19] [.slice a n cp, .slice ai ni ci, .int .i64 (lastOf l pre), .map (some mb), .bool true, .int .i64 ((n : Nat) : Int), .int .i64 ((k : Int) + 1)] (.cons (show Rng .i64 ((k : Int) + 1) from Rng.i64 (by omega)) .nil) (by kernel_rfl) (fun b17 => ?_)
      refine thn_n ?_
      exact ⟨l.length - (k + 1), (by omega), k + 1, true, rfl, ⟨by omega, or_step r2 Bp.t (by have hkl : k < l.length := (by omega); simp only [hkl, h14, iff_false, false_iff, iff_true, true_iff, Classical.not_not, and_true, true_and, and_false, false_and, or_true, true_or, or_false, false_or, not_true_eq_false, not_false_eq_true, and_self, or_self, eq_self, Bool.false_eq_true])⟩, by kernel_rfl, hp6⟩
    · refine OPS.batch 0 {} [] [0, 1, 2, 3, 10, 18, 19, 23] [.slice a n cp, .slice ai ni ci, .int .i64 (lastOf l pre), .map (some mb), .int .i64 (k : Int), .int .i64 ((n : Nat) : Int), .int .i64 (k : Int), .bool rs] .nil (by kernel_rfl) (fun b18 => ?_)
      refine OPS.re [.slice a n cp, .slice ai ni ci, .int .i64 (lastOf l pre), .map (some mb), .int .i64 (k : Int), .int .i64 ((n : Nat) : Int), .int .i64 (k : Int), .bool false] (by rw [show rs = false from Bp.var.ff h14]) ?_
      have hy20 : (l)[k]? = some l[k]! := get_bang (by first | (omega) | (simp only [List.length_append, List.length_cons, List.length_nil]; omega) | (simp only [List.length_take, List.length_append, List.length_cons, List.length_nil]; omega))
      refine OPS.batch 4 {} [GCall.val (l[k]!)] [0, 1, 2, 3, 10, 18, 19, 23, 27] [.slice a n cp, .slice ai ni ci, .int .i64 (lastOf l pre), .map (some mb), .int .i64 (k : Int), .int .i64 ((n : Nat) : Int), .int .i64 (k : Int), .bool false, GCall.val (l[k]!)] (.cons (show InB ((k : Int)) (n) from ⟨by omega, by omega⟩) (.cons ((hs.at hp6).some (by omega)) (.cons (Ld.add0 (Ld.elN (P := Try.prog) (t := 41) (hs.at hp6).rd 11 (fun _ => rfl) hy20 (o := 0) (cs := [.int .i64 (l[k]!.Client), .int .i64 (l[k]!.Op), .bool (l[k]!.Put), .string (l[k]!.Key), .slice (l[k]!.Value.a) (l[k]!.Value.n) (l[k]!.Value.c), .int .i64 (l[k]!.Status), .int .i64 (l[k]!.From), .int .i64 (l[k]!.To), .bool (l[k]!.Open), .int .i64 (l[k]!.Tag.Count), .int .i64 (l[k]!.Tag.Client)]) (by kernel_rfl))) .nil))) (by kernel_rfl) (fun b21 => ?_)
      refine OPS.want (by kernel_rfl) ?_
      refine OPS.cons (opStep.call (some 28) [GCall.val (l[k]!)] (by kernel_rfl) (top_part (l[k]!) _) ?_)
      rintro _ w24 ⟨rfl, hf25⟩
      refine ⟨_, rfl, ?_⟩
      have hp26 := hp6.step hf25
      refine OPS.batch 2 {} [] [0, 1, 2, 3, 10, 18, 19, 23, 30] [.slice a n cp, .slice ai ni ci, .int .i64 (lastOf l pre), .map (some mb), .int .i64 (k : Int), .int .i64 ((n : Nat) : Int), .int .i64 (k : Int), .bool false, .bool (decide ((partT (l[k]!)) = 2))] .nil (by kernel_rfl) (fun b27 => ?_)
      by_cases h28 : (partT (l[k]!)) = 2
      · refine OPS.batch 0 {} [] [0, 1, 2, 3, 10, 18, 19, 23, 30] [.slice a n cp, .slice ai ni ci, .int .i64 (lastOf l pre), .map (some mb), .int .i64 (k : Int), .int .i64 ((n : Nat) : Int), .int .i64 (k : Int), .bool false, .bool (decide ((partT (l[k]!)) = 2))] .nil (by kernel_rfl) (fun b29 => ?_)
        refine OPS.re [.slice a n cp, .slice ai ni ci, .int .i64 (lastOf l pre), .map (some mb), .int .i64 (k : Int), .int .i64 ((n : Nat) : Int), .int .i64 (k : Int), .bool false, .bool true] (by rw [show (decide ((partT (l[k]!)) = 2)) = true from Bp.dec.tt h28]) ?_
        have := own_flat (sz := 1) (fun _ => rfl) (by decide) hp26.get0
        have hy31 : (inn)[k]? = some inn[k]! := get_bang (by first | (omega) | (simp only [List.length_append, List.length_cons, List.length_nil]; omega) | (simp only [List.length_take, List.length_append, List.length_cons, List.length_nil]; omega))
        refine OPS.batch 8 { wraps := [36, 37] } [.bool (inn[k]!)] [0, 1, 2, 3, 9, 18, 19] [.slice a n cp, .slice ai ni ci, .int .i64 (lastOf l pre), .map (some mb), .bool (!(inn[k]!)), .int .i64 ((n : Nat) : Int), .int .i64 (k : Int)] (.cons (show InB ((k : Int)) (ni) from ⟨by omega, by omega⟩) (.cons ((SlR.own (hp26.get0)).some (by omega)) (.cons (Ld.add0 (Ld.el1 (P := Try.prog) (t := 4) (SlR.own (hp26.get0)).rd 1 (fun _ => rfl) hy31 (o := 0) (v := .bool (inn[k]!)) (by kernel_rfl))) .nil))) (by kernel_rfl) (fun b32 => ?_)
        refine OPS.nil ?_
        refine blk_n ?_
        refine thn_n ?_
        refine WP.pure {} [] [0, 1, 2, 3, 9, 18, 19] [.slice a n cp, .slice ai ni ci, .int .i64 (lastOf l pre), .map (some mb), .bool (!(inn[k]!)), .int .i64 ((n : Nat) : Int), .int .i64 ((k : Int) + 1)] (.cons (show Rng .i64 ((k : Int) + 1) from Rng.i64 (by omega)) .nil) (by kernel_rfl) (fun b33 => ?_)
        refine thn_n ?_
        exact ⟨l.length - (k + 1), (by omega), k + 1, !(inn[k]!), rfl, ⟨by omega, or_step r2 (Bp.not Bp.var) (by have hkl : k < l.length := (by omega); simp only [hkl, h14, h28, iff_false, false_iff, iff_true, true_iff, Classical.not_not, and_true, true_and, and_false, false_and, or_true, true_or, or_false, false_or, not_true_eq_false, not_false_eq_true, and_self, or_self, eq_self, Bool.false_eq_true])⟩, by kernel_rfl, hp26⟩
      · refine OPS.batch 0 {} [] [0, 1, 2, 3, 10, 18, 19, 23, 30] [.slice a n cp, .slice ai ni ci, .int .i64 (lastOf l pre), .map (some mb), .int .i64 (k : Int), .int .i64 ((n : Nat) : Int), .int .i64 (k : Int), .bool false, .bool (decide ((partT (l[k]!)) = 2))] .nil (by kernel_rfl) (fun b34 => ?_)
        refine OPS.re [.slice a n cp, .slice ai ni ci, .int .i64 (lastOf l pre), .map (some mb), .int .i64 (k : Int), .int .i64 ((n : Nat) : Int), .int .i64 (k : Int), .bool false, .bool false] (by rw [show (decide ((partT (l[k]!)) = 2)) = false from Bp.dec.ff h28]) ?_
        refine OPS.batch 8 { wraps := [36, 37] } [] [0, 1, 2, 3, 9, 18, 19] [.slice a n cp, .slice ai ni ci, .int .i64 (lastOf l pre), .map (some mb), .bool false, .int .i64 ((n : Nat) : Int), .int .i64 (k : Int)] .nil (by kernel_rfl) (fun b35 => ?_)
        refine OPS.nil ?_
        refine blk_n ?_
        refine thn_n ?_
        refine WP.pure {} [] [0, 1, 2, 3, 9, 18, 19] [.slice a n cp, .slice ai ni ci, .int .i64 (lastOf l pre), .map (some mb), .bool false, .int .i64 ((n : Nat) : Int), .int .i64 ((k : Int) + 1)] (.cons (show Rng .i64 ((k : Int) + 1) from Rng.i64 (by omega)) .nil) (by kernel_rfl) (fun b36 => ?_)
        refine thn_n ?_
        exact ⟨l.length - (k + 1), (by omega), k + 1, false, rfl, ⟨by omega, or_step r2 Bp.f (by have hkl : k < l.length := (by omega); simp only [hkl, h14, h28, iff_false, false_iff, iff_true, true_iff, Classical.not_not, and_true, true_and, and_false, false_and, or_true, true_or, or_false, false_or, not_true_eq_false, not_false_eq_true, and_self, or_self, eq_self, Bool.false_eq_true])⟩, by kernel_rfl, hp26⟩
  · refine WP.exit ?_
    refine thn_x ?_
    refine thn_x ?_
    refine blk_hit ?_
    refine thn_n ?_
    refine WP.seq ?_
    refine WP.seq ?_
    refine WP.pure {} [] [0, 1, 2, 3, 40] [.slice a n cp, .slice ai ni ci, .int .i64 (lastOf l pre), .map (some mb), .bool (!rs)] .nil (by kernel_rfl) (fun b37 => ?_)
    refine thn_n ?_
    refine WP.test (p := ¬ (rs = true)) rfl (Bp.not Bp.var) (fun h38 => ?_) (fun h38 => ?_)
    · refine WP.seq ?_
      refine WP.pure {} [] [8] [.bool true] .nil (by kernel_rfl) (fun b39 => ?_)
      refine thn_n ?_
      refine WP.ret ?_
      refine thn_r ?_
      refine bodyQ.of _ rfl [.bool true] ⟨rfl, trivial⟩ ?_
      exact ⟨true, vain, rfl, ⟨fun _ => ⟨[], (rest_done hin (by omega) r2).2 h38⟩, fun _ => rfl⟩, hva, hp6⟩
    · replace h38 := Classical.not_not.1 h38
      refine WP.skip ?_
      refine thn_n ?_
      refine WP.seq ?_
      have hnd_ : ¬ doneA l pre := fun q => (rest_done hin (by omega) r2).1 q h38
      refine WP.region _ rfl (by kernel_rfl) ?_
      refine OPS.batch 3 {} [] [0, 1, 2, 3, 41, 42, 43] [.slice a n cp, .slice ai ni ci, .int .i64 (lastOf l pre), .map (some mb), .slice a n cp, .slice ai ni ci, .int .i64 (lastOf l pre)] .nil (by kernel_rfl) (fun b40 => ?_)
      refine OPS.cons (opStep.call (some 44) [.slice a n cp, .slice ai ni ci, .int .i64 (lastOf l pre)] (by kernel_rfl) (top_state_at hp6.fr hn hs hv hr hvn hll inn ai ni ci (SlR.own hp6.get0) (by omega) (by omega) (lastOf l pre) (by omega)) ?_)
      rintro _ w43 ⟨rfl, hf44⟩
      refine ⟨_, rfl, ?_⟩
      have hp45 := hp6.step hf44
      refine OPS.batch 1 {} [] [0, 1, 2, 3, 11] [.slice a n cp, .slice ai ni ci, .int .i64 (lastOf l pre), .map (some mb), .string (keyT w0 l inn (lastOf l pre))] .nil (by kernel_rfl) (fun b46 => ?_)
      refine OPS.nil ?_
      refine thn_n ?_
      refine WP.seq ?_
      refine WP.seq ?_
      refine WP.pure {} [.bool ((mapV vain (keyT w0 l inn (lastOf l pre))).getD false)] [0, 1, 2, 3, 11, 47] [.slice a n cp, .slice ai ni ci, .int .i64 (lastOf l pre), .map (some mb), .string (keyT w0 l inn (lastOf l pre)), .bool ((mapV vain (keyT w0 l inn (lastOf l pre))).getD false)] (.cons (Lk.noD (vf := vB) (keyStr (by exact Try.underlying9)) (by exact Try.underlying146) hp45.get1 (keyT w0 l inn (lastOf l pre)) false (by kernel_rfl)) .nil) (by kernel_rfl) (fun b47 => ?_)
      refine thn_n ?_
      refine WP.test (p := ((mapV vain (keyT w0 l inn (lastOf l pre))).getD false) = true) rfl Bp.var (fun h48 => ?_) (fun h48 => ?_)
      · refine WP.seq ?_
        refine WP.pure {} [] [8] [.bool false] .nil (by kernel_rfl) (fun b49 => ?_)
        refine thn_n ?_
        refine WP.ret ?_
        refine thn_r ?_
        refine bodyQ.of _ rfl [.bool false] ⟨rfl, trivial⟩ ?_
        have hm_ : mapV vain (keyT w0 l inn (lastOf l pre)) = some true := by have hq := h48; cases hz : mapV vain (keyT w0 l inn (lastOf l pre)) with | none => (rw [hz] at hq; simp at hq) | some b => (rw [hz] at hq; simp at hq; rw [hq])
        exact ⟨false, vain, rfl, ⟨fun q => absurd q (by decide), fun ⟨p, hp⟩ => absurd hp (hva _ hm_ inn pre hin rfl p)⟩, hva, hp45⟩
      · refine WP.skip ?_
        refine thn_n ?_
        refine WP.seq ?_
        refine WP.seq ?_
        refine WP.pure {} [] [0, 1, 2, 3, 11, 49, 50] [.slice a n cp, .slice ai ni ci, .int .i64 (lastOf l pre), .map (some mb), .string (keyT w0 l inn (lastOf l pre)), .int .i64 ((n : Nat) : Int), .int .i64 0] .nil (by kernel_rfl) (fun b50 => ?_)
        refine thn_n ?_
        refine WP.block ?_
        refine WP.loop (fun mz_ e51 w52 => ∃ (k : Nat) (vn : List (ByteArray × Bool)), mz_ = l.length - k ∧ (k ≤ l.length ∧ VainOk w0 l vn ∧ ∀ j, j < k → wantT (valAt w0) l inn j → ∀ q, ¬ PathA (valAt w0) l pre (j :: q)) ∧ List.map e51 [0, 1, 2, 3, 11, 49, 50] = [.slice a n cp, .slice ai ni ci, .int .i64 (lastOf l pre), .map (some mb), .string (keyT w0 l inn (lastOf l pre)), .int .i64 ((n : Nat) : Int), .int .i64 (k : Int)] ∧ Hp w0 Non (Res.own 4 1 (.slice ai ni ci) ni (List.flatMap (fun (y : Bool) => [Go.Value.bool y]) inn) :: Res.mp mb kS vB vn :: L) w52) (l.length - (0)) ⟨0, vain, rfl, ⟨by omega, hva, fun j hj => by omega⟩, by kernel_rfl, hp45⟩ ?_
        rintro _ e51 w52 ⟨k, vn, rfl, hI54, hE55, hp53⟩
        obtain ⟨b56, rfl⟩ := toMk hE55
        clear hE55
        obtain ⟨p1, p2, p3⟩ := hI54
        refine WP.seq ?_
        refine WP.pure {} [] [0, 1, 2, 3, 11, 49, 50, 51] [.slice a n cp, .slice ai ni ci, .int .i64 (lastOf l pre), .map (some mb), .string (keyT w0 l inn (lastOf l pre)), .int .i64 ((n : Nat) : Int), .int .i64 (k : Int), .bool (decide ((k : Int) < ((n : Nat) : Int)))] .nil (by kernel_rfl) (fun b57 => ?_)
        refine thn_n ?_
        refine WP.seq ?_
        refine WP.test (p := (k : Int) < ((n : Nat) : Int)) rfl Bp.dec (fun h58 => ?_) (fun h58 => ?_)
        · refine WP.skip ?_
          refine thn_n ?_
          refine WP.seq ?_
          refine WP.block ?_
          refine WP.seq ?_
          refine WP.pure {} [] [0, 1, 2, 3, 11, 12, 49, 50] [.slice a n cp, .slice ai ni ci, .int .i64 (lastOf l pre), .map (some mb), .string (keyT w0 l inn (lastOf l pre)), .int .i64 (k : Int), .int .i64 ((n : Nat) : Int), .int .i64 (k : Int)] .nil (by kernel_rfl) (fun b59 => ?_)
          refine thn_n ?_
          refine WP.seq ?_
          refine WP.cut (fun e107 w108 => ∃ (x105 : Bool), (True) ∧ Bp x105 ((((inn[k]!) = true)) ∨ ((¬ ((inn[k]!) = true)) ∧ ((partT (l[k]!)) = 0)) ∨ ((¬ ((inn[k]!) = true)) ∧ (¬ ((partT (l[k]!)) = 0)) ∧ (¬ (fitT (valAt w0) l (lastOf l pre) k))) ∨ ((¬ ((inn[k]!) = true)) ∧ (¬ ((partT (l[k]!)) = 0)) ∧ (fitT (valAt w0) l (lastOf l pre) k) ∧ (¬ (wantT (valAt w0) l inn k)))) ∧ List.map e107 [0, 1, 2, 3, 11, 12, 49, 50, 78] = [.slice a n cp, .slice ai ni ci, .int .i64 (lastOf l pre), .map (some mb), .string (keyT w0 l inn (lastOf l pre)), .int .i64 (k : Int), .int .i64 ((n : Nat) : Int), .int .i64 (k : Int), .bool x105] ∧ Hp w0 Non (Res.own 4 1 (.slice ai ni ci) ni (List.flatMap (fun (y : Bool) => [Go.Value.bool y]) inn) :: Res.mp mb kS vB vn :: L) w108) ?_ ?_
          · refine WP.region _ rfl (by kernel_rfl) ?_
            have := own_flat (sz := 1) (fun _ => rfl) (by decide) hp53.get0
            have hy64 : (inn)[k]? = some inn[k]! := get_bang (by first | (omega) | (simp only [List.length_append, List.length_cons, List.length_nil]; omega) | (simp only [List.length_take, List.length_append, List.length_cons, List.length_nil]; omega))
            refine OPS.batch 5 {} [.bool (inn[k]!)] [0, 1, 2, 3, 11, 12, 49, 50, 57] [.slice a n cp, .slice ai ni ci, .int .i64 (lastOf l pre), .map (some mb), .string (keyT w0 l inn (lastOf l pre)), .int .i64 (k : Int), .int .i64 ((n : Nat) : Int), .int .i64 (k : Int), .bool (inn[k]!)] (.cons (show InB ((k : Int)) (ni) from ⟨by omega, by omega⟩) (.cons ((SlR.own (hp53.get0)).some (by omega)) (.cons (Ld.add0 (Ld.el1 (P := Try.prog) (t := 4) (SlR.own (hp53.get0)).rd 1 (fun _ => rfl) hy64 (o := 0) (v := .bool (inn[k]!)) (by kernel_rfl))) .nil))) (by kernel_rfl) (fun b65 => ?_)
            by_cases h66 : (inn[k]!) = true
            · refine OPS.batch 0 {} [] [0, 1, 2, 3, 11, 12, 49, 50, 57] [.slice a n cp, .slice ai ni ci, .int .i64 (lastOf l pre), .map (some mb), .string (keyT w0 l inn (lastOf l pre)), .int .i64 (k : Int), .int .i64 ((n : Nat) : Int), .int .i64 (k : Int), .bool (inn[k]!)] .nil (by kernel_rfl) (fun b67 => ?_)
              refine OPS.re [.slice a n cp, .slice ai ni ci, .int .i64 (lastOf l pre), .map (some mb), .string (keyT w0 l inn (lastOf l pre)), .int .i64 (k : Int), .int .i64 ((n : Nat) : Int), .int .i64 (k : Int), .bool true] (by rw [show (inn[k]!) = true from Bp.var.tt h66]) ?_
              refine OPS.batch 21 { wraps := [64, 71, 78] } [] [0, 1, 2, 3, 11, 12, 49, 50, 78] [.slice a n cp, .slice ai ni ci, .int .i64 (lastOf l pre), .map (some mb), .string (keyT w0 l inn (lastOf l pre)), .int .i64 (k : Int), .int .i64 ((n : Nat) : Int), .int .i64 (k : Int), .bool true] .nil (by kernel_rfl) (fun b68 => ?_)
              refine OPS.nil ?_
              refine thn_n ?_
              exact ⟨true, trivial, Bp.of Bp.t (by first | (simp only [h66, iff_false, false_iff, iff_true, true_iff, Classical.not_not, and_true, true_and, and_false, false_and, or_true, true_or, or_false, false_or, not_true_eq_false, not_false_eq_true, and_self, or_self, iff_self]; done) | (simp [h66]; done) | simp_all), by kernel_rfl, hp53⟩
            · refine OPS.batch 0 {} [] [0, 1, 2, 3, 11, 12, 49, 50, 57] [.slice a n cp, .slice ai ni ci, .int .i64 (lastOf l pre), .map (some mb), .string (keyT w0 l inn (lastOf l pre)), .int .i64 (k : Int), .int .i64 ((n : Nat) : Int), .int .i64 (k : Int), .bool (inn[k]!)] .nil (by kernel_rfl) (fun b69 => ?_)
              refine OPS.re [.slice a n cp, .slice ai ni ci, .int .i64 (lastOf l pre), .map (some mb), .string (keyT w0 l inn (lastOf l pre)), .int .i64 (k : Int), .int .i64 ((n : Nat) : Int), .int .i64 (k : Int), .bool false] (by rw [show (inn[k]!) = false from Bp.var.ff h66]) ?_
              have hy71 : (l)[k]? = some l[k]! := get_bang (by first | (omega) | (simp only [List.length_append, List.length_cons, List.length_nil]; omega) | (simp only [List.length_take, List.length_append, List.length_cons, List.length_nil]; omega))
              refine OPS.batch 4 {} [GCall.val (l[k]!)] [0, 1, 2, 3, 11, 12, 49, 50, 57, 61] [.slice a n cp, .slice ai ni ci, .int .i64 (lastOf l pre), .map (some mb), .string (keyT w0 l inn (lastOf l pre)), .int .i64 (k : Int), .int .i64 ((n : Nat) : Int), .int .i64 (k : Int), .bool false, GCall.val (l[k]!)] (.cons (show InB ((k : Int)) (n) from ⟨by omega, by omega⟩) (.cons ((hs.at hp53).some (by omega)) (.cons (Ld.add0 (Ld.elN (P := Try.prog) (t := 41) (hs.at hp53).rd 11 (fun _ => rfl) hy71 (o := 0) (cs := [.int .i64 (l[k]!.Client), .int .i64 (l[k]!.Op), .bool (l[k]!.Put), .string (l[k]!.Key), .slice (l[k]!.Value.a) (l[k]!.Value.n) (l[k]!.Value.c), .int .i64 (l[k]!.Status), .int .i64 (l[k]!.From), .int .i64 (l[k]!.To), .bool (l[k]!.Open), .int .i64 (l[k]!.Tag.Count), .int .i64 (l[k]!.Tag.Client)]) (by kernel_rfl))) .nil))) (by kernel_rfl) (fun b72 => ?_)
              refine OPS.want (by kernel_rfl) ?_
              refine OPS.cons (opStep.call (some 62) [GCall.val (l[k]!)] (by kernel_rfl) (top_part (l[k]!) _) ?_)
              rintro _ w75 ⟨rfl, hf76⟩
              refine ⟨_, rfl, ?_⟩
              have hp77 := hp53.step hf76
              refine OPS.batch 3 { wraps := [64] } [] [0, 1, 2, 3, 11, 12, 49, 50, 65] [.slice a n cp, .slice ai ni ci, .int .i64 (lastOf l pre), .map (some mb), .string (keyT w0 l inn (lastOf l pre)), .int .i64 (k : Int), .int .i64 ((n : Nat) : Int), .int .i64 (k : Int), .bool (decide ((partT (l[k]!)) = 0))] .nil (by kernel_rfl) (fun b78 => ?_)
              by_cases h79 : (partT (l[k]!)) = 0
              · refine OPS.batch 0 {} [] [0, 1, 2, 3, 11, 12, 49, 50, 65] [.slice a n cp, .slice ai ni ci, .int .i64 (lastOf l pre), .map (some mb), .string (keyT w0 l inn (lastOf l pre)), .int .i64 (k : Int), .int .i64 ((n : Nat) : Int), .int .i64 (k : Int), .bool (decide ((partT (l[k]!)) = 0))] .nil (by kernel_rfl) (fun b80 => ?_)
                refine OPS.re [.slice a n cp, .slice ai ni ci, .int .i64 (lastOf l pre), .map (some mb), .string (keyT w0 l inn (lastOf l pre)), .int .i64 (k : Int), .int .i64 ((n : Nat) : Int), .int .i64 (k : Int), .bool true] (by rw [show (decide ((partT (l[k]!)) = 0)) = true from Bp.dec.tt h79]) ?_
                refine OPS.batch 13 { wraps := [71, 78] } [] [0, 1, 2, 3, 11, 12, 49, 50, 78] [.slice a n cp, .slice ai ni ci, .int .i64 (lastOf l pre), .map (some mb), .string (keyT w0 l inn (lastOf l pre)), .int .i64 (k : Int), .int .i64 ((n : Nat) : Int), .int .i64 (k : Int), .bool true] .nil (by kernel_rfl) (fun b81 => ?_)
                refine OPS.nil ?_
                refine thn_n ?_
                exact ⟨true, trivial, Bp.of Bp.t (by first | (simp only [h66, h79, iff_false, false_iff, iff_true, true_iff, Classical.not_not, and_true, true_and, and_false, false_and, or_true, true_or, or_false, false_or, not_true_eq_false, not_false_eq_true, and_self, or_self, iff_self]; done) | (simp [h66, h79]; done) | simp_all), by kernel_rfl, hp77⟩
              · refine OPS.batch 0 {} [] [0, 1, 2, 3, 11, 12, 49, 50, 65] [.slice a n cp, .slice ai ni ci, .int .i64 (lastOf l pre), .map (some mb), .string (keyT w0 l inn (lastOf l pre)), .int .i64 (k : Int), .int .i64 ((n : Nat) : Int), .int .i64 (k : Int), .bool (decide ((partT (l[k]!)) = 0))] .nil (by kernel_rfl) (fun b82 => ?_)
                refine OPS.re [.slice a n cp, .slice ai ni ci, .int .i64 (lastOf l pre), .map (some mb), .string (keyT w0 l inn (lastOf l pre)), .int .i64 (k : Int), .int .i64 ((n : Nat) : Int), .int .i64 (k : Int), .bool false] (by rw [show (decide ((partT (l[k]!)) = 0)) = false from Bp.dec.ff h79]) ?_
                refine OPS.batch 3 {} [] [0, 1, 2, 3, 11, 12, 49, 50, 65, 66, 67, 68] [.slice a n cp, .slice ai ni ci, .int .i64 (lastOf l pre), .map (some mb), .string (keyT w0 l inn (lastOf l pre)), .int .i64 (k : Int), .int .i64 ((n : Nat) : Int), .int .i64 (k : Int), .bool false, .slice a n cp, .int .i64 (lastOf l pre), .int .i64 (k : Int)] .nil (by kernel_rfl) (fun b83 => ?_)
                refine OPS.want (by kernel_rfl) ?_
                refine OPS.cons (opStep.call (some 69) [.slice a n cp, .int .i64 (lastOf l pre), .int .i64 (k : Int)] (by kernel_rfl) (top_fits_at hp77.fr hn hs hv hr hvn hll (lastOf l pre) k (by omega) (by omega)) ?_)
                rintro _ w86 ⟨b89, rfl, hb90, hf87⟩
                refine ⟨_, rfl, ?_⟩
                have hp88 := hp77.step hf87
                refine OPS.batch 3 { wraps := [71] } [] [0, 1, 2, 3, 11, 12, 49, 50, 72] [.slice a n cp, .slice ai ni ci, .int .i64 (lastOf l pre), .map (some mb), .string (keyT w0 l inn (lastOf l pre)), .int .i64 (k : Int), .int .i64 ((n : Nat) : Int), .int .i64 (k : Int), .bool (!b89)] .nil (by kernel_rfl) (fun b91 => ?_)
                by_cases h92 : fitT (valAt w0) l (lastOf l pre) k
                · refine OPS.batch 0 {} [] [0, 1, 2, 3, 11, 12, 49, 50, 72] [.slice a n cp, .slice ai ni ci, .int .i64 (lastOf l pre), .map (some mb), .string (keyT w0 l inn (lastOf l pre)), .int .i64 (k : Int), .int .i64 ((n : Nat) : Int), .int .i64 (k : Int), .bool (!b89)] .nil (by kernel_rfl) (fun b95 => ?_)
                  refine OPS.re [.slice a n cp, .slice ai ni ci, .int .i64 (lastOf l pre), .map (some mb), .string (keyT w0 l inn (lastOf l pre)), .int .i64 (k : Int), .int .i64 ((n : Nat) : Int), .int .i64 (k : Int), .bool false] (by rw [show (!b89) = false from (Bp.not hb90).ff (fun k => k h92)]) ?_
                  refine OPS.batch 3 {} [] [0, 1, 2, 3, 11, 12, 49, 50, 72, 73, 74, 75] [.slice a n cp, .slice ai ni ci, .int .i64 (lastOf l pre), .map (some mb), .string (keyT w0 l inn (lastOf l pre)), .int .i64 (k : Int), .int .i64 ((n : Nat) : Int), .int .i64 (k : Int), .bool false, .slice a n cp, .slice ai ni ci, .int .i64 (k : Int)] .nil (by kernel_rfl) (fun b96 => ?_)
                  refine OPS.want (by kernel_rfl) ?_
                  refine OPS.cons (opStep.call (some 76) [.slice a n cp, .slice ai ni ci, .int .i64 (k : Int)] (by kernel_rfl) (top_wanted_at hp88.fr hn hs hv hr hvn hll inn ai ni ci (SlR.own hp88.get0) (by omega) (by omega) k (by omega)) ?_)
                  rintro _ w99 ⟨b102, rfl, hb103, hf100⟩
                  refine ⟨_, rfl, ?_⟩
                  have hp101 := hp88.step hf100
                  refine OPS.batch 2 { wraps := [78] } [] [0, 1, 2, 3, 11, 12, 49, 50, 78] [.slice a n cp, .slice ai ni ci, .int .i64 (lastOf l pre), .map (some mb), .string (keyT w0 l inn (lastOf l pre)), .int .i64 (k : Int), .int .i64 ((n : Nat) : Int), .int .i64 (k : Int), .bool (!b102)] .nil (by kernel_rfl) (fun b104 => ?_)
                  refine OPS.nil ?_
                  refine thn_n ?_
                  exact ⟨!b102, trivial, Bp.of (Bp.not hb103) (by first | (simp only [h66, h79, h92, iff_false, false_iff, iff_true, true_iff, Classical.not_not, and_true, true_and, and_false, false_and, or_true, true_or, or_false, false_or, not_true_eq_false, not_false_eq_true, and_self, or_self, iff_self]; done) | (simp [h66, h79, h92]; done) | simp_all), by kernel_rfl, hp101⟩
                · refine OPS.batch 0 {} [] [0, 1, 2, 3, 11, 12, 49, 50, 72] [.slice a n cp, .slice ai ni ci, .int .i64 (lastOf l pre), .map (some mb), .string (keyT w0 l inn (lastOf l pre)), .int .i64 (k : Int), .int .i64 ((n : Nat) : Int), .int .i64 (k : Int), .bool (!b89)] .nil (by kernel_rfl) (fun b93 => ?_)
                  refine OPS.re [.slice a n cp, .slice ai ni ci, .int .i64 (lastOf l pre), .map (some mb), .string (keyT w0 l inn (lastOf l pre)), .int .i64 (k : Int), .int .i64 ((n : Nat) : Int), .int .i64 (k : Int), .bool true] (by rw [show (!b89) = true from (Bp.not hb90).tt h92]) ?_
                  refine OPS.batch 6 { wraps := [78] } [] [0, 1, 2, 3, 11, 12, 49, 50, 78] [.slice a n cp, .slice ai ni ci, .int .i64 (lastOf l pre), .map (some mb), .string (keyT w0 l inn (lastOf l pre)), .int .i64 (k : Int), .int .i64 ((n : Nat) : Int), .int .i64 (k : Int), .bool true] .nil (by kernel_rfl) (fun b94 => ?_)
                  refine OPS.nil ?_
                  refine thn_n ?_
                  exact ⟨true, trivial, Bp.of Bp.t (by first | (simp only [h66, h79, h92, iff_false, false_iff, iff_true, true_iff, Classical.not_not, and_true, true_and, and_false, false_and, or_true, true_or, or_false, false_or, not_true_eq_false, not_false_eq_true, and_self, or_self, iff_self]; done) | (simp [h66, h79, h92]; done) | simp_all), by kernel_rfl, hp88⟩
          rintro e107 w108 ⟨x105, hd110, hb106, hE111, hp109⟩
          obtain ⟨b112, rfl⟩ := toMk hE111
          clear hE111
          clear hd110
          refine WP.test (p := (((inn[k]!) = true)) ∨ ((¬ ((inn[k]!) = true)) ∧ ((partT (l[k]!)) = 0)) ∨ ((¬ ((inn[k]!) = true)) ∧ (¬ ((partT (l[k]!)) = 0)) ∧ (¬ (fitT (valAt w0) l (lastOf l pre) k))) ∨ ((¬ ((inn[k]!) = true)) ∧ (¬ ((partT (l[k]!)) = 0)) ∧ (fitT (valAt w0) l (lastOf l pre) k) ∧ (¬ (wantT (valAt w0) l inn k)))) rfl hb106 (fun h113 => ?_) (fun h113 => ?_)
          · refine WP.exit ?_
            refine thn_x ?_
            refine blk_hit ?_
            refine thn_n ?_
            refine WP.pure {} [] [0, 1, 2, 3, 11, 49, 50] [.slice a n cp, .slice ai ni ci, .int .i64 (lastOf l pre), .map (some mb), .string (keyT w0 l inn (lastOf l pre)), .int .i64 ((n : Nat) : Int), .int .i64 ((k : Int) + 1)] (.cons (show Rng .i64 ((k : Int) + 1) from Rng.i64 (by omega)) .nil) (by kernel_rfl) (fun b114 => ?_)
            refine thn_n ?_
            have hnn : wantT (valAt w0) l inn k → ∀ q, ¬ PathA (valAt w0) l pre (k :: q) := cont_no hin (by omega) (by rcases h113 with q | q | q | q; exact .inl q; exact .inr (.inl q.2); exact .inr (.inr (.inl q.2.2)); exact .inr (.inr (.inr q.2.2.2)))
            have hvn_ := p2
            exact ⟨l.length - (k + 1), (by omega), k + 1, vn, rfl, ⟨by omega, hvn_, fun j hj => by rcases Nat.lt_or_ge j k with q | q; exact p3 j q; (obtain rfl : j = k := by omega); exact hnn⟩, by kernel_rfl, hp109⟩
          · refine WP.skip ?_
            refine thn_n ?_
            refine WP.seq ?_
            refine WP.pure {} [] [0, 1, 2, 3, 11, 12, 13, 49, 50] [.slice a n cp, .slice ai ni ci, .int .i64 (lastOf l pre), .map (some mb), .string (keyT w0 l inn (lastOf l pre)), .int .i64 (k : Int), .bool true, .int .i64 ((n : Nat) : Int), .int .i64 (k : Int)] .nil (by kernel_rfl) (fun b115 => ?_)
            refine thn_n ?_
            refine WP.seq ?_
            refine WP.seq ?_
            refine WP.pure {} [] [0, 1, 2, 3, 11, 12, 13, 49, 50, 80, 81] [.slice a n cp, .slice ai ni ci, .int .i64 (lastOf l pre), .map (some mb), .string (keyT w0 l inn (lastOf l pre)), .int .i64 (k : Int), .bool true, .int .i64 ((n : Nat) : Int), .int .i64 (k : Int), .int .i64 ((n : Nat) : Int), .int .i64 0] .nil (by kernel_rfl) (fun b116 => ?_)
            refine thn_n ?_
            refine WP.block ?_
            refine WP.loop (fun mz_ e117 w118 => ∃ (m : Nat) (fr : Bool), mz_ = l.length - m ∧ (m ≤ l.length ∧ (fr = true ↔ ∀ j, j < m → ¬ (partT l[j]! = 2 ∧ ¬ inn[j]! = true ∧ ¬ j = k ∧ aheadT l j k))) ∧ List.map e117 [0, 1, 2, 3, 11, 12, 13, 49, 50, 80, 81] = [.slice a n cp, .slice ai ni ci, .int .i64 (lastOf l pre), .map (some mb), .string (keyT w0 l inn (lastOf l pre)), .int .i64 (k : Int), .bool fr, .int .i64 ((n : Nat) : Int), .int .i64 (k : Int), .int .i64 ((n : Nat) : Int), .int .i64 (m : Int)] ∧ Hp w0 Non (Res.own 4 1 (.slice ai ni ci) ni (List.flatMap (fun (y : Bool) => [Go.Value.bool y]) inn) :: Res.mp mb kS vB vn :: L) w118) (l.length - (0)) ⟨0, true, rfl, ⟨by omega, by simp⟩, by kernel_rfl, hp109⟩ ?_
            rintro _ e117 w118 ⟨m, fr, rfl, hI120, hE121, hp119⟩
            obtain ⟨b122, rfl⟩ := toMk hE121
            clear hE121
            obtain ⟨f1, f2⟩ := hI120
            refine WP.seq ?_
            refine WP.pure {} [] [0, 1, 2, 3, 11, 12, 13, 49, 50, 80, 81, 82] [.slice a n cp, .slice ai ni ci, .int .i64 (lastOf l pre), .map (some mb), .string (keyT w0 l inn (lastOf l pre)), .int .i64 (k : Int), .bool fr, .int .i64 ((n : Nat) : Int), .int .i64 (k : Int), .int .i64 ((n : Nat) : Int), .int .i64 (m : Int), .bool (decide ((m : Int) < ((n : Nat) : Int)))] .nil (by kernel_rfl) (fun b123 => ?_)
            refine thn_n ?_
            refine WP.seq ?_
            refine WP.test (p := (m : Int) < ((n : Nat) : Int)) rfl Bp.dec (fun h124 => ?_) (fun h124 => ?_)
            · refine WP.skip ?_
              refine thn_n ?_
              refine WP.seq ?_
              refine WP.block ?_
              refine WP.seq ?_
              refine WP.pure {} [] [0, 1, 2, 3, 11, 12, 13, 14, 49, 50, 80, 81] [.slice a n cp, .slice ai ni ci, .int .i64 (lastOf l pre), .map (some mb), .string (keyT w0 l inn (lastOf l pre)), .int .i64 (k : Int), .bool fr, .int .i64 (m : Int), .int .i64 ((n : Nat) : Int), .int .i64 (k : Int), .int .i64 ((n : Nat) : Int), .int .i64 (m : Int)] .nil (by kernel_rfl) (fun b125 => ?_)
              refine thn_n ?_
              refine WP.region _ rfl (by kernel_rfl) ?_
              refine OPS.batch 2 {} [] [0, 1, 2, 3, 11, 12, 14, 49, 50, 80, 81, 85] [.slice a n cp, .slice ai ni ci, .int .i64 (lastOf l pre), .map (some mb), .string (keyT w0 l inn (lastOf l pre)), .int .i64 (k : Int), .int .i64 (m : Int), .int .i64 ((n : Nat) : Int), .int .i64 (k : Int), .int .i64 ((n : Nat) : Int), .int .i64 (m : Int), .bool fr] .nil (by kernel_rfl) (fun b126 => ?_)
              by_cases h127 : fr = true
              · refine OPS.batch 0 {} [] [0, 1, 2, 3, 11, 12, 14, 49, 50, 80, 81, 85] [.slice a n cp, .slice ai ni ci, .int .i64 (lastOf l pre), .map (some mb), .string (keyT w0 l inn (lastOf l pre)), .int .i64 (k : Int), .int .i64 (m : Int), .int .i64 ((n : Nat) : Int), .int .i64 (k : Int), .int .i64 ((n : Nat) : Int), .int .i64 (m : Int), .bool fr] .nil (by kernel_rfl) (fun b128 => ?_)
                refine OPS.re [.slice a n cp, .slice ai ni ci, .int .i64 (lastOf l pre), .map (some mb), .string (keyT w0 l inn (lastOf l pre)), .int .i64 (k : Int), .int .i64 (m : Int), .int .i64 ((n : Nat) : Int), .int .i64 (k : Int), .int .i64 ((n : Nat) : Int), .int .i64 (m : Int), .bool true] (by rw [show fr = true from Bp.var.tt h127]) ?_
                have hy130 : (l)[m]? = some l[m]! := get_bang (by first | (omega) | (simp only [List.length_append, List.length_cons, List.length_nil]; omega) | (simp only [List.length_take, List.length_append, List.length_cons, List.length_nil]; omega))
                refine OPS.batch 4 {} [GCall.val (l[m]!)] [0, 1, 2, 3, 11, 12, 14, 49, 50, 80, 81, 85, 89] [.slice a n cp, .slice ai ni ci, .int .i64 (lastOf l pre), .map (some mb), .string (keyT w0 l inn (lastOf l pre)), .int .i64 (k : Int), .int .i64 (m : Int), .int .i64 ((n : Nat) : Int), .int .i64 (k : Int), .int .i64 ((n : Nat) : Int), .int .i64 (m : Int), .bool true, GCall.val (l[m]!)] (.cons (show InB ((m : Int)) (n) from ⟨by omega, by omega⟩) (.cons ((hs.at hp119).some (by omega)) (.cons (Ld.add0 (Ld.elN (P := Try.prog) (t := 41) (hs.at hp119).rd 11 (fun _ => rfl) hy130 (o := 0) (cs := [.int .i64 (l[m]!.Client), .int .i64 (l[m]!.Op), .bool (l[m]!.Put), .string (l[m]!.Key), .slice (l[m]!.Value.a) (l[m]!.Value.n) (l[m]!.Value.c), .int .i64 (l[m]!.Status), .int .i64 (l[m]!.From), .int .i64 (l[m]!.To), .bool (l[m]!.Open), .int .i64 (l[m]!.Tag.Count), .int .i64 (l[m]!.Tag.Client)]) (by kernel_rfl))) .nil))) (by kernel_rfl) (fun b131 => ?_)
                refine OPS.want (by kernel_rfl) ?_
                refine OPS.cons (opStep.call (some 90) [GCall.val (l[m]!)] (by kernel_rfl) (top_part (l[m]!) _) ?_)
                rintro _ w134 ⟨rfl, hf135⟩
                refine ⟨_, rfl, ?_⟩
                have hp136 := hp119.step hf135
                refine OPS.batch 2 {} [] [0, 1, 2, 3, 11, 12, 14, 49, 50, 80, 81, 85, 92] [.slice a n cp, .slice ai ni ci, .int .i64 (lastOf l pre), .map (some mb), .string (keyT w0 l inn (lastOf l pre)), .int .i64 (k : Int), .int .i64 (m : Int), .int .i64 ((n : Nat) : Int), .int .i64 (k : Int), .int .i64 ((n : Nat) : Int), .int .i64 (m : Int), .bool true, .bool (decide ((partT (l[m]!)) = 2))] .nil (by kernel_rfl) (fun b137 => ?_)
                by_cases h138 : (partT (l[m]!)) = 2
                · refine OPS.batch 0 {} [] [0, 1, 2, 3, 11, 12, 14, 49, 50, 80, 81, 85, 92] [.slice a n cp, .slice ai ni ci, .int .i64 (lastOf l pre), .map (some mb), .string (keyT w0 l inn (lastOf l pre)), .int .i64 (k : Int), .int .i64 (m : Int), .int .i64 ((n : Nat) : Int), .int .i64 (k : Int), .int .i64 ((n : Nat) : Int), .int .i64 (m : Int), .bool true, .bool (decide ((partT (l[m]!)) = 2))] .nil (by kernel_rfl) (fun b139 => ?_)
                  refine OPS.re [.slice a n cp, .slice ai ni ci, .int .i64 (lastOf l pre), .map (some mb), .string (keyT w0 l inn (lastOf l pre)), .int .i64 (k : Int), .int .i64 (m : Int), .int .i64 ((n : Nat) : Int), .int .i64 (k : Int), .int .i64 ((n : Nat) : Int), .int .i64 (m : Int), .bool true, .bool true] (by rw [show (decide ((partT (l[m]!)) = 2)) = true from Bp.dec.tt h138]) ?_
                  have := own_flat (sz := 1) (fun _ => rfl) (by decide) hp136.get0
                  have hy141 : (inn)[m]? = some inn[m]! := get_bang (by first | (omega) | (simp only [List.length_append, List.length_cons, List.length_nil]; omega) | (simp only [List.length_take, List.length_append, List.length_cons, List.length_nil]; omega))
                  refine OPS.batch 7 { wraps := [98] } [.bool (inn[m]!)] [0, 1, 2, 3, 11, 12, 14, 49, 50, 80, 81, 85, 99] [.slice a n cp, .slice ai ni ci, .int .i64 (lastOf l pre), .map (some mb), .string (keyT w0 l inn (lastOf l pre)), .int .i64 (k : Int), .int .i64 (m : Int), .int .i64 ((n : Nat) : Int), .int .i64 (k : Int), .int .i64 ((n : Nat) : Int), .int .i64 (m : Int), .bool true, .bool (!(inn[m]!))] (.cons (show InB ((m : Int)) (ni) from ⟨by omega, by omega⟩) (.cons ((SlR.own (hp136.get0)).some (by omega)) (.cons (Ld.add0 (Ld.el1 (P := Try.prog) (t := 4) (SlR.own (hp136.get0)).rd 1 (fun _ => rfl) hy141 (o := 0) (v := .bool (inn[m]!)) (by kernel_rfl))) .nil))) (by kernel_rfl) (fun b142 => ?_)
                  by_cases h143 : (inn[m]!) = true
                  · refine OPS.batch 0 {} [] [0, 1, 2, 3, 11, 12, 14, 49, 50, 80, 81, 85, 99] [.slice a n cp, .slice ai ni ci, .int .i64 (lastOf l pre), .map (some mb), .string (keyT w0 l inn (lastOf l pre)), .int .i64 (k : Int), .int .i64 (m : Int), .int .i64 ((n : Nat) : Int), .int .i64 (k : Int), .int .i64 ((n : Nat) : Int), .int .i64 (m : Int), .bool true, .bool (!(inn[m]!))] .nil (by kernel_rfl) (fun b161 => ?_)
                    refine OPS.re [.slice a n cp, .slice ai ni ci, .int .i64 (lastOf l pre), .map (some mb), .string (keyT w0 l inn (lastOf l pre)), .int .i64 (k : Int), .int .i64 (m : Int), .int .i64 ((n : Nat) : Int), .int .i64 (k : Int), .int .i64 ((n : Nat) : Int), .int .i64 (m : Int), .bool true, .bool false] (by rw [show (!(inn[m]!)) = false from (Bp.not Bp.var).ff (fun k => k h143)]) ?_
                    refine OPS.batch 13 { wraps := [103, 109, 111] } [] [0, 1, 2, 3, 11, 12, 13, 49, 50, 80, 81] [.slice a n cp, .slice ai ni ci, .int .i64 (lastOf l pre), .map (some mb), .string (keyT w0 l inn (lastOf l pre)), .int .i64 (k : Int), .bool true, .int .i64 ((n : Nat) : Int), .int .i64 (k : Int), .int .i64 ((n : Nat) : Int), .int .i64 (m : Int)] .nil (by kernel_rfl) (fun b162 => ?_)
                    refine OPS.nil ?_
                    refine blk_n ?_
                    refine thn_n ?_
                    refine WP.pure {} [] [0, 1, 2, 3, 11, 12, 13, 49, 50, 80, 81] [.slice a n cp, .slice ai ni ci, .int .i64 (lastOf l pre), .map (some mb), .string (keyT w0 l inn (lastOf l pre)), .int .i64 (k : Int), .bool true, .int .i64 ((n : Nat) : Int), .int .i64 (k : Int), .int .i64 ((n : Nat) : Int), .int .i64 ((m : Int) + 1)] (.cons (show Rng .i64 ((m : Int) + 1) from Rng.i64 (by omega)) .nil) (by kernel_rfl) (fun b163 => ?_)
                    refine thn_n ?_
                    exact ⟨l.length - (m + 1), (by omega), m + 1, true, rfl, ⟨by omega, and_step f2 Bp.t (by simp only [h127, h138, h143, iff_false, false_iff, iff_true, true_iff, Classical.not_not, and_true, true_and, and_false, false_and, or_true, true_or, or_false, false_or, not_true_eq_false, not_false_eq_true, and_self, or_self, eq_self, Bool.false_eq_true])⟩, by kernel_rfl, hp136⟩
                  · refine OPS.batch 0 {} [] [0, 1, 2, 3, 11, 12, 14, 49, 50, 80, 81, 85, 99] [.slice a n cp, .slice ai ni ci, .int .i64 (lastOf l pre), .map (some mb), .string (keyT w0 l inn (lastOf l pre)), .int .i64 (k : Int), .int .i64 (m : Int), .int .i64 ((n : Nat) : Int), .int .i64 (k : Int), .int .i64 ((n : Nat) : Int), .int .i64 (m : Int), .bool true, .bool (!(inn[m]!))] .nil (by kernel_rfl) (fun b144 => ?_)
                    refine OPS.re [.slice a n cp, .slice ai ni ci, .int .i64 (lastOf l pre), .map (some mb), .string (keyT w0 l inn (lastOf l pre)), .int .i64 (k : Int), .int .i64 (m : Int), .int .i64 ((n : Nat) : Int), .int .i64 (k : Int), .int .i64 ((n : Nat) : Int), .int .i64 (m : Int), .bool true, .bool true] (by rw [show (!(inn[m]!)) = true from (Bp.not Bp.var).tt h143]) ?_
                    refine OPS.batch 5 { wraps := [103] } [] [0, 1, 2, 3, 11, 12, 14, 49, 50, 80, 81, 85, 104] [.slice a n cp, .slice ai ni ci, .int .i64 (lastOf l pre), .map (some mb), .string (keyT w0 l inn (lastOf l pre)), .int .i64 (k : Int), .int .i64 (m : Int), .int .i64 ((n : Nat) : Int), .int .i64 (k : Int), .int .i64 ((n : Nat) : Int), .int .i64 (m : Int), .bool true, .bool (decide (¬ ((m : Int) = (k : Int))))] .nil (by kernel_rfl) (fun b145 => ?_)
                    by_cases h146 : (m : Int) = (k : Int)
                    · refine OPS.batch 0 {} [] [0, 1, 2, 3, 11, 12, 14, 49, 50, 80, 81, 85, 104] [.slice a n cp, .slice ai ni ci, .int .i64 (lastOf l pre), .map (some mb), .string (keyT w0 l inn (lastOf l pre)), .int .i64 (k : Int), .int .i64 (m : Int), .int .i64 ((n : Nat) : Int), .int .i64 (k : Int), .int .i64 ((n : Nat) : Int), .int .i64 (m : Int), .bool true, .bool (decide (¬ ((m : Int) = (k : Int))))] .nil (by kernel_rfl) (fun b158 => ?_)
                      refine OPS.re [.slice a n cp, .slice ai ni ci, .int .i64 (lastOf l pre), .map (some mb), .string (keyT w0 l inn (lastOf l pre)), .int .i64 (k : Int), .int .i64 (m : Int), .int .i64 ((n : Nat) : Int), .int .i64 (k : Int), .int .i64 ((n : Nat) : Int), .int .i64 (m : Int), .bool true, .bool false] (by rw [show (decide (¬ ((m : Int) = (k : Int)))) = false from Bp.dec.ff (fun k => k h146)]) ?_
                      refine OPS.batch 8 { wraps := [109, 111] } [] [0, 1, 2, 3, 11, 12, 13, 49, 50, 80, 81] [.slice a n cp, .slice ai ni ci, .int .i64 (lastOf l pre), .map (some mb), .string (keyT w0 l inn (lastOf l pre)), .int .i64 (k : Int), .bool true, .int .i64 ((n : Nat) : Int), .int .i64 (k : Int), .int .i64 ((n : Nat) : Int), .int .i64 (m : Int)] .nil (by kernel_rfl) (fun b159 => ?_)
                      refine OPS.nil ?_
                      refine blk_n ?_
                      refine thn_n ?_
                      refine WP.pure {} [] [0, 1, 2, 3, 11, 12, 13, 49, 50, 80, 81] [.slice a n cp, .slice ai ni ci, .int .i64 (lastOf l pre), .map (some mb), .string (keyT w0 l inn (lastOf l pre)), .int .i64 (k : Int), .bool true, .int .i64 ((n : Nat) : Int), .int .i64 (k : Int), .int .i64 ((n : Nat) : Int), .int .i64 ((m : Int) + 1)] (.cons (show Rng .i64 ((m : Int) + 1) from Rng.i64 (by omega)) .nil) (by kernel_rfl) (fun b160 => ?_)
                      refine thn_n ?_
                      exact ⟨l.length - (m + 1), (by omega), m + 1, true, rfl, ⟨by omega, and_step f2 Bp.t (by have h146_ : m = k := (by omega); simp only [h127, h138, h143, h146_, iff_false, false_iff, iff_true, true_iff, Classical.not_not, and_true, true_and, and_false, false_and, or_true, true_or, or_false, false_or, not_true_eq_false, not_false_eq_true, and_self, or_self, eq_self, Bool.false_eq_true])⟩, by kernel_rfl, hp136⟩
                    · refine OPS.batch 0 {} [] [0, 1, 2, 3, 11, 12, 14, 49, 50, 80, 81, 85, 104] [.slice a n cp, .slice ai ni ci, .int .i64 (lastOf l pre), .map (some mb), .string (keyT w0 l inn (lastOf l pre)), .int .i64 (k : Int), .int .i64 (m : Int), .int .i64 ((n : Nat) : Int), .int .i64 (k : Int), .int .i64 ((n : Nat) : Int), .int .i64 (m : Int), .bool true, .bool (decide (¬ ((m : Int) = (k : Int))))] .nil (by kernel_rfl) (fun b147 => ?_)
                      refine OPS.re [.slice a n cp, .slice ai ni ci, .int .i64 (lastOf l pre), .map (some mb), .string (keyT w0 l inn (lastOf l pre)), .int .i64 (k : Int), .int .i64 (m : Int), .int .i64 ((n : Nat) : Int), .int .i64 (k : Int), .int .i64 ((n : Nat) : Int), .int .i64 (m : Int), .bool true, .bool true] (by rw [show (decide (¬ ((m : Int) = (k : Int)))) = true from Bp.dec.tt h146]) ?_
                      refine OPS.batch 3 {} [] [0, 1, 2, 3, 11, 12, 49, 50, 80, 81, 85, 104, 105, 106, 107] [.slice a n cp, .slice ai ni ci, .int .i64 (lastOf l pre), .map (some mb), .string (keyT w0 l inn (lastOf l pre)), .int .i64 (k : Int), .int .i64 ((n : Nat) : Int), .int .i64 (k : Int), .int .i64 ((n : Nat) : Int), .int .i64 (m : Int), .bool true, .bool true, .slice a n cp, .int .i64 (m : Int), .int .i64 (k : Int)] .nil (by kernel_rfl) (fun b148 => ?_)
                      refine OPS.want (by kernel_rfl) ?_
                      refine OPS.cons (opStep.call (some 108) [.slice a n cp, .int .i64 (m : Int), .int .i64 (k : Int)] (by kernel_rfl) (top_ahead l n hn a cp _ (hs.at hp136) m k (by omega) (by omega)) ?_)
                      rintro _ w151 ⟨b154, rfl, hb155, hf152⟩
                      refine ⟨_, rfl, ?_⟩
                      have hp153 := hp136.step hf152
                      refine OPS.batch 4 { wraps := [109, 111] } [] [0, 1, 2, 3, 11, 12, 13, 49, 50, 80, 81] [.slice a n cp, .slice ai ni ci, .int .i64 (lastOf l pre), .map (some mb), .string (keyT w0 l inn (lastOf l pre)), .int .i64 (k : Int), .bool (!b154), .int .i64 ((n : Nat) : Int), .int .i64 (k : Int), .int .i64 ((n : Nat) : Int), .int .i64 (m : Int)] .nil (by kernel_rfl) (fun b156 => ?_)
                      refine OPS.nil ?_
                      refine blk_n ?_
                      refine thn_n ?_
                      refine WP.pure {} [] [0, 1, 2, 3, 11, 12, 13, 49, 50, 80, 81] [.slice a n cp, .slice ai ni ci, .int .i64 (lastOf l pre), .map (some mb), .string (keyT w0 l inn (lastOf l pre)), .int .i64 (k : Int), .bool (!b154), .int .i64 ((n : Nat) : Int), .int .i64 (k : Int), .int .i64 ((n : Nat) : Int), .int .i64 ((m : Int) + 1)] (.cons (show Rng .i64 ((m : Int) + 1) from Rng.i64 (by omega)) .nil) (by kernel_rfl) (fun b157 => ?_)
                      refine thn_n ?_
                      exact ⟨l.length - (m + 1), (by omega), m + 1, !b154, rfl, ⟨by omega, and_step f2 (Bp.not hb155) (by have h146_ : ¬ m = k := (by omega); simp only [h127, h138, h143, h146_, iff_false, false_iff, iff_true, true_iff, Classical.not_not, and_true, true_and, and_false, false_and, or_true, true_or, or_false, false_or, not_true_eq_false, not_false_eq_true, and_self, or_self, eq_self, Bool.false_eq_true])⟩, by kernel_rfl, hp153⟩
                · refine OPS.batch 0 {} [] [0, 1, 2, 3, 11, 12, 14, 49, 50, 80, 81, 85, 92] [.slice a n cp, .slice ai ni ci, .int .i64 (lastOf l pre), .map (some mb), .string (keyT w0 l inn (lastOf l pre)), .int .i64 (k : Int), .int .i64 (m : Int), .int .i64 ((n : Nat) : Int), .int .i64 (k : Int), .int .i64 ((n : Nat) : Int), .int .i64 (m : Int), .bool true, .bool (decide ((partT (l[m]!)) = 2))] .nil (by kernel_rfl) (fun b164 => ?_)
                  refine OPS.re [.slice a n cp, .slice ai ni ci, .int .i64 (lastOf l pre), .map (some mb), .string (keyT w0 l inn (lastOf l pre)), .int .i64 (k : Int), .int .i64 (m : Int), .int .i64 ((n : Nat) : Int), .int .i64 (k : Int), .int .i64 ((n : Nat) : Int), .int .i64 (m : Int), .bool true, .bool false] (by rw [show (decide ((partT (l[m]!)) = 2)) = false from Bp.dec.ff h138]) ?_
                  refine OPS.batch 20 { wraps := [98, 103, 109, 111] } [] [0, 1, 2, 3, 11, 12, 13, 49, 50, 80, 81] [.slice a n cp, .slice ai ni ci, .int .i64 (lastOf l pre), .map (some mb), .string (keyT w0 l inn (lastOf l pre)), .int .i64 (k : Int), .bool true, .int .i64 ((n : Nat) : Int), .int .i64 (k : Int), .int .i64 ((n : Nat) : Int), .int .i64 (m : Int)] .nil (by kernel_rfl) (fun b165 => ?_)
                  refine OPS.nil ?_
                  refine blk_n ?_
                  refine thn_n ?_
                  refine WP.pure {} [] [0, 1, 2, 3, 11, 12, 13, 49, 50, 80, 81] [.slice a n cp, .slice ai ni ci, .int .i64 (lastOf l pre), .map (some mb), .string (keyT w0 l inn (lastOf l pre)), .int .i64 (k : Int), .bool true, .int .i64 ((n : Nat) : Int), .int .i64 (k : Int), .int .i64 ((n : Nat) : Int), .int .i64 ((m : Int) + 1)] (.cons (show Rng .i64 ((m : Int) + 1) from Rng.i64 (by omega)) .nil) (by kernel_rfl) (fun b166 => ?_)
                  refine thn_n ?_
                  exact ⟨l.length - (m + 1), (by omega), m + 1, true, rfl, ⟨by omega, and_step f2 Bp.t (by simp only [h127, h138, iff_false, false_iff, iff_true, true_iff, Classical.not_not, and_true, true_and, and_false, false_and, or_true, true_or, or_false, false_or, not_true_eq_false, not_false_eq_true, and_self, or_self, eq_self, Bool.false_eq_true])⟩, by kernel_rfl, hp136⟩
              · refine OPS.batch 0 {} [] [0, 1, 2, 3, 11, 12, 14, 49, 50, 80, 81, 85] [.slice a n cp, .slice ai ni ci, .int .i64 (lastOf l pre), .map (some mb), .string (keyT w0 l inn (lastOf l pre)), .int .i64 (k : Int), .int .i64 (m : Int), .int .i64 ((n : Nat) : Int), .int .i64 (k : Int), .int .i64 ((n : Nat) : Int), .int .i64 (m : Int), .bool fr] .nil (by kernel_rfl) (fun b167 => ?_)
                refine OPS.re [.slice a n cp, .slice ai ni ci, .int .i64 (lastOf l pre), .map (some mb), .string (keyT w0 l inn (lastOf l pre)), .int .i64 (k : Int), .int .i64 (m : Int), .int .i64 ((n : Nat) : Int), .int .i64 (k : Int), .int .i64 ((n : Nat) : Int), .int .i64 (m : Int), .bool false] (by rw [show fr = false from Bp.var.ff h127]) ?_
                refine OPS.batch 27 { wraps := [111] } [] [0, 1, 2, 3, 11, 12, 13, 49, 50, 80, 81] [.slice a n cp, .slice ai ni ci, .int .i64 (lastOf l pre), .map (some mb), .string (keyT w0 l inn (lastOf l pre)), .int .i64 (k : Int), .bool false, .int .i64 ((n : Nat) : Int), .int .i64 (k : Int), .int .i64 ((n : Nat) : Int), .int .i64 (m : Int)] .nil (by kernel_rfl) (fun b168 => ?_)
                refine OPS.nil ?_
                refine blk_n ?_
                refine thn_n ?_
                refine WP.pure {} [] [0, 1, 2, 3, 11, 12, 13, 49, 50, 80, 81] [.slice a n cp, .slice ai ni ci, .int .i64 (lastOf l pre), .map (some mb), .string (keyT w0 l inn (lastOf l pre)), .int .i64 (k : Int), .bool false, .int .i64 ((n : Nat) : Int), .int .i64 (k : Int), .int .i64 ((n : Nat) : Int), .int .i64 ((m : Int) + 1)] (.cons (show Rng .i64 ((m : Int) + 1) from Rng.i64 (by omega)) .nil) (by kernel_rfl) (fun b169 => ?_)
                refine thn_n ?_
                exact ⟨l.length - (m + 1), (by omega), m + 1, false, rfl, ⟨by omega, and_step f2 Bp.f (by simp only [h127, iff_false, false_iff, iff_true, true_iff, Classical.not_not, and_true, true_and, and_false, false_and, or_true, true_or, or_false, false_or, not_true_eq_false, not_false_eq_true, and_self, or_self, eq_self, Bool.false_eq_true])⟩, by kernel_rfl, hp119⟩
            · refine WP.exit ?_
              refine thn_x ?_
              refine thn_x ?_
              refine blk_hit ?_
              refine thn_n ?_
              refine WP.seq ?_
              refine WP.seq ?_
              refine WP.pure {} [] [0, 1, 2, 3, 11, 12, 49, 50, 114] [.slice a n cp, .slice ai ni ci, .int .i64 (lastOf l pre), .map (some mb), .string (keyT w0 l inn (lastOf l pre)), .int .i64 (k : Int), .int .i64 ((n : Nat) : Int), .int .i64 (k : Int), .bool (!fr)] .nil (by kernel_rfl) (fun b170 => ?_)
              refine thn_n ?_
              refine WP.test (p := ¬ (fr = true)) rfl (Bp.not Bp.var) (fun h171 => ?_) (fun h171 => ?_)
              · refine WP.exit ?_
                refine thn_x ?_
                refine blk_hit ?_
                refine thn_n ?_
                refine WP.pure {} [] [0, 1, 2, 3, 11, 49, 50] [.slice a n cp, .slice ai ni ci, .int .i64 (lastOf l pre), .map (some mb), .string (keyT w0 l inn (lastOf l pre)), .int .i64 ((n : Nat) : Int), .int .i64 ((k : Int) + 1)] (.cons (show Rng .i64 ((k : Int) + 1) from Rng.i64 (by omega)) .nil) (by kernel_rfl) (fun b172 => ?_)
                refine thn_n ?_
                have hc4_ : ¬ inn[k]! = true ∧ ¬ partT l[k]! = 0 ∧ fitT (valAt w0) l (lastOf l pre) k := by have hq := h113; refine ⟨fun z => hq (.inl z), fun z => ?_, ?_⟩; (by_cases y : inn[k]! = true; exact hq (.inl y); exact hq (.inr (.inl ⟨y, z⟩))); (refine Classical.byContradiction fun z => ?_); (by_cases y : inn[k]! = true; exact hq (.inl y); by_cases x : partT l[k]! = 0; exact hq (.inr (.inl ⟨y, x⟩)); exact hq (.inr (.inr (.inl ⟨y, x, z⟩))))
                have hmay_ := free_may (val := valAt w0) hin (k := k) (by omega) (by omega) f2 hc4_.1 hc4_.2.1 hc4_.2.2
                have hnk_ := hc4_.1
                have hnn : wantT (valAt w0) l inn k → ∀ q, ¬ PathA (valAt w0) l pre (k :: q) := fun _ q hq => absurd (hmay_.1 hq.2.1) h171
                have hvn_ := p2
                exact ⟨l.length - (k + 1), (by omega), k + 1, vn, rfl, ⟨by omega, hvn_, fun j hj => by rcases Nat.lt_or_ge j k with q | q; exact p3 j q; (obtain rfl : j = k := by omega); exact hnn⟩, by kernel_rfl, hp119⟩
              · replace h171 := Classical.not_not.1 h171
                refine WP.skip ?_
                refine thn_n ?_
                refine WP.seq ?_
                have hc4_ : ¬ inn[k]! = true ∧ ¬ partT l[k]! = 0 ∧ fitT (valAt w0) l (lastOf l pre) k := by have hq := h113; refine ⟨fun z => hq (.inl z), fun z => ?_, ?_⟩; (by_cases y : inn[k]! = true; exact hq (.inl y); exact hq (.inr (.inl ⟨y, z⟩))); (refine Classical.byContradiction fun z => ?_); (by_cases y : inn[k]! = true; exact hq (.inl y); by_cases x : partT l[k]! = 0; exact hq (.inr (.inl ⟨y, x⟩)); exact hq (.inr (.inr (.inl ⟨y, x, z⟩))))
                have hmay_ := free_may (val := valAt w0) hin (k := k) (by omega) (by omega) f2 hc4_.1 hc4_.2.1 hc4_.2.2
                have hnk_ := hc4_.1
                have hfr_ : fr = true := h171
                refine WP.pure {} [] [0, 1, 2, 3, 11, 12, 15, 49, 50] [.slice a n cp, .slice ai ni ci, .int .i64 (lastOf l pre), .map (some mb), .string (keyT w0 l inn (lastOf l pre)), .int .i64 (k : Int), .int .i64 (lastOf l pre), .int .i64 ((n : Nat) : Int), .int .i64 (k : Int)] .nil (by kernel_rfl) (fun b173 => ?_)
                refine thn_n ?_
                refine WP.cut (fun e181 w182 => ∃ (x180 : Int), ((x180 = (k : Int) ∧ ((l[k]!.Put) = true) ∧ True) ∨ (x180 = lastOf l pre ∧ (¬ ((l[k]!.Put) = true)) ∧ True)) ∧ List.map e181 [0, 1, 2, 3, 11, 12, 15, 49, 50] = [.slice a n cp, .slice ai ni ci, .int .i64 (lastOf l pre), .map (some mb), .string (keyT w0 l inn (lastOf l pre)), .int .i64 (k : Int), .int .i64 x180, .int .i64 ((n : Nat) : Int), .int .i64 (k : Int)] ∧ Hp w0 Non (Res.own 4 1 (.slice ai ni ci) ni (List.flatMap (fun (y : Bool) => [Go.Value.bool y]) inn) :: Res.mp mb kS vB vn :: L) w182) ?_ ?_
                · refine WP.seq ?_
                  have hy176 : (l)[k]? = some l[k]! := get_bang (by first | (omega) | (simp only [List.length_append, List.length_cons, List.length_nil]; omega) | (simp only [List.length_take, List.length_append, List.length_cons, List.length_nil]; omega))
                  refine WP.pure {} [.bool (l[k]!.Put)] [0, 1, 2, 3, 11, 12, 15, 49, 50, 120] [.slice a n cp, .slice ai ni ci, .int .i64 (lastOf l pre), .map (some mb), .string (keyT w0 l inn (lastOf l pre)), .int .i64 (k : Int), .int .i64 (lastOf l pre), .int .i64 ((n : Nat) : Int), .int .i64 (k : Int), .bool (l[k]!.Put)] (.cons (show InB ((k : Int)) (n) from ⟨by omega, by omega⟩) (.cons ((hs.at hp119).some (by omega)) (.cons (Ld.el1 (P := Try.prog) (t := 4) (hs.at hp119).rd 11 (fun _ => rfl) hy176 (o := 2) (v := .bool (l[k]!.Put)) (by kernel_rfl)) .nil))) (by kernel_rfl) (fun b177 => ?_)
                  refine thn_n ?_
                  refine WP.test (p := (l[k]!.Put) = true) rfl Bp.var (fun h178 => ?_) (fun h178 => ?_)
                  · refine WP.pure {} [] [0, 1, 2, 3, 11, 12, 15, 49, 50] [.slice a n cp, .slice ai ni ci, .int .i64 (lastOf l pre), .map (some mb), .string (keyT w0 l inn (lastOf l pre)), .int .i64 (k : Int), .int .i64 (k : Int), .int .i64 ((n : Nat) : Int), .int .i64 (k : Int)] .nil (by kernel_rfl) (fun b179 => ?_)
                    refine thn_n ?_
                    exact ⟨(k : Int), Or.inl ⟨rfl, h178, trivial⟩, by kernel_rfl, hp119⟩
                  · refine WP.skip ?_
                    refine thn_n ?_
                    exact ⟨lastOf l pre, Or.inr (⟨rfl, h178, trivial⟩), by kernel_rfl, hp119⟩
                rintro e181 w182 ⟨x180, hd184, hE185, hp183⟩
                obtain ⟨b186, rfl⟩ := toMk hE185
                clear hE185
                refine WP.seq ?_
                refine WP.region _ rfl (by kernel_rfl) ?_
                refine OPS.batch 3 {} [] [0, 1, 2, 3, 11, 12, 15, 49, 50, 124] [.slice a n cp, .slice ai ni ci, .int .i64 (lastOf l pre), .map (some mb), .string (keyT w0 l inn (lastOf l pre)), .int .i64 (k : Int), .int .i64 x180, .int .i64 ((n : Nat) : Int), .int .i64 (k : Int), .pointer (some ((adr ai).add (k * 1)))] (.cons (show InB ((k : Int)) (ni) from ⟨by omega, by omega⟩) (.cons ((SlR.own (hp183.get0)).some (by omega)) .nil)) (by kernel_rfl) (fun b187 => ?_)
                have := own_flat (sz := 1) (fun _ => rfl) (by decide) hp183.get0
                try simp only [List.length_set] at this
                refine OPS.cons (opStep.storeOwn0 (k * 1) hp183 rfl [.bool true] (by kernel_rfl) (by simp) (show k * 1 + 1 ≤ ni * 1 by omega) (fun w188 hp189 => ?_))
                have hp190 := hp189
                rw [show ow (List.flatMap (fun (y : Bool) => [Go.Value.bool y]) inn) (k * 1) [.bool true] = List.flatMap (fun (y : Bool) => [Go.Value.bool y]) (inn.set k true) from ow_flat (sz := 1) (fun _ => rfl) (by first | (omega) | (simp only [List.length_set]; omega)) true] at hp190
                refine OPS.nil ?_
                refine thn_n ?_
                refine WP.seq ?_
                refine WP.region _ rfl (by kernel_rfl) ?_
                refine OPS.batch 4 {} [] [0, 1, 2, 3, 11, 12, 49, 50, 125, 126, 127, 128] [.slice a n cp, .slice ai ni ci, .int .i64 (lastOf l pre), .map (some mb), .string (keyT w0 l inn (lastOf l pre)), .int .i64 (k : Int), .int .i64 ((n : Nat) : Int), .int .i64 (k : Int), .slice a n cp, .slice ai ni ci, .int .i64 x180, .map (some mb)] .nil (by kernel_rfl) (fun b191 => ?_)
                have hp194 := hp190.pull1
                have hp195 := hp194.pull1
                have hxl_ : x180 = lastOf l (pre ++ [k]) := last_snoc_of (by rcases hd184 with q | q; exact .inl ⟨q.1, q.2.1⟩; exact .inr ⟨q.1, q.2.1⟩)
                subst hxl_
                have hck_ := count_set hnk_ (by omega)
                refine OPS.cons (opStep.call (some 129) [.slice a n cp, .slice ai ni ci, .int .i64 (lastOf l (pre ++ [k])), .map (some mb)] (by kernel_rfl) (ih _ (inn.set k true) (pre ++ [k]) vn _ (ins_set hin (by omega)) p2 hp195 (by omega)) ?_)
                rintro _ w196 ⟨b198, vn199, rfl, hb200, hq201, hp197⟩
                refine ⟨_, rfl, ?_⟩
                refine OPS.batch 1 {} [] [0, 1, 2, 3, 11, 12, 16, 49, 50] [.slice a n cp, .slice ai ni ci, .int .i64 (lastOf l pre), .map (some mb), .string (keyT w0 l inn (lastOf l pre)), .int .i64 (k : Int), .bool b198, .int .i64 ((n : Nat) : Int), .int .i64 (k : Int)] .nil (by kernel_rfl) (fun b202 => ?_)
                refine OPS.nil ?_
                refine thn_n ?_
                refine WP.seq ?_
                refine WP.region _ rfl (by kernel_rfl) ?_
                refine OPS.batch 3 {} [] [0, 1, 2, 3, 11, 16, 49, 50, 132] [.slice a n cp, .slice ai ni ci, .int .i64 (lastOf l pre), .map (some mb), .string (keyT w0 l inn (lastOf l pre)), .bool b198, .int .i64 ((n : Nat) : Int), .int .i64 (k : Int), .pointer (some ((adr ai).add (k * 1)))] (.cons (show InB ((k : Int)) (ni) from ⟨by omega, by omega⟩) (.cons ((SlR.own (hp197.get0)).some (by omega)) .nil)) (by kernel_rfl) (fun b203 => ?_)
                have := own_flat (sz := 1) (fun _ => rfl) (by decide) hp197.get0
                try simp only [List.length_set] at this
                refine OPS.cons (opStep.storeOwn0 (k * 1) hp197 rfl [.bool false] (by kernel_rfl) (by simp) (show k * 1 + 1 ≤ ni * 1 by omega) (fun w204 hp205 => ?_))
                have hp206 := hp205
                rw [show ow (List.flatMap (fun (y : Bool) => [Go.Value.bool y]) (inn.set k true)) (k * 1) [.bool false] = List.flatMap (fun (y : Bool) => [Go.Value.bool y]) ((inn.set k true).set k false) from ow_flat (sz := 1) (fun _ => rfl) (by first | (omega) | (simp only [List.length_set]; omega)) false] at hp206
                refine OPS.nil ?_
                refine thn_n ?_
                refine WP.seq ?_
                refine WP.pure {} [] [0, 1, 2, 3, 11, 49, 50, 133] [.slice a n cp, .slice ai ni ci, .int .i64 (lastOf l pre), .map (some mb), .string (keyT w0 l inn (lastOf l pre)), .int .i64 ((n : Nat) : Int), .int .i64 (k : Int), .bool b198] .nil (by kernel_rfl) (fun b207 => ?_)
                refine thn_n ?_
                refine WP.test (p := ∃ p, PathA (valAt w0) l (pre ++ [k]) p) rfl (show Bp b198 (∃ p, PathA (valAt w0) l (pre ++ [k]) p) from hb200) (fun h208 => ?_) (fun h208 => ?_)
                · refine WP.seq ?_
                  refine WP.pure {} [] [8] [.bool true] .nil (by kernel_rfl) (fun b209 => ?_)
                  refine thn_n ?_
                  refine WP.ret ?_
                  refine blk_r ?_
                  refine thn_r ?_
                  refine thn_r ?_
                  refine blk_r ?_
                  refine thn_r ?_
                  refine bodyQ.of _ rfl [.bool true] ⟨rfl, trivial⟩ ?_
                  have hinn_ : (inn.set k true).set k false = inn := set_back hnk_ (by omega)
                  have hp210 := hp206
                  rw [hinn_] at hp210
                  obtain ⟨q_, hq_⟩ := h208
                  exact ⟨true, vn199, rfl, ⟨fun _ => ⟨k :: q_, hnd_, hmay_.2 hfr_, hq_⟩, fun _ => rfl⟩, hq201, hp210⟩
                · refine WP.skip ?_
                  refine blk_n ?_
                  refine thn_n ?_
                  refine WP.pure {} [] [0, 1, 2, 3, 11, 49, 50] [.slice a n cp, .slice ai ni ci, .int .i64 (lastOf l pre), .map (some mb), .string (keyT w0 l inn (lastOf l pre)), .int .i64 ((n : Nat) : Int), .int .i64 ((k : Int) + 1)] (.cons (show Rng .i64 ((k : Int) + 1) from Rng.i64 (by omega)) .nil) (by kernel_rfl) (fun b211 => ?_)
                  refine thn_n ?_
                  have hinn_ : (inn.set k true).set k false = inn := set_back hnk_ (by omega)
                  have hp212 := hp206
                  rw [hinn_] at hp212
                  have hnn : wantT (valAt w0) l inn k → ∀ q, ¬ PathA (valAt w0) l pre (k :: q) := fun _ q hq => h208 ⟨q, hq.2.2⟩
                  have hvn_ := hq201
                  exact ⟨l.length - (k + 1), (by omega), k + 1, vn199, rfl, ⟨by omega, hvn_, fun j hj => by rcases Nat.lt_or_ge j k with q | q; exact p3 j q; (obtain rfl : j = k := by omega); exact hnn⟩, by kernel_rfl, hp212⟩
        · refine WP.exit ?_
          refine thn_x ?_
          refine thn_x ?_
          refine blk_hit ?_
          refine thn_n ?_
          refine WP.seq ?_
          refine WP.region _ rfl (by kernel_rfl) ?_
          refine OPS.batch 2 {} [] [135, 136] [.map (some mb), .string (keyT w0 l inn (lastOf l pre))] .nil (by kernel_rfl) (fun b213 => ?_)
          have hp216 := hp53.pull1
          refine OPS.cons (opStep.mapUpdateN (keyStr (by exact Try.underlying9)) (by exact Try.underlying146) hp216 (keyT w0 l inn (lastOf l pre)) true (by kernel_rfl) (fun w214 hp215 => ?_))
          refine OPS.nil ?_
          refine thn_n ?_
          refine WP.seq ?_
          refine WP.pure {} [] [8] [.bool false] .nil (by kernel_rfl) (fun b217 => ?_)
          refine thn_n ?_
          refine WP.ret ?_
          refine bodyQ.of _ rfl [.bool false] ⟨rfl, trivial⟩ ?_
          have hno_ : ∀ p, ¬ PathA (valAt w0) l pre p := fun p => prune hin hnd_ (fun j hj => p3 j (by omega)) p.length p (Nat.le_refl _)
          exact ⟨false, _, rfl, ⟨fun q => absurd q (by decide), fun ⟨p, hp⟩ => absurd hp (hno_ p)⟩, vain_put p2 hr hin rfl hno_, (((hp215.pull0).pull1).sub (.cons_cons _ (.cons_cons _ (.refl _))))⟩

theorem top_found (w0 : World) (l : List GCall) (n : Nat) (hn : l.length = n) (a : Option Addr) (cp : Nat) (hs : SlR w0 a n (l.flatMap GCall.cells)) (hv : ∀ x ∈ l, VB w0 x.Value) (hr : ByR w0 l) (hvn : ∀ x ∈ l, x.Value.n ≤ 1048576) (hll : l.length ≤ 1048576) (ai : Option Addr) (ni ci mb : Nat) : ∀ (m : Nat) (L : List Res) (inn : List Bool) (pre : List Nat) (vain : List (ByteArray × Bool)) (w : World) (hin : Ins l inn pre) (hva : VainOk w0 l vain) (hp0 : Hp w0 Non (Res.own 4 1 (.slice ai ni ci) ni (List.flatMap (fun (y : Bool) => [Go.Value.bool y]) inn) :: Res.mp mb kS vB vain :: L) w), inn.count false ≤ m → Calls Try.prog 99 #[.slice a n cp, .slice ai ni ci, .int .i64 (lastOf l pre), .map (some mb)] w (fun x w' => ∃ (b : Bool) (vain' : List (ByteArray × Bool)), x = .returned (.bool b) ∧ (b = true ↔ ∃ p, PathA (valAt w0) l pre p) ∧ VainOk w0 l vain' ∧ Hp w0 Non (Res.own 4 1 (.slice ai ni ci) ni (List.flatMap (fun (y : Bool) => [Go.Value.bool y]) inn) :: Res.mp mb kS vB vain' :: L) w') := by
  intro m
  induction m with
  | zero => intro L inn pre vain w hin hva hp0 hm; exact top_found_step w0 l n hn a cp hs hv hr hvn hll ai ni ci mb 0 (fun L inn pre vain w hin hva hp0 hm => absurd hm (by omega)) L inn pre vain w hin hva hp0 hm
  | succ m ih => intro L inn pre vain w hin hva hp0 hm; exact top_found_step w0 l n hn a cp hs hv hr hvn hll ai ni ci mb (m + 1) (fun L inn pre vain w hin hva hp0 hm => ih L inn pre vain w hin hva hp0 (by omega)) L inn pre vain w hin hva hp0 hm

end Go.Proofs.Ythdkbbpiaeaojaa.K
