/- The walks of QuoM: what each function computes. -/
import Derived.Test.YthdkbbpiaeaojaaProg
import Derived.Test.YthdkbbpiaeaojaaCoreO
import Derived.Test.YthdkbbpiaeaojaaQuoL
import Derived.Test.YthdkbbpiaeaojaaOpen
namespace Go.Proofs.Ythdkbbpiaeaojaa.K
open Go Go.Proofs Go.RowKit
set_option linter.unusedVariables false
set_option linter.unusedSimpArgs false
set_option maxRecDepth 20000
set_option maxHeartbeats 4000000

theorem tmod_bd (x k : Int) (h : 0 < k) : -k < x.tmod k ∧ x.tmod k < k := by
  have h1 := Int.tmod_lt_of_pos x h
  have h2 := Int.neg_tmod (a := x) (b := k)
  have h3 := Int.tmod_lt_of_pos (-x) h
  omega
theorem tmod_pos {x k : Int} (h : 0 ≤ x) (hk : 0 < k) : 0 ≤ x.tmod k ∧ x.tmod k < k := ⟨Int.tmod_nonneg _ h, Int.tmod_lt_of_pos x hk⟩
def addL (c : GConfig) (l : List Int) : Nat := l.foldl (qAdd c) 0
theorem qAdd_bit (c : GConfig) (m : Nat) (x : Int) (i : Nat) : (qAdd c m x).testBit i = true ↔ m.testBit i = true ∨ (inN c x ∧ x = (i : Int)) := by
  unfold qAdd
  by_cases h : inN c x
  · rw [if_pos h, Nat.testBit_or, Bool.or_eq_true, Nat.testBit_two_pow, decide_eq_true_iff]
    have : x.toNat = i ↔ x = (i : Int) := by unfold inN at h; omega
    rw [this]; simp [h]
  · rw [if_neg h]; simp [h]
theorem foldl_bit (c : GConfig) (i : Nat) : ∀ (l : List Int) (m : Nat), (l.foldl (qAdd c) m).testBit i = true ↔ m.testBit i = true ∨ (inN c (i : Int) ∧ (i : Int) ∈ l)
  | [], m => by simp
  | x :: l, m => by
    rw [List.foldl_cons, foldl_bit c i l, qAdd_bit, List.mem_cons]
    constructor
    · rintro ((h | ⟨h1, h2⟩) | h)
      · exact .inl h
      · subst h2; exact .inr ⟨h1, .inl rfl⟩
      · exact .inr ⟨h.1, .inr h.2⟩
    · rintro (h | ⟨h1, h2 | h2⟩)
      · exact .inl (.inl h)
      · exact .inl (.inr ⟨by rw [← h2]; exact h1, h2.symm⟩)
      · exact .inr ⟨h1, h2⟩
theorem addL_bit (c : GConfig) (l : List Int) (i : Nat) : (addL c l).testBit i = true ↔ inN c (i : Int) ∧ (i : Int) ∈ l := by
  unfold addL; rw [foldl_bit]; simp
theorem bits_ext {a b : Nat} (h : ∀ i, a.testBit i = true ↔ b.testBit i = true) : a = b := Nat.eq_of_testBit_eq fun i => by rw [Bool.eq_iff_iff]; exact h i
theorem addL_rev (c : GConfig) (l : List Int) : addL c l.reverse = addL c l := bits_ext fun i => by rw [addL_bit, addL_bit, List.mem_reverse]
theorem addL_step {c : GConfig} {l : List Int} {k m : Nat} {x : Int} (h : m = addL c (l.take k)) (hx : l[k]? = some x) : qAdd c m x = addL c (l.take (k + 1)) := by
  subst h
  rw [List.take_add_one, hx]
  unfold addL
  rw [List.foldl_append]; rfl
theorem qAdd_same {c : GConfig} {m : Nat} {x : Int} (h : inN c x) (hb : m.testBit x.toNat = true) : qAdd c m x = m := bits_ext fun i => by
  rw [qAdd_bit]
  constructor
  · rintro (q | ⟨_, rfl⟩)
    · exact q
    · simpa using hb
  · exact .inl
def small (c : GConfig) (m : Nat) : Prop := ∀ i : Nat, c.N ≤ (i : Int) → m.testBit i = false
theorem addL_small (c : GConfig) (l : List Int) : small c (addL c l) := fun i hi => by
  cases h : (addL c l).testBit i with
  | false => rfl
  | true => rw [addL_bit] at h; unfold inN at h; omega
theorem cnt_tail {m n : Nat} (h : ∀ i, n ≤ i → m.testBit i = false) : ∀ d, cntB m (n + d) = cntB m n
  | 0 => rfl
  | d + 1 => by rw [← Nat.add_assoc, cntB, cnt_tail h d, h (n + d) (by omega)]; rfl
theorem cnt_small {c : GConfig} {m : Nat} (hok : okCfg c) (h : small c m) : cntB m 256 = cntB m c.N.toNat := by
  unfold okCfg at hok
  have := cnt_tail (m := m) (n := c.N.toNat) (fun i hi => h i (by omega)) (256 - c.N.toNat)
  rw [show c.N.toNat + (256 - c.N.toNat) = 256 from by omega] at this
  exact this
/-- What is told of a set's lists. -/
theorem sel_facts {c : GConfig} {m : Nat} (hok : okCfg c) (h : small c m) : (sel m true c.N.toNat).length = cntB m 256 ∧ ((sel m true c.N.toNat).length : Int) + (sel m false c.N.toNat).length = c.N := by
  have h1 := sel_len m c.N.toNat
  have h2 := sel_len2 m c.N.toNat
  have h3 := cnt_small hok h
  unfold okCfg at hok
  omega
theorem sel_at {m x n : Nat} {b : Bool} (h : m.testBit x = b) (hx : x < n) : (sel m b n)[(sel m b x).length]? = some x := by
  obtain ⟨t, ht⟩ := sel_pre h hx
  rw [← ht, List.append_assoc, List.getElem?_append_right (Nat.le_refl _)]
  simp
theorem sel_not {m x n : Nat} {b : Bool} (h : ¬ m.testBit x = b) (hx : x < n) : ¬ (sel m b n)[(sel m b x).length]? = some x := by
  intro hh
  have := List.mem_of_getElem? hh
  exact h (sel_mem.1 this).2
theorem ptr_hit {m x n : Nat} {b : Bool} {ci : Int} (g : ci = ((sel m b x).length : Int)) (hx : x < n) (h : ci < (((sel m b n).length : Nat) : Int) ∧ (((sel m b n)[ci.toNat]! : Nat) : Int) = (x : Int)) : m.testBit x = b := by
  refine Classical.byContradiction fun hn => sel_not (n := n) hn hx ?_
  have e : ci.toNat = (sel m b x).length := by omega
  rw [e] at h
  rw [get_bang (by omega)]
  congr 1
  omega
theorem ptr_miss {m x n : Nat} {b : Bool} {ci : Int} (g : ci = ((sel m b x).length : Int)) (hx : x < n) (h : ¬ (ci < (((sel m b n).length : Nat) : Int) ∧ (((sel m b n)[ci.toNat]! : Nat) : Int) = (x : Int))) : ¬ m.testBit x = b := by
  intro hb
  have e : ci.toNat = (sel m b x).length := by omega
  have hs := sel_at (n := n) hb hx
  have hl : (sel m b x).length < (sel m b n).length := (List.getElem?_eq_some_iff.1 hs).1
  refine h ⟨by omega, ?_⟩
  rw [get_bang hl, Option.some.injEq] at hs
  rw [e, hs]
theorem sel_len_succ (m x : Nat) (b : Bool) : (sel m b (x + 1)).length = (sel m b x).length + (if m.testBit x = b then 1 else 0) := by
  rw [sel_succ, List.length_append]
  split <;> simp

theorem q_may (c : GConfig) (w : World) :
    Calls Try.prog 32 #[GConfig.val c] w (fun r_ w' => ∃ c' : GConfig, r_ = .returned c'.val ∧ okCfg c' ∧ Fram Non w w') := by
  have t1 := tmod_bd c.N 255 (by omega)
  have t2 := tmod_pos (x := c.N.tmod 255 + 255) (k := 255) (by omega) (by omega)
  have t3 := tmod_bd c.K ((c.N.tmod 255 + 255).tmod 255 + 1) (by omega)
  have t4 := tmod_pos (x := c.K.tmod ((c.N.tmod 255 + 255).tmod 255 + 1) + ((c.N.tmod 255 + 255).tmod 255 + 1)) (k := (c.N.tmod 255 + 255).tmod 255 + 1) (by omega) (by omega)
  have t5 := tmod_pos (x := max c.Delta 0) (k := 100) (by omega) (by omega)
  refine calls_of Try.func32 rfl 27 rfl (by simp) ?_
  have hp0 := Hp.init w
  have he0 : List.map (env0 [GConfig.val c]) [0] = [GConfig.val c] := by kernel_rfl
  obtain ⟨b0, he0⟩ := toMk he0
  rw [he0]
  clear he0
  refine WP.seq ?_
  refine WP.region _ rfl (by kernel_rfl) ?_
  refine OPS.cons (opStep.box hp0 [.int .i64 c.N, .int .i64 c.K, .int .i64 c.Delta] (by kernel_rfl) (fun g3 w1 hp2 => ?_))
  refine OPS.cons (opStep.alloc hp2 [.int .i64 0, .int .i64 0, .int .i64 0] (by kernel_rfl) (fun g6 w4 hp5 => ?_))
  refine OPS.nil ?_
  refine thn_n ?_
  refine WP.seq ?_
  refine WP.pure {} [.int .i64 c.N] [1, 2, 3] [.pointer (some ⟨g3, 0, none⟩), .pointer (some ⟨g6, 0, none⟩), .int .i64 ((((c.N.tmod 255) + 255).tmod 255) + 1)] (.cons (Ld.row1 (P := Try.prog) (t := 3) (o := 0) (v := .int .i64 c.N) hp5.get1 (by kernel_rfl)) (.cons (show (255 : Int) ≠ 0 from by omega) (.cons (show Rng .i64 ((c.N.tmod 255) + 255) from Rng.i64 (by omega)) (.cons (show (255 : Int) ≠ 0 from by omega) (.cons (show Rng .i64 ((((c.N.tmod 255) + 255).tmod 255) + 1) from Rng.i64 (by omega)) .nil))))) (by kernel_rfl) (fun b7 => ?_)
  refine thn_n ?_
  refine WP.seq ?_
  refine WP.pure {} [.int .i64 c.K] [1, 2, 3, 4] [.pointer (some ⟨g3, 0, none⟩), .pointer (some ⟨g6, 0, none⟩), .int .i64 ((((c.N.tmod 255) + 255).tmod 255) + 1), .int .i64 ((((c.K.tmod ((((c.N.tmod 255) + 255).tmod 255) + 1)) + ((((c.N.tmod 255) + 255).tmod 255) + 1)).tmod ((((c.N.tmod 255) + 255).tmod 255) + 1)) + 1)] (.cons (Ld.row1 (P := Try.prog) (t := 3) (o := 1) (v := .int .i64 c.K) hp5.get1 (by kernel_rfl)) (.cons (show ((((c.N.tmod 255) + 255).tmod 255) + 1 : Int) ≠ 0 from by omega) (.cons (show Rng .i64 ((c.K.tmod ((((c.N.tmod 255) + 255).tmod 255) + 1)) + ((((c.N.tmod 255) + 255).tmod 255) + 1)) from Rng.i64 (by omega)) (.cons (show ((((c.N.tmod 255) + 255).tmod 255) + 1 : Int) ≠ 0 from by omega) (.cons (show Rng .i64 ((((c.K.tmod ((((c.N.tmod 255) + 255).tmod 255) + 1)) + ((((c.N.tmod 255) + 255).tmod 255) + 1)).tmod ((((c.N.tmod 255) + 255).tmod 255) + 1)) + 1) from Rng.i64 (by omega)) .nil))))) (by kernel_rfl) (fun b8 => ?_)
  refine thn_n ?_
  refine WP.seq ?_
  refine WP.region _ rfl (by kernel_rfl) ?_
  refine OPS.batch 7 {} [.int .i64 c.Delta] [2, 26] [.pointer (some ⟨g6, 0, none⟩), .agg #[.int .i64 ((((c.N.tmod 255) + 255).tmod 255) + 1), .int .i64 ((((c.K.tmod ((((c.N.tmod 255) + 255).tmod 255) + 1)) + ((((c.N.tmod 255) + 255).tmod 255) + 1)).tmod ((((c.N.tmod 255) + 255).tmod 255) + 1)) + 1), .int .i64 ((max c.Delta 0).tmod 100)]] (.cons (Ld.row1 (P := Try.prog) (t := 3) (o := 2) (v := .int .i64 c.Delta) hp5.get1 (by kernel_rfl)) (.cons (show (100 : Int) ≠ 0 from by omega) .nil)) (by kernel_rfl) (fun b9 => ?_)
  refine OPS.cons (opStep.store0 hp5 rfl [.int .i64 ((((c.N.tmod 255) + 255).tmod 255) + 1), .int .i64 ((((c.K.tmod ((((c.N.tmod 255) + 255).tmod 255) + 1)) + ((((c.N.tmod 255) + 255).tmod 255) + 1)).tmod ((((c.N.tmod 255) + 255).tmod 255) + 1)) + 1), .int .i64 ((max c.Delta 0).tmod 100)] [.int .i64 ((((c.N.tmod 255) + 255).tmod 255) + 1), .int .i64 ((((c.K.tmod ((((c.N.tmod 255) + 255).tmod 255) + 1)) + ((((c.N.tmod 255) + 255).tmod 255) + 1)).tmod ((((c.N.tmod 255) + 255).tmod 255) + 1)) + 1), .int .i64 ((max c.Delta 0).tmod 100)] (by kernel_rfl) (fun w10 hp11 => ?_))
  refine OPS.nil ?_
  refine thn_n ?_
  refine WP.ret ?_
  refine bodyQ.of _ rfl [.agg #[.int .i64 ((((c.N.tmod 255) + 255).tmod 255) + 1), .int .i64 ((((c.K.tmod ((((c.N.tmod 255) + 255).tmod 255) + 1)) + ((((c.N.tmod 255) + 255).tmod 255) + 1)).tmod ((((c.N.tmod 255) + 255).tmod 255) + 1)) + 1), .int .i64 ((max c.Delta 0).tmod 100)]] ⟨⟨_, rfl, (show Ld Try.prog w10 60 ⟨g6, 0, none⟩ (.agg #[.int .i64 ((((c.N.tmod 255) + 255).tmod 255) + 1), .int .i64 ((((c.K.tmod ((((c.N.tmod 255) + 255).tmod 255) + 1)) + ((((c.N.tmod 255) + 255).tmod 255) + 1)).tmod ((((c.N.tmod 255) + 255).tmod 255) + 1)) + 1), .int .i64 ((max c.Delta 0).tmod 100)]) from Ld.rowN (cs := [.int .i64 ((((c.N.tmod 255) + 255).tmod 255) + 1), .int .i64 ((((c.K.tmod ((((c.N.tmod 255) + 255).tmod 255) + 1)) + ((((c.N.tmod 255) + 255).tmod 255) + 1)).tmod ((((c.N.tmod 255) + 255).tmod 255) + 1)) + 1), .int .i64 ((max c.Delta 0).tmod 100)]) hp11.get0 (by kernel_rfl))⟩, trivial⟩ ?_
  exact ⟨⟨(((c.N.tmod 255) + 255).tmod 255) + 1, (((c.K.tmod ((((c.N.tmod 255) + 255).tmod 255) + 1)) + ((((c.N.tmod 255) + 255).tmod 255) + 1)).tmod ((((c.N.tmod 255) + 255).tmod 255) + 1)) + 1, (max c.Delta 0).tmod 100⟩, rfl, by unfold okCfg; dsimp only; omega, hp11.fr⟩

end Go.Proofs.Ythdkbbpiaeaojaa.K
