/- What linear.One answers, told of orders instead of bits. -/
import Derived.Test.YtdahgdkadfdkeaaLinO
namespace Go.Proofs.Ytdahgdkadfdkeaa.K
open Go Go.RowKit

def lastOf (l : List GCall) (pre : List Nat) : Int := pre.foldl (fun (s : Int) (i : Nat) => if l[i]!.Put = true then (i : Int) else s) (-1)
def mayA (val : SlH → ByteArray) (l : List GCall) (pre : List Nat) (i : Nat) : Prop :=
  i < l.length ∧ partC l[i]! ∧ ¬ i ∈ pre ∧ (∀ j, j < l.length → befC l i j → j ∈ pre) ∧ (l[i]!.Put = true ∨ explP val l l[i]! (lastOf l pre))
def doneA (l : List GCall) (pre : List Nat) : Prop := ∀ i, i < l.length → mustC l[i]! → i ∈ pre
def PathA (val : SlH → ByteArray) (l : List GCall) : List Nat → List Nat → Prop
  | pre, [] => doneA l pre
  | pre, i :: p => ¬ doneA l pre ∧ mayA val l pre i ∧ PathA val l (pre ++ [i]) p
def inBits (l : List GCall) (pre : List Nat) : Nat := pre.foldl (fun n i => n ||| 2 ^ (bitN l i).toNat) 0

theorem bit_cnt {l : List GCall} {i : Nat} (h : partC l[i]!) : bitN l i = (cntN l i : Int) := by simp only [bitN, if_pos h]
theorem bit_inj {l : List GCall} {i j : Nat} (hi : partC l[i]!) (hj : partC l[j]!) (h : (bitN l i).toNat = (bitN l j).toNat) : i = j := by
  rw [bit_cnt hi, bit_cnt hj] at h
  rcases Nat.lt_trichotomy i j with k | k | k
  · have := cntN_mono l (j := i + 1) (k := j) k
    simp only [cntN, if_pos hi] at this
    omega
  · exact k
  · have := cntN_mono l (j := j + 1) (k := i) k
    simp only [cntN, if_pos hj] at this
    omega
theorem inBits_snoc (l : List GCall) (pre : List Nat) (i : Nat) : inBits l (pre ++ [i]) = inBits l pre ||| 2 ^ (bitN l i).toNat := by simp [inBits]
theorem lastOf_snoc (l : List GCall) (pre : List Nat) (i : Nat) : lastOf l (pre ++ [i]) = if l[i]!.Put = true then (i : Int) else lastOf l pre := by simp [lastOf]
theorem fold_bit {l : List GCall} {k : Nat} : ∀ (pre : List Nat) (a : Nat), (pre.foldl (fun n i => n ||| 2 ^ (bitN l i).toNat) a).testBit k = true ↔ a.testBit k = true ∨ ∃ j, j ∈ pre ∧ (bitN l j).toNat = k
  | [], a => by simp
  | i :: pre, a => by
    rw [List.foldl_cons, fold_bit pre, Nat.testBit_or, Nat.testBit_two_pow]
    simp only [Bool.or_eq_true, decide_eq_true_eq, List.mem_cons]
    constructor
    · rintro ((h | h) | ⟨j, h1, h2⟩)
      · exact .inl h
      · exact .inr ⟨i, .inl rfl, h⟩
      · exact .inr ⟨j, .inr h1, h2⟩
    · rintro (h | ⟨j, rfl | h1, h2⟩)
      · exact .inl (.inl h)
      · exact .inl (.inr h2)
      · exact .inr ⟨j, h1, h2⟩
theorem inBits_bit {l : List GCall} {n i : Nat} (hi : n = i) {pre : List Nat} (hp : ∀ j ∈ pre, partC l[j]!) (h : partC l[i]!) : (inBits l pre).testBit (bitN l i).toNat = true ↔ n ∈ pre := by
  subst hi
  unfold inBits
  rw [fold_bit]
  constructor
  · rintro (h1 | ⟨j, h1, h2⟩)
    · simp at h1
    · rw [← bit_inj (hp j h1) h h2]; exact h1
  · exact fun h1 => .inr ⟨_, h1, rfl⟩
theorem need_bit {l : List GCall} (k : Nat) : ∀ n, (needN l n).testBit k = true ↔ ∃ i, i < n ∧ mustC l[i]! ∧ (bitN l i).toNat = k
  | 0 => by simp [needN]
  | n + 1 => by
    have ih := need_bit (l := l) k n
    simp only [needN]
    split
    · rename_i hm
      rw [Nat.testBit_or, Nat.testBit_two_pow]
      simp only [Bool.or_eq_true, decide_eq_true_eq, ih]
      constructor
      · rintro (⟨i, h1, h2, h3⟩ | h1)
        · exact ⟨i, by omega, h2, h3⟩
        · exact ⟨n, by omega, hm, h1⟩
      · rintro ⟨i, h1, h2, h3⟩
        rcases Nat.lt_or_ge i n with h | h
        · exact .inl ⟨i, h, h2, h3⟩
        · obtain rfl : i = n := by omega
          exact .inr h3
    · rename_i hm
      rw [ih]
      constructor
      · rintro ⟨i, h1, h2⟩; exact ⟨i, by omega, h2⟩
      · rintro ⟨i, h1, h2, h3⟩
        rcases Nat.lt_or_ge i n with h | h
        · exact ⟨i, h, h2, h3⟩
        · obtain rfl : i = n := by omega
          exact absurd h2 hm
theorem bef_bit {l : List GCall} (i k : Nat) : ∀ n, (befN l i n).testBit k = true ↔ ∃ j, j < n ∧ befC l i j ∧ (bitN l j).toNat = k
  | 0 => by simp [befN]
  | n + 1 => by
    have ih := bef_bit (l := l) i k n
    simp only [befN]
    split
    · rename_i hm
      rw [Nat.testBit_or, Nat.testBit_two_pow]
      simp only [Bool.or_eq_true, decide_eq_true_eq, ih]
      constructor
      · rintro (⟨j, h1, h2, h3⟩ | h1)
        · exact ⟨j, by omega, h2, h3⟩
        · exact ⟨n, by omega, hm, h1⟩
      · rintro ⟨j, h1, h2, h3⟩
        rcases Nat.lt_or_ge j n with h | h
        · exact .inl ⟨j, h, h2, h3⟩
        · obtain rfl : j = n := by omega
          exact .inr h3
    · rename_i hm
      rw [ih]
      constructor
      · rintro ⟨j, h1, h2⟩; exact ⟨j, by omega, h2⟩
      · rintro ⟨j, h1, h2, h3⟩
        rcases Nat.lt_or_ge j n with h | h
        · exact ⟨j, h, h2, h3⟩
        · obtain rfl : j = n := by omega
          exact absurd h2 hm
theorem and_need (a b : Nat) : a &&& b = b ↔ ∀ k, b.testBit k = true → a.testBit k = true := by
  constructor
  · intro h k hk
    have := congrArg (fun x => x.testBit k) h
    simp only [Nat.testBit_and, hk, Bool.and_true] at this
    exact this
  · intro h
    apply Nat.eq_of_testBit_eq
    intro k
    rw [Nat.testBit_and]
    cases hk : b.testBit k
    · simp
    · simp [h k hk]
theorem done_iff {val : SlH → ByteArray} {l : List GCall} {pre : List Nat} (hp : ∀ j ∈ pre, partC l[j]!) : (oneC val l).done (inBits l pre, lastOf l pre) ↔ doneA l pre := by
  unfold Srch.done oneC doneA
  dsimp only
  rw [and_need]
  constructor
  · intro h i hi hm
    exact (inBits_bit rfl hp (.inl hm)).1 (h _ ((need_bit _ _).2 ⟨i, hi, hm, rfl⟩))
  · intro h k hk
    obtain ⟨i, hi, hm, rfl⟩ := (need_bit _ _).1 hk
    exact (inBits_bit rfl hp (.inl hm)).2 (h i hi hm)
theorem may_iff {val : SlH → ByteArray} {l : List GCall} {pre : List Nat} (hp : ∀ j ∈ pre, partC l[j]!) (i : Nat) : (oneC val l).may i (inBits l pre, lastOf l pre) ↔ mayA val l pre i := by
  unfold Srch.may oneC mayA
  dsimp only
  constructor
  · rintro ⟨h1, h2, h3, h4, h5⟩
    rw [bitsL_get h1] at h2 h3
    have hpt : partC l[i]! := by
      by_cases h : partC l[i]!
      · exact h
      · simp only [bitN, if_neg h] at h2; omega
    rw [show (ahL l l.length)[i]! = befN l i l.length from by simp [ahL, h1]] at h4
    refine ⟨h1, hpt, fun hm => h3 ((inBits_bit rfl hp hpt).2 hm), fun j hj hb => ?_, h5⟩
    exact (inBits_bit rfl hp (.inl hb.1)).1 ((lack_zero _ _).1 h4 _ ((bef_bit _ _ _).2 ⟨j, hj, hb, rfl⟩))
  · rintro ⟨h1, h2, h3, h4, h5⟩
    refine ⟨h1, ?_, ?_, ?_, h5⟩
    · rw [bitsL_get h1, bit_cnt h2]; omega
    · rw [bitsL_get h1]; exact fun hb => h3 ((inBits_bit rfl hp h2).1 hb)
    · rw [show (ahL l l.length)[i]! = befN l i l.length from by simp [ahL, h1]]
      rw [lack_zero]
      intro k hk
      obtain ⟨j, hj, hb, rfl⟩ := (bef_bit _ _ _).1 hk
      exact (inBits_bit rfl hp (.inl hb.1)).2 (h4 j hj hb)
theorem path_iff {val : SlH → ByteArray} {l : List GCall} : ∀ (p pre : List Nat), (∀ j ∈ pre, partC l[j]!) → (Path (oneC val l) (inBits l pre, lastOf l pre) p ↔ PathA val l pre p)
  | [], pre, hp => done_iff hp
  | i :: p, pre, hp => by
    simp only [Path, PathA]
    rw [done_iff hp, may_iff hp]
    constructor
    · rintro ⟨h1, h2, h3⟩
      refine ⟨h1, h2, ?_⟩
      have ih := path_iff (val := val) p (pre ++ [i]) (by intro j hj; rcases List.mem_append.1 hj with h | h; exact hp j h; (simp at h; subst h; exact h2.2.1))
      rw [inBits_snoc, lastOf_snoc] at ih
      refine ih.1 ?_
      have hg : (oneC val l).go i (inBits l pre, lastOf l pre) = (inBits l pre ||| 2 ^ (bitN l i).toNat, if l[i]!.Put = true then (i : Int) else lastOf l pre) := by
        unfold Srch.go oneC; dsimp only; rw [bitsL_get h2.1]
      rw [← hg]; exact h3
    · rintro ⟨h1, h2, h3⟩
      refine ⟨h1, h2, ?_⟩
      have ih := path_iff (val := val) p (pre ++ [i]) (by intro j hj; rcases List.mem_append.1 hj with h | h; exact hp j h; (simp at h; subst h; exact h2.2.1))
      rw [inBits_snoc, lastOf_snoc] at ih
      have hg : (oneC val l).go i (inBits l pre, lastOf l pre) = (inBits l pre ||| 2 ^ (bitN l i).toNat, if l[i]!.Put = true then (i : Int) else lastOf l pre) := by
        unfold Srch.go oneC; dsimp only; rw [bitsL_get h2.1]
      rw [hg]; exact ih.2 h3
theorem path_all {val : SlH → ByteArray} {l : List GCall} (p : List Nat) : Path (oneC val l) (0, -1) p ↔ PathA val l [] p := path_iff (val := val) (l := l) p [] (by simp)
def BestA (val : SlH → ByteArray) (l : List GCall) (p : List Nat) : Prop := PathA val l [] p ∧ ∀ q, PathA val l [] q → lexle p q
theorem best_all {val : SlH → ByteArray} {l : List GCall} (p : List Nat) : Best (oneC val l) (0, -1) p ↔ BestA val l p := by
  unfold Best BestA
  simp only [path_all]
theorem bad_all_iff {val : SlH → ByteArray} {l : List GCall} : Bad (oneC val l) (0, -1) ↔ ∀ p, ¬ PathA val l [] p := by
  unfold Bad
  simp only [path_all]
theorem lexle_antisymm : ∀ {p q : List Nat}, lexle p q → lexle q p → p = q
  | [], [], _, _ => rfl
  | [], _ :: _, _, h => h.elim
  | _ :: _, [], h, _ => h.elim
  | a :: p, b :: q, h, k => by
    rcases h with h | ⟨h, h2⟩
    · rcases k with k | ⟨k, _⟩
      · omega
      · omega
    · subst h
      rcases k with k | ⟨_, k2⟩
      · omega
      · rw [lexle_antisymm h2 k2]
theorem bestA_one {val : SlH → ByteArray} {l : List GCall} {p q : List Nat} (h : BestA val l p) (k : BestA val l q) : p = q := lexle_antisymm (h.2 q k.1) (k.2 p h.1)
end Go.Proofs.Ytdahgdkadfdkeaa.K
