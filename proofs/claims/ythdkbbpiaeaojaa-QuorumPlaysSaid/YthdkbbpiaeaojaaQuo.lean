/- Sets of servers as bits of one number, in words of 64. -/
import Derived.Test.YthdkbbpiaeaojaaCoreV
import Derived.Test.YthdkbbpiaeaojaaBits
namespace Go.Proofs.Ythdkbbpiaeaojaa.K
open Go Go.RowKit

def wd (m k : Nat) : Nat := m >>> (64 * k) % 18446744073709551616
theorem wd_lt (m k : Nat) : wd m k < 18446744073709551616 := Nat.mod_lt _ (by decide)
theorem wd_bit (m k i : Nat) : (wd m k).testBit i = (decide (i < 64) && m.testBit (64 * k + i)) := by
  unfold wd
  rw [show (18446744073709551616 : Nat) = 2 ^ 64 from rfl, Nat.testBit_mod_two_pow, Nat.testBit_shiftRight]
theorem wd_zero (k : Nat) : wd 0 k = 0 := by simp [wd]
theorem bit_of_and {x s : Nat} : (((x >>> s &&& 1 : Nat) : Int) = 1) ↔ x.testBit s = true := by
  have h1 : x >>> s &&& 1 = (x >>> s) % 2 := Nat.and_one_is_mod _
  have h2 := Nat.testBit_eq_decide_div_mod_eq (x := x) (i := s)
  rw [h1, h2, Nat.shiftRight_eq_div_pow, decide_eq_true_iff]
  omega
theorem has_bit {m : Nat} {i : Int} (h : 0 ≤ i) : (((wd m (i.tdiv 64).toNat >>> (i.tmod 64).toNat &&& 1 : Nat) : Int) = 1) ↔ m.testBit i.toNat = true := by
  rw [bit_of_and, wd_bit]
  have e1 : i.tdiv 64 = i / 64 := Int.tdiv_eq_ediv_of_nonneg h
  have e2 : i.tmod 64 = i % 64 := Int.tmod_eq_emod_of_nonneg h
  rw [e1, e2, show 64 * (i / 64).toNat + (i % 64).toNat = i.toNat from by omega]
  have : (i % 64).toNat < 64 := by omega
  simp [this]
theorem wd_row3 {a b c : Value} {m i : Nat} (h : i < 4) : [a, b, c, Value.int .u64 ((wd m 0 : Nat) : Int), .int .u64 ((wd m 1 : Nat) : Int), .int .u64 ((wd m 2 : Nat) : Int), .int .u64 ((wd m 3 : Nat) : Int)][3 + i]? = some (.int .u64 ((wd m i : Nat) : Int)) := by
  rcases i with _ | _ | _ | _ | i <;> first | rfl | omega
theorem wd_row0 {m i : Nat} (h : i < 4) : [Value.int .u64 ((wd m 0 : Nat) : Int), .int .u64 ((wd m 1 : Nat) : Int), .int .u64 ((wd m 2 : Nat) : Int), .int .u64 ((wd m 3 : Nat) : Int)][0 + i]? = some (.int .u64 ((wd m i : Nat) : Int)) := by
  rcases i with _ | _ | _ | _ | i <;> first | rfl | omega
/-- A number's bit. -/
def bitN (i : Nat) : Nat := 2 ^ i
theorem wd_or (a b k : Nat) : wd (a ||| b) k = wd a k ||| wd b k := by
  apply Nat.eq_of_testBit_eq
  intro i
  rw [wd_bit, Nat.testBit_or, Nat.testBit_or, wd_bit, wd_bit]
  cases decide (i < 64) <;> simp
theorem wd_and (a b k : Nat) : wd (a &&& b) k = wd a k &&& wd b k := by
  apply Nat.eq_of_testBit_eq
  intro i
  rw [wd_bit, Nat.testBit_and, Nat.testBit_and, wd_bit, wd_bit]
  cases decide (i < 64) <;> simp
theorem wd_pow {x k : Nat} : wd (2 ^ x) k = if x / 64 = k then 2 ^ (x % 64) else 0 := by
  apply Nat.eq_of_testBit_eq
  intro i
  rw [wd_bit, Nat.testBit_two_pow]
  split
  · rename_i h
    rw [Nat.testBit_two_pow]
    by_cases hi : i < 64
    · simp only [hi, decide_true, Bool.true_and, decide_eq_decide]; omega
    · have : ¬ x % 64 = i := by omega
      simp [hi, this]
  · rename_i h
    rw [Nat.zero_testBit]
    by_cases hi : i < 64
    · have : ¬ x = 64 * k + i := by omega
      simp [this]
    · simp [hi]
theorem ow_wd3 {a b c : Value} {m : Nat} {x : Int} (h : 0 ≤ x) (hx : x < 256) :
    ow [a, b, c, Value.int .u64 ((wd m 0 : Nat) : Int), .int .u64 ((wd m 1 : Nat) : Int), .int .u64 ((wd m 2 : Nat) : Int), .int .u64 ((wd m 3 : Nat) : Int)] (3 + (x.tdiv 64).toNat) [Value.int .u64 ((wd m (x.tdiv 64).toNat ||| 2 ^ (x.tmod 64).toNat : Nat) : Int)]
      = [a, b, c, Value.int .u64 ((wd (m ||| 2 ^ x.toNat) 0 : Nat) : Int), .int .u64 ((wd (m ||| 2 ^ x.toNat) 1 : Nat) : Int), .int .u64 ((wd (m ||| 2 ^ x.toNat) 2 : Nat) : Int), .int .u64 ((wd (m ||| 2 ^ x.toNat) 3 : Nat) : Int)] := by
  have e1 : x.tdiv 64 = x / 64 := Int.tdiv_eq_ediv_of_nonneg h
  have e2 : x.tmod 64 = x % 64 := Int.tmod_eq_emod_of_nonneg h
  rw [e1, e2]
  obtain ⟨n, rfl⟩ := Int.eq_ofNat_of_zero_le h
  have hn : n < 256 := by omega
  have e3 : ((n : Int) / 64).toNat = n / 64 := by omega
  have e4 : ((n : Int) % 64).toNat = n % 64 := by omega
  simp only [e3, e4, Int.toNat_natCast, wd_or, wd_pow]
  have h4 : n / 64 = 0 ∨ n / 64 = 1 ∨ n / 64 = 2 ∨ n / 64 = 3 := by omega
  rcases h4 with h4 | h4 | h4 | h4 <;> simp [h4, ow]
theorem ow_and3 {a b c : Value} {m o : Nat} : ∀ k : Nat, k < 4 → ∀ m' : Nat, (∀ j, j < 4 → wd m' j = if j < k then wd (m &&& o) j else wd m j) → ∀ m'' : Nat, (∀ j, j < 4 → wd m'' j = if j < k + 1 then wd (m &&& o) j else wd m j) →
    ow [a, b, c, Value.int .u64 ((wd m' 0 : Nat) : Int), .int .u64 ((wd m' 1 : Nat) : Int), .int .u64 ((wd m' 2 : Nat) : Int), .int .u64 ((wd m' 3 : Nat) : Int)] (3 + k) [Value.int .u64 ((wd m' k &&& wd o k : Nat) : Int)]
      = [a, b, c, Value.int .u64 ((wd m'' 0 : Nat) : Int), .int .u64 ((wd m'' 1 : Nat) : Int), .int .u64 ((wd m'' 2 : Nat) : Int), .int .u64 ((wd m'' 3 : Nat) : Int)] := by
  intro k hk m' h m'' h'
  have a0 := h 0 (by omega); have a1 := h 1 (by omega); have a2 := h 2 (by omega); have a3 := h 3 (by omega)
  have b0 := h' 0 (by omega); have b1 := h' 1 (by omega); have b2 := h' 2 (by omega); have b3 := h' 3 (by omega)
  rcases k with _ | _ | _ | _ | k <;> first | omega | (simp [wd_and] at a0 a1 a2 a3 b0 b1 b2 b3; simp [ow, a0, a1, a2, a3, b0, b1, b2, b3])
/-! ### how many bits -/
def cntB (m : Nat) : Nat → Nat
  | 0 => 0
  | k + 1 => cntB m k + (m.testBit k).toNat
theorem cntB_congr {m m' : Nat} : ∀ {k : Nat}, (∀ i, i < k → m.testBit i = m'.testBit i) → cntB m k = cntB m' k
  | 0, _ => rfl
  | k + 1, h => by rw [cntB, cntB, cntB_congr (fun i hi => h i (by omega)), h k (by omega)]
theorem cntB_le (m : Nat) : ∀ k, cntB m k ≤ k
  | 0 => Nat.le_refl _
  | k + 1 => by have := cntB_le m k; have : (m.testBit k).toNat ≤ 1 := by cases m.testBit k <;> simp
                simp only [cntB]; omega
theorem cntB_add (m a : Nat) : ∀ b, cntB m (a + b) = cntB m a + cntB (m >>> a) b
  | 0 => rfl
  | b + 1 => by rw [← Nat.add_assoc, cntB, cntB, cntB_add m a b, Nat.testBit_shiftRight]; omega
theorem cntB_word (m k : Nat) : cntB (wd m k) 64 = cntB (m >>> (64 * k)) 64 :=
  cntB_congr fun i hi => by rw [wd_bit, Nat.testBit_shiftRight]; simp [hi]
theorem cntB_words (m : Nat) : cntB (wd m 0) 64 + cntB (wd m 1) 64 + cntB (wd m 2) 64 + cntB (wd m 3) 64 = cntB m 256 := by
  have h1 := cntB_add m 64 192
  have h2 := cntB_add (m >>> 64) 64 128
  have h3 := cntB_add (m >>> 64 >>> 64) 64 64
  simp only [← Nat.shiftRight_add, Nat.reduceAdd] at h1 h2 h3
  simp only [cntB_word]
  simp only [Nat.mul_zero, Nat.shiftRight_zero, Nat.reduceMul] at *
  omega
/-- The numbers below n at which the bit is so. -/
def sel (m : Nat) (b : Bool) (n : Nat) : List Nat := (List.range n).filter fun i => m.testBit i == b
theorem sel_succ (m : Nat) (b : Bool) (n : Nat) : sel m b (n + 1) = sel m b n ++ (if m.testBit n = b then [n] else []) := by
  unfold sel
  rw [List.range_succ, List.filter_append]
  by_cases h : m.testBit n = b <;> simp [h]
theorem sel_len (m : Nat) : ∀ n, (sel m true n).length = cntB m n
  | 0 => rfl
  | n + 1 => by rw [sel_succ, List.length_append, sel_len m n, cntB]; cases h : m.testBit n <;> simp
theorem sel_len2 (m : Nat) : ∀ n, (sel m false n).length + cntB m n = n
  | 0 => rfl
  | n + 1 => by have := sel_len2 m n; rw [sel_succ, List.length_append, cntB]; cases h : m.testBit n <;> simp <;> omega
theorem sel_le (m : Nat) (b : Bool) (n : Nat) : (sel m b n).length ≤ n := by unfold sel; have := List.length_filter_le (fun i => m.testBit i == b) (List.range n); simpa using this
theorem sel_mem {m : Nat} {b : Bool} {n i : Nat} : i ∈ sel m b n ↔ i < n ∧ m.testBit i = b := by unfold sel; simp
end Go.Proofs.Ythdkbbpiaeaojaa.K
