/- Words of bits as natural numbers. -/
import Derived.Test.YtdahgdkadfdkeaaCoreR
namespace Go.Proofs.Ytdahgdkadfdkeaa.K
open Go Go.RowKit

theorem wrap_u32 {x : Nat} (h : x < 4294967296) : IntKind.u32.wrap (x : Int) = (x : Int) := by
  simp only [IntKind.wrap, IntKind.bits, IntKind.signed, Bool.false_and, Bool.false_eq_true, if_false]; omega
theorem wrap_u64 {x : Nat} (h : x < 18446744073709551616) : IntKind.u64.wrap (x : Int) = (x : Int) := by
  simp only [IntKind.wrap, IntKind.bits, IntKind.signed, Bool.false_and, Bool.false_eq_true, if_false]; omega
theorem and_lt {a b n : Nat} (h : a < n) : a &&& b < n := Nat.lt_of_le_of_lt Nat.and_le_left h
theorem or_lt32 {a b : Nat} (h : a < 4294967296) (k : b < 4294967296) : a ||| b < 4294967296 := Nat.or_lt_two_pow (n := 32) h k
theorem or_lt64 {a b : Nat} (h : a < 18446744073709551616) (k : b < 18446744073709551616) : a ||| b < 18446744073709551616 := Nat.or_lt_two_pow (n := 64) h k
theorem xor_lt32 {a b : Nat} (h : a < 4294967296) (k : b < 4294967296) : a ^^^ b < 4294967296 := Nat.xor_lt_two_pow (n := 32) h k
theorem u32_and {a b : Nat} (h : a < 4294967296) (k : b < 4294967296) : IntKind.u32.wrap ((BitVec.ofInt IntKind.u32.bits (a : Int) &&& BitVec.ofInt IntKind.u32.bits (b : Int)).toNat : Int) = ((a &&& b : Nat) : Int) := by
  rw [show (BitVec.ofInt IntKind.u32.bits (a : Int) &&& BitVec.ofInt IntKind.u32.bits (b : Int)).toNat = a &&& b from by
    show (BitVec.ofInt 32 (a : Int) &&& BitVec.ofInt 32 (b : Int)).toNat = _
    simp [BitVec.ofInt_natCast, Nat.mod_eq_of_lt h, Nat.mod_eq_of_lt k]]
  exact wrap_u32 (and_lt h)
theorem u64_and {a b : Nat} (h : a < 18446744073709551616) (k : b < 18446744073709551616) : IntKind.u64.wrap ((BitVec.ofInt IntKind.u64.bits (a : Int) &&& BitVec.ofInt IntKind.u64.bits (b : Int)).toNat : Int) = ((a &&& b : Nat) : Int) := by
  rw [show (BitVec.ofInt IntKind.u64.bits (a : Int) &&& BitVec.ofInt IntKind.u64.bits (b : Int)).toNat = a &&& b from by
    show (BitVec.ofInt 64 (a : Int) &&& BitVec.ofInt 64 (b : Int)).toNat = _
    simp [BitVec.ofInt_natCast, Nat.mod_eq_of_lt h, Nat.mod_eq_of_lt k]]
  exact wrap_u64 (and_lt h)
theorem u32_or {a b : Nat} (h : a < 4294967296) (k : b < 4294967296) : IntKind.u32.wrap ((BitVec.ofInt IntKind.u32.bits (a : Int) ||| BitVec.ofInt IntKind.u32.bits (b : Int)).toNat : Int) = ((a ||| b : Nat) : Int) := by
  rw [show (BitVec.ofInt IntKind.u32.bits (a : Int) ||| BitVec.ofInt IntKind.u32.bits (b : Int)).toNat = a ||| b from by
    show (BitVec.ofInt 32 (a : Int) ||| BitVec.ofInt 32 (b : Int)).toNat = _
    simp [BitVec.ofInt_natCast, Nat.mod_eq_of_lt h, Nat.mod_eq_of_lt k]]
  exact wrap_u32 (or_lt32 h k)
theorem u64_or {a b : Nat} (h : a < 18446744073709551616) (k : b < 18446744073709551616) : IntKind.u64.wrap ((BitVec.ofInt IntKind.u64.bits (a : Int) ||| BitVec.ofInt IntKind.u64.bits (b : Int)).toNat : Int) = ((a ||| b : Nat) : Int) := by
  rw [show (BitVec.ofInt IntKind.u64.bits (a : Int) ||| BitVec.ofInt IntKind.u64.bits (b : Int)).toNat = a ||| b from by
    show (BitVec.ofInt 64 (a : Int) ||| BitVec.ofInt 64 (b : Int)).toNat = _
    simp [BitVec.ofInt_natCast, Nat.mod_eq_of_lt h, Nat.mod_eq_of_lt k]]
  exact wrap_u64 (or_lt64 h k)
/-- The bits of a that b lacks. -/
def lack (a b : Nat) : Nat := a ^^^ (a &&& b)
theorem lack_lt32 {a b : Nat} (h : a < 4294967296) : lack a b < 4294967296 := xor_lt32 h (and_lt h)
theorem lack_bit (a b i : Nat) : (lack a b).testBit i = (a.testBit i && !b.testBit i) := by
  unfold lack
  rw [Nat.testBit_xor, Nat.testBit_and]
  cases a.testBit i <;> cases b.testBit i <;> rfl
theorem lack_zero (a b : Nat) : lack a b = 0 ↔ ∀ i, a.testBit i = true → b.testBit i = true := by
  constructor
  · intro h i hi
    have := lack_bit a b i
    rw [h, hi] at this
    cases hb : b.testBit i
    · rw [hb] at this; simp at this
    · rfl
  · intro h
    apply Nat.eq_of_testBit_eq
    intro i
    rw [lack_bit, Nat.zero_testBit]
    cases ha : a.testBit i
    · rfl
    · rw [h i ha]; rfl
theorem u32_andNot {a b : Nat} (h : a < 4294967296) : IntKind.u32.wrap ((BitVec.ofInt IntKind.u32.bits (a : Int) &&& ~~~ BitVec.ofInt IntKind.u32.bits (b : Int)).toNat : Int) = ((lack a b : Nat) : Int) := by
  rw [show (BitVec.ofInt IntKind.u32.bits (a : Int) &&& ~~~ BitVec.ofInt IntKind.u32.bits (b : Int)).toNat = lack a b from by
    show (BitVec.ofInt 32 (a : Int) &&& ~~~ BitVec.ofInt 32 (b : Int)).toNat = _
    rw [BitVec.ofInt_natCast, BitVec.ofInt_natCast]
    have e : (BitVec.ofNat 32 a &&& ~~~ BitVec.ofNat 32 b) = BitVec.ofNat 32 (lack a b) := by
      apply BitVec.eq_of_getLsbD_eq
      intro i hi
      simp only [BitVec.getLsbD_and, BitVec.getLsbD_not, BitVec.getLsbD_ofNat, hi, decide_true, Bool.true_and, lack_bit]
    rw [e, BitVec.toNat_ofNat]
    exact Nat.mod_eq_of_lt (lack_lt32 h)]
  exact wrap_u32 (lack_lt32 h)
theorem pow_lt32 {n : Nat} (h : n < 32) : 2 ^ n < 4294967296 := Nat.pow_lt_pow_right (a := 2) (m := n) (n := 32) (by omega) h
theorem pow_lt64 {n : Nat} (h : n < 64) : 2 ^ n < 18446744073709551616 := Nat.pow_lt_pow_right (a := 2) (m := n) (n := 64) (by omega) h
theorem u32_one {y : Int} (h0 : 0 ≤ y) (h : y < 32) : IntKind.u32.wrap (1 * 2 ^ (min y.toNat IntKind.u32.bits)) = ((2 ^ y.toNat : Nat) : Int) := by
  have hm : min y.toNat IntKind.u32.bits = y.toNat := Nat.min_eq_left (by show y.toNat ≤ 32; omega)
  rw [hm, Int.one_mul, show ((2 : Int) ^ y.toNat) = ((2 ^ y.toNat : Nat) : Int) from by simp]
  exact wrap_u32 (pow_lt32 (by omega))
theorem u64_one {y : Int} (h0 : 0 ≤ y) (h : y < 64) : IntKind.u64.wrap (1 * 2 ^ (min y.toNat IntKind.u64.bits)) = ((2 ^ y.toNat : Nat) : Int) := by
  have hm : min y.toNat IntKind.u64.bits = y.toNat := Nat.min_eq_left (by show y.toNat ≤ 64; omega)
  rw [hm, Int.one_mul, show ((2 : Int) ^ y.toNat) = ((2 ^ y.toNat : Nat) : Int) from by simp]
  exact wrap_u64 (pow_lt64 (by omega))
theorem u_shr {a m : Nat} {y : Int} (h : y ≤ m) : (a : Int).fdiv (2 ^ (min y.toNat m)) = ((a >>> y.toNat : Nat) : Int) := by
  have hm : min y.toNat m = y.toNat := Nat.min_eq_left (by omega)
  rw [hm, Nat.shiftRight_eq_div_pow, show ((2 : Int) ^ y.toNat) = ((2 ^ y.toNat : Nat) : Int) from by simp]
  exact (Int.fdiv_eq_ediv_of_nonneg _ (Int.natCast_nonneg _)).trans (by simp)
theorem bit_one (a n : Nat) : (((a >>> n) &&& 1 : Nat) : Int) = 1 ↔ a.testBit n = true := by
  rw [Nat.testBit, Nat.and_comm]
  constructor
  · intro h
    have : 1 &&& a >>> n = 1 := by omega
    simp [this]
  · intro h
    have h2 : 1 &&& a >>> n = a >>> n % 2 := by rw [Nat.and_comm, Nat.and_one_is_mod]
    have h3 : ¬ (1 &&& a >>> n) = 0 := by simpa using h
    omega
theorem shr_lt {a n m : Nat} (h : a < m) : a >>> n < m := Nat.lt_of_le_of_lt (Nat.shiftRight_le a n) h
end Go.Proofs.Ytdahgdkadfdkeaa.K
