/- The count of a word's bits, as the library reckons it. -/
import Derived.Test.YthdkbbpiaeaojaaQuo
namespace Go.Proofs.Ythdkbbpiaeaojaa.K
open Go Go.RowKit

def M85 : Nat → Nat | 0 => 0 | k + 1 => 85 + 256 * M85 k
def M51 : Nat → Nat | 0 => 0 | k + 1 => 51 + 256 * M51 k
def M15 : Nat → Nat | 0 => 0 | k + 1 => 15 + 256 * M15 k
theorem and_split {a b c d : Nat} (ha : a < 256) (hc : c < 256) : (a + 256 * b) &&& (c + 256 * d) = (a &&& c) + 256 * (b &&& d) := by
  apply Nat.eq_of_testBit_eq
  intro i
  have hac : a &&& c < 2 ^ 8 := Nat.lt_of_le_of_lt Nat.and_le_left ha
  rw [Nat.testBit_and, show a + 256 * b = 2 ^ 8 * b + a from by omega, show c + 256 * d = 2 ^ 8 * d + c from by omega, show (a &&& c) + 256 * (b &&& d) = 2 ^ 8 * (b &&& d) + (a &&& c) from by omega,
    Nat.testBit_two_pow_mul_add _ (by exact ha), Nat.testBit_two_pow_mul_add _ (by exact hc), Nat.testBit_two_pow_mul_add _ hac, Nat.testBit_and, Nat.testBit_and]
  split <;> rfl
def T1 (x k : Nat) : Nat := (x / 2 &&& M85 k) + (x &&& M85 k)
def T2 (x k : Nat) : Nat := (x / 4 &&& M51 k) + (x &&& M51 k)
def T3 (x k : Nat) : Nat := (x / 16 + x) &&& M15 k
def p1 (a : Nat) : Nat := (a / 2 &&& 85) + (a &&& 85)
def p2 (a : Nat) : Nat := (a / 4 &&& 51) + (a &&& 51)
def p3 (a : Nat) : Nat := (a / 16 + a) &&& 15
theorem d1 : ∀ a, a < 256 → ∀ c, c < 2 → ((a / 2 + 128 * c) &&& 85 = a / 2 &&& 85 ∧ p1 a < 256) := by decide +kernel
theorem d2 : ∀ a, a < 256 → ∀ c, c < 4 → ((a / 4 + 64 * c) &&& 51 = a / 4 &&& 51 ∧ p2 a < 256 ∧ p2 a % 16 ≤ 6 ∧ p2 a / 16 ≤ 6) := by decide +kernel
theorem d3 : ∀ a, a < 256 → ∀ c, c < 8 → ((a / 16 + a + 16 * c) &&& 15 = p3 a ∧ p3 a ≤ 15) := by decide +kernel
theorem dcnt : ∀ a, a < 256 → p3 (p2 (p1 a)) = cntB a 8 := by decide +kernel
theorem T1_step {a b k : Nat} (ha : a < 256) : T1 (a + 256 * b) (k + 1) = p1 a + 256 * T1 b k := by
  have h1 := (d1 a ha (b % 2) (by omega)).1
  unfold T1 p1
  rw [show (a + 256 * b) / 2 = (a / 2 + 128 * (b % 2)) + 256 * (b / 2) from by omega, M85, and_split (by omega) (by omega), and_split ha (by omega), h1]
  omega
theorem T2_step {a b k : Nat} (ha : a < 256) : T2 (a + 256 * b) (k + 1) = p2 a + 256 * T2 b k := by
  have h1 := (d2 a ha (b % 4) (by omega)).1
  unfold T2 p2
  rw [show (a + 256 * b) / 4 = (a / 4 + 64 * (b % 4)) + 256 * (b / 4) from by omega, M51, and_split (by omega) (by omega), and_split ha (by omega), h1]
  omega
theorem T3_step {a b k : Nat} (ha : a % 16 ≤ 6) (ha2 : a / 16 ≤ 6) (hb : b % 16 ≤ 6) : T3 (a + 256 * b) (k + 1) = p3 a + 256 * T3 b k := by
  have h1 := (d3 a (by omega) (b % 16) (by omega)).1
  unfold T3
  rw [show (a + 256 * b) / 16 + (a + 256 * b) = (a / 16 + a + 16 * (b % 16)) + 256 * (b / 16 + b) from by omega, M15, and_split (by omega) (by omega), h1]
theorem T2_low (b : Nat) : ∀ k, T2 (T1 b k) k % 16 ≤ 6
  | 0 => by simp [T2, M51]
  | k + 1 => by
    have e : b = b % 256 + 256 * (b / 256) := by omega
    rw [e, T1_step (by omega), T2_step (d1 (b % 256) (by omega) 0 (by omega)).2]
    have := (d2 (p1 (b % 256)) (d1 (b % 256) (by omega) 0 (by omega)).2 0 (by omega)).2.2.1
    omega
def TT (x k : Nat) : Nat := T3 (T2 (T1 x k) k) k
theorem TT_step {a b k : Nat} (ha : a < 256) : TT (a + 256 * b) (k + 1) = cntB a 8 + 256 * TT b k := by
  have hp := (d1 a ha 0 (by omega)).2
  have h2 := (d2 (p1 a) hp 0 (by omega)).2
  unfold TT
  rw [T1_step ha, T2_step hp, T3_step h2.2.1 h2.2.2 (T2_low b k), dcnt a ha]
def bytesSum : Nat → Nat → Nat
  | _, 0 => 0
  | x, k + 1 => cntB (x % 256) 8 + 256 * bytesSum (x / 256) k
theorem TT_eq : ∀ k x, x < 256 ^ k → TT x k = bytesSum x k
  | 0, x, _ => by simp [TT, T3, M15, bytesSum]
  | k + 1, x, h => by
    have e : x = x % 256 + 256 * (x / 256) := by omega
    have hb : x / 256 < 256 ^ k := by rw [Nat.pow_succ] at h; omega
    conv => lhs; rw [e]
    rw [TT_step (by omega), TT_eq k _ hb, bytesSum]
theorem cntB_byte (x k : Nat) : cntB x (8 + k) = cntB (x % 256) 8 + cntB (x / 256) k := by
  rw [cntB_add, Nat.shiftRight_eq_div_pow]
  congr 1
  refine cntB_congr fun i hi => ?_
  rw [show (256 : Nat) = 2 ^ 8 from rfl, Nat.testBit_mod_two_pow]; simp [hi]
theorem cntB_8 (x : Nat) : cntB x 8 ≤ 8 := cntB_le x 8
theorem sum_bytes {x3 x4 x5 x6 e0 e1 e2 e3 e4 e5 e6 e7 : Nat} (b0 : e0 ≤ 8) (b1 : e1 ≤ 8) (b2 : e2 ≤ 8) (b3 : e3 ≤ 8) (b4 : e4 ≤ 8) (b5 : e5 ≤ 8) (b6 : e6 ≤ 8) (b7 : e7 ≤ 8)
    (h3 : x3 = e0 + 256 * (e1 + 256 * (e2 + 256 * (e3 + 256 * (e4 + 256 * (e5 + 256 * (e6 + 256 * (e7 + 256 * 0))))))))
    (h4 : x4 = (x3 + x3 / 256) % 18446744073709551616) (h5 : x5 = (x4 + x4 / 65536) % 18446744073709551616) (h6 : x6 = (x5 + x5 / 4294967296) % 18446744073709551616) : x6 % 128 = e0 + (e1 + (e2 + (e3 + (e4 + (e5 + (e6 + (e7 + 0))))))) ∧ x6 < 9223372036854775808 := by
  have q3 : x3 / 256 = e1 + 256 * (e2 + 256 * (e3 + 256 * (e4 + 256 * (e5 + 256 * (e6 + 256 * e7))))) := by clear h4 h5 h6; omega
  have q4 : x4 = (e0 + e1) + 256 * ((e1 + e2) + 256 * ((e2 + e3) + 256 * ((e3 + e4) + 256 * ((e4 + e5) + 256 * ((e5 + e6) + 256 * ((e6 + e7) + 256 * e7)))))) := by
    clear h5 h6
    have : x3 + x3 / 256 < 18446744073709551616 := by clear h4; omega
    rw [h4, Nat.mod_eq_of_lt this, q3, h3]; clear this h4 h3 q3; omega
  clear h4 q3 h3
  have q4' : x4 / 65536 = (e2 + e3) + 256 * ((e3 + e4) + 256 * ((e4 + e5) + 256 * ((e5 + e6) + 256 * ((e6 + e7) + 256 * e7)))) := by clear h5 h6; omega
  have q5 : x5 = (e0 + e1 + e2 + e3) + 256 * ((e1 + e2 + e3 + e4) + 256 * ((e2 + e3 + e4 + e5) + 256 * ((e3 + e4 + e5 + e6) + 256 * ((e4 + e5 + e6 + e7) + 256 * ((e5 + e6 + e7) + 256 * ((e6 + e7) + 256 * e7)))))) := by
    clear h6
    have : x4 + x4 / 65536 < 18446744073709551616 := by rw [q4', q4]; clear h5 q4 q4'; omega
    rw [h5, Nat.mod_eq_of_lt this, q4', q4]; clear this h5 q4 q4'; omega
  clear h5 q4 q4'
  have q5' : x5 / 4294967296 = (e4 + e5 + e6 + e7) + 256 * ((e5 + e6 + e7) + 256 * ((e6 + e7) + 256 * e7)) := by
    clear h6
    have ha : (e0 + e1 + e2 + e3) + 256 * ((e1 + e2 + e3 + e4) + 256 * ((e2 + e3 + e4 + e5) + 256 * (e3 + e4 + e5 + e6))) < 4294967296 := by clear q5; omega
    have hb : x5 = (e0 + e1 + e2 + e3) + 256 * ((e1 + e2 + e3 + e4) + 256 * ((e2 + e3 + e4 + e5) + 256 * (e3 + e4 + e5 + e6))) + 4294967296 * ((e4 + e5 + e6 + e7) + 256 * ((e5 + e6 + e7) + 256 * ((e6 + e7) + 256 * e7))) := by rw [q5]; clear q5 ha; omega
    generalize (e0 + e1 + e2 + e3) + 256 * ((e1 + e2 + e3 + e4) + 256 * ((e2 + e3 + e4 + e5) + 256 * (e3 + e4 + e5 + e6))) = A at ha hb
    generalize (e4 + e5 + e6 + e7) + 256 * ((e5 + e6 + e7) + 256 * ((e6 + e7) + 256 * e7)) = B at hb ⊢
    clear q5 b0 b1 b2 b3 b4 b5 b6 b7
    omega
  have q6 : x5 + x5 / 4294967296 = (e0 + e1 + e2 + e3 + e4 + e5 + e6 + e7) + 256 * ((e1 + e2 + e3 + e4 + e5 + e6 + e7) + 256 * ((e2 + e3 + e4 + e5 + e6 + e7) + 256 * ((e3 + e4 + e5 + e6 + e7) + 256 * ((e4 + e5 + e6 + e7) + 256 * ((e5 + e6 + e7) + 256 * ((e6 + e7) + 256 * e7)))))) := by
    rw [q5', q5]; clear q5 q5' h6; omega
  clear q5 q5'
  have hlt : x5 + x5 / 4294967296 < 9223372036854775808 := by rw [q6]; clear h6 q6; omega
  have q7 : x6 = x5 + x5 / 4294967296 := by rw [h6, Nat.mod_eq_of_lt (by clear h6 q6; omega)]
  rw [q7]
  refine ⟨?_, hlt⟩
  rw [q6]
  clear q6 q7 hlt h6
  have hs : e0 + e1 + e2 + e3 + e4 + e5 + e6 + e7 < 128 := by omega
  generalize (e1 + e2 + e3 + e4 + e5 + e6 + e7) + 256 * ((e2 + e3 + e4 + e5 + e6 + e7) + 256 * ((e3 + e4 + e5 + e6 + e7) + 256 * ((e4 + e5 + e6 + e7) + 256 * ((e5 + e6 + e7) + 256 * ((e6 + e7) + 256 * e7))))) = R
  clear b0 b1 b2 b3 b4 b5 b6 b7
  omega
theorem sum_fold {x3 x4 x5 x6 x : Nat} (h3 : x3 = bytesSum x 8) (h4 : x4 = (x3 + x3 / 256) % 18446744073709551616) (h5 : x5 = (x4 + x4 / 65536) % 18446744073709551616) (h6 : x6 = (x5 + x5 / 4294967296) % 18446744073709551616) : x6 % 128 = cntB x 64 ∧ x6 < 9223372036854775808 := by
  have e : cntB x 64 = cntB (x % 256) 8 + (cntB (x / 256 % 256) 8 + (cntB (x / 256 / 256 % 256) 8 + (cntB (x / 256 / 256 / 256 % 256) 8 + (cntB (x / 256 / 256 / 256 / 256 % 256) 8 + (cntB (x / 256 / 256 / 256 / 256 / 256 % 256) 8 + (cntB (x / 256 / 256 / 256 / 256 / 256 / 256 % 256) 8 + (cntB (x / 256 / 256 / 256 / 256 / 256 / 256 / 256 % 256) 8 + 0))))))) := by
    rw [show (64 : Nat) = 8 + (8 + (8 + (8 + (8 + (8 + (8 + (8 + 0))))))) from rfl]
    simp only [cntB_byte]
    rfl
  simp only [bytesSum] at h3
  rw [e]
  have b0 := cntB_8 (x % 256)
  have b1 := cntB_8 (x / 256 % 256)
  have b2 := cntB_8 (x / 256 / 256 % 256)
  have b3 := cntB_8 (x / 256 / 256 / 256 % 256)
  have b4 := cntB_8 (x / 256 / 256 / 256 / 256 % 256)
  have b5 := cntB_8 (x / 256 / 256 / 256 / 256 / 256 % 256)
  have b6 := cntB_8 (x / 256 / 256 / 256 / 256 / 256 / 256 % 256)
  have b7 := cntB_8 (x / 256 / 256 / 256 / 256 / 256 / 256 / 256 % 256)
  generalize cntB (x % 256) 8 = e0 at *
  generalize cntB (x / 256 % 256) 8 = e1 at *
  generalize cntB (x / 256 / 256 % 256) 8 = e2 at *
  generalize cntB (x / 256 / 256 / 256 % 256) 8 = e3 at *
  generalize cntB (x / 256 / 256 / 256 / 256 % 256) 8 = e4 at *
  generalize cntB (x / 256 / 256 / 256 / 256 / 256 % 256) 8 = e5 at *
  generalize cntB (x / 256 / 256 / 256 / 256 / 256 / 256 % 256) 8 = e6 at *
  generalize cntB (x / 256 / 256 / 256 / 256 / 256 / 256 / 256 % 256) 8 = e7 at *
  clear e
  exact sum_bytes b0 b1 b2 b3 b4 b5 b6 b7 h3 h4 h5 h6
theorem pop_steps {x x1 x2 x3 x4 x5 x6 : Nat} (hx : x < 18446744073709551616) (h1 : x1 = ((x >>> 1 &&& 6148914691236517205) + (x &&& 6148914691236517205)) % 18446744073709551616) (h2 : x2 = ((x1 >>> 2 &&& 3689348814741910323) + (x1 &&& 3689348814741910323)) % 18446744073709551616)
    (h3 : x3 = ((x2 >>> 4 + x2) % 18446744073709551616) &&& 1085102592571150095) (h4 : x4 = (x3 + x3 >>> 8) % 18446744073709551616) (h5 : x5 = (x4 + x4 >>> 16) % 18446744073709551616) (h6 : x6 = (x5 + x5 >>> 32) % 18446744073709551616) :
    x6 % 128 = cntB x 64 ∧ x6 < 9223372036854775808 := by
  have g1 : x1 = T1 x 8 := by
    rw [h1, Nat.shiftRight_eq_div_pow]
    have a1 : x / 2 ^ 1 &&& 6148914691236517205 ≤ 6148914691236517205 := Nat.and_le_right
    have a2 : x &&& 6148914691236517205 ≤ 6148914691236517205 := Nat.and_le_right
    rw [Nat.mod_eq_of_lt (by omega)]; rfl
  have g2 : x2 = T2 x1 8 := by
    rw [h2, Nat.shiftRight_eq_div_pow]
    have a1 : x1 / 2 ^ 2 &&& 3689348814741910323 ≤ 3689348814741910323 := Nat.and_le_right
    have a2 : x1 &&& 3689348814741910323 ≤ 3689348814741910323 := Nat.and_le_right
    rw [Nat.mod_eq_of_lt (by omega)]; rfl
  have hx2 : x2 ≤ 7378697629483820646 := by
    rw [h2]
    have a1 : x1 >>> 2 &&& 3689348814741910323 ≤ 3689348814741910323 := Nat.and_le_right
    have a2 : x1 &&& 3689348814741910323 ≤ 3689348814741910323 := Nat.and_le_right
    omega
  have g3 : x3 = T3 x2 8 := by
    rw [h3, Nat.shiftRight_eq_div_pow]
    rw [Nat.mod_eq_of_lt (by omega)]; rfl
  have g : x3 = bytesSum x 8 := by rw [g3, g2, g1]; exact TT_eq 8 x (by simpa using hx)
  rw [Nat.shiftRight_eq_div_pow] at h4 h5 h6
  exact sum_fold g h4 h5 h6
theorem u64_add {a b : Nat} : IntKind.u64.wrap ((a : Int) + (b : Int)) = (((a + b) % 18446744073709551616 : Nat) : Int) := by
  simp only [IntKind.wrap, IntKind.bits, IntKind.signed, Bool.false_and, Bool.false_eq_true, if_false]; omega
theorem pop_last {x : Nat} (h : x < 9223372036854775808) : IntKind.i64.wrap ((BitVec.ofInt IntKind.i64.bits (IntKind.i64.wrap (x : Int)) &&& BitVec.ofInt IntKind.i64.bits 127).toNat : Int) = ((x % 128 : Nat) : Int) := by
  have h1 : IntKind.i64.wrap (x : Int) = (x : Int) := wrap_of (Rng.i64 ⟨by omega, by omega⟩)
  rw [h1]
  have h2 : (BitVec.ofInt IntKind.i64.bits (x : Int) &&& BitVec.ofInt IntKind.i64.bits 127).toNat = x % 128 := by
    show (BitVec.ofInt 64 (x : Int) &&& BitVec.ofInt 64 ((127 : Nat) : Int)).toNat = _
    rw [BitVec.ofInt_natCast, BitVec.ofInt_natCast, BitVec.toNat_and, BitVec.toNat_ofNat, BitVec.toNat_ofNat, Nat.mod_eq_of_lt (show x < 2 ^ 64 by omega), Nat.mod_eq_of_lt (show 127 < 2 ^ 64 by omega), show (127 : Nat) = 2 ^ 7 - 1 from rfl, Nat.and_two_pow_sub_one_eq_mod]
  rw [h2]
  exact wrap_of (Rng.i64 ⟨by omega, by omega⟩)
end Go.Proofs.Ythdkbbpiaeaojaa.K
