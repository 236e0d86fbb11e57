/- The walks of LinP: what each function computes. -/
import Derived.Test.YtdahgdkadfdkeaaProg
import Derived.Test.YtdahgdkadfdkeaaCoreO
import Derived.Test.YtdahgdkadfdkeaaLinB
namespace Go.Proofs.Ytdahgdkadfdkeaa.K
open Go Go.Proofs Go.RowKit
set_option linter.unusedVariables false
set_option linter.unusedSimpArgs false
set_option maxRecDepth 20000
set_option maxHeartbeats 4000000

/-- What a search looks at. -/
structure Srch where
  l : List GCall
  val : SlH → ByteArray
  bs : List Int
  ah : List Nat
  need : Nat
abbrev St := Nat × Int
def Srch.done (C : Srch) (s : St) : Prop := s.1 &&& C.need = C.need
def Srch.may (C : Srch) (i : Nat) (s : St) : Prop := i < C.l.length ∧ 0 ≤ C.bs[i]! ∧ ¬ s.1.testBit (C.bs[i]!).toNat = true ∧ lack C.ah[i]! s.1 = 0 ∧ (C.l[i]!.Put = true ∨ explP C.val C.l C.l[i]! s.2)
def Srch.go (C : Srch) (i : Nat) (s : St) : St := (s.1 ||| 2 ^ (C.bs[i]!).toNat, if C.l[i]!.Put = true then (i : Int) else s.2)
def Path (C : Srch) : St → List Nat → Prop
  | s, [] => C.done s
  | s, i :: p => ¬ C.done s ∧ C.may i s ∧ Path C (C.go i s) p
def lexle : List Nat → List Nat → Prop
  | [], _ => True
  | _ :: _, [] => False
  | a :: p, b :: q => a < b ∨ (a = b ∧ lexle p q)
def Best (C : Srch) (s : St) (p : List Nat) : Prop := Path C s p ∧ ∀ q, Path C s q → lexle p q
def Bad (C : Srch) (s : St) : Prop := ∀ p, ¬ Path C s p
theorem best_done {C : Srch} {s : St} (h : C.done s) : Best C s [] := ⟨h, fun _ _ => trivial⟩
theorem best_cons {C : Srch} {s : St} {k : Nat} {p : List Nat} (hd : ¬ C.done s) (hm : C.may k s) (hb : Best C (C.go k s) p) (hn : ∀ j, j < k → ∀ q, ¬ Path C s (j :: q)) : Best C s (k :: p) := by
  refine ⟨⟨hd, hm, hb.1⟩, fun q hq => ?_⟩
  cases q with
  | nil => exact hd hq
  | cons j q =>
    rcases Nat.lt_trichotomy j k with h | h | h
    · exact absurd hq (hn j h q)
    · subst h; exact .inr ⟨rfl, hb.2 q hq.2.2⟩
    · exact .inl h
theorem bad_all {C : Srch} {s : St} (hd : ¬ C.done s) (hn : ∀ j, j < C.l.length → ∀ q, ¬ Path C s (j :: q)) : Bad C s := by
  intro p hp
  cases p with
  | nil => exact hd hp
  | cons j q => exact hn j hp.2.1.1 q hp
theorem none_step {C : Srch} {s : St} {k : Nat} (hn : ∀ j, j < k → ∀ q, ¬ Path C s (j :: q)) (h : ∀ q, ¬ Path C s (k :: q)) : ∀ j, j < k + 1 → ∀ q, ¬ Path C s (j :: q) := by
  intro j hj
  rcases Nat.lt_or_ge j k with h1 | h1
  · exact hn j h1
  · obtain rfl : j = k := by omega
    exact h
theorem not_may {C : Srch} {s : St} {k : Nat} (h : ¬ C.may k s) : ∀ q, ¬ Path C s (k :: q) := fun _ hq => h hq.2.1
theorem or_bit_gt {n b : Nat} (h : ¬ n.testBit b = true) : n < n ||| 2 ^ b := by
  refine Nat.lt_of_le_of_ne Nat.left_le_or fun e => h ?_
  rw [e, Nat.testBit_or, Nat.testBit_two_pow_self]
  simp
theorem may_of {bk : Int} {n hk : Nat} (h : ¬ ((bk < 0) ∨ ((¬ (bk < 0)) ∧ ((((n >>> bk.toNat) &&& 1 : Nat) : Int) = 1)) ∨ ((¬ (bk < 0)) ∧ (¬ ((((n >>> bk.toNat) &&& 1 : Nat) : Int) = 1)) ∧ (¬ (((lack hk n : Nat) : Int) = 0))))) : 0 ≤ bk ∧ ¬ n.testBit bk.toNat = true ∧ lack hk n = 0 := by
  rw [bit_one] at h
  by_cases h1 : bk < 0
  · exact absurd (.inl h1) h
  · by_cases h2 : n.testBit bk.toNat = true
    · exact absurd (.inr (.inl ⟨h1, h2⟩)) h
    · refine ⟨by omega, h2, ?_⟩
      by_cases h3 : ((lack hk n : Nat) : Int) = 0
      · omega
      · exact absurd (.inr (.inr ⟨h1, h2, h3⟩)) h
theorem not_of {bk : Int} {n hk : Nat} (h : ((bk < 0) ∨ ((¬ (bk < 0)) ∧ ((((n >>> bk.toNat) &&& 1 : Nat) : Int) = 1)) ∨ ((¬ (bk < 0)) ∧ (¬ ((((n >>> bk.toNat) &&& 1 : Nat) : Int) = 1)) ∧ (¬ (((lack hk n : Nat) : Int) = 0))))) : ¬ (0 ≤ bk ∧ ¬ n.testBit bk.toNat = true ∧ lack hk n = 0) := by
  rw [bit_one] at h
  rintro ⟨h1, h2, h3⟩
  rcases h with h | h | h
  · omega
  · exact h2 h.2
  · exact h.2.2 (by rw [h3]; rfl)
theorem bit_int {n : Nat} {b : Int} : ((((n >>> b.toNat) &&& 1 : Nat) : Int) = 1) ↔ n.testBit b.toNat = true := bit_one n b.toNat

abbrev kfS : Nat × Int → Go.Value := fun y : Nat × Int => Go.Value.agg #[.int .u32 (y.1 : Int), .int .i64 y.2]
theorem keyState : KeyOk Try.prog 134 kfS where
  wide := by kernel_rfl
  eq := fun a b => ⟨_, (by kernel_rfl : eqV Try.prog 4 134 (kfS a) (kfS b) = some (decide ((a.1 : Int) = b.1) && (decide (a.2 = b.2) && true))), by
    obtain ⟨a1, a2⟩ := a
    obtain ⟨b1, b2⟩ := b
    simp [Int.ofNat_inj]⟩
  chk := fun a => by kernel_rfl
  bits := fun a => by simp [kfS, Instr.sameBits]

def downR (C : Srch) (s : St) (xs : List Nat) (dead : List ((Nat × Int) × Int)) (b : Bool) (xs' : List Nat) : Prop :=
  (b = true → ∃ p, Best C s p ∧ xs' = xs ++ p) ∧ (b = false → xs' = xs ∧ Bad C s) ∧ ∀ q ∈ dead, Bad C q.1

end Go.Proofs.Ytdahgdkadfdkeaa.K
