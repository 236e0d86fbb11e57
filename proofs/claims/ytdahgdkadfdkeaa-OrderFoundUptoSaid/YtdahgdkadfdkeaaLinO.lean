/- The walks of LinO: what each function computes. -/
import Derived.Test.YtdahgdkadfdkeaaProg
import Derived.Test.YtdahgdkadfdkeaaCoreO
import Derived.Test.YtdahgdkadfdkeaaLinD
namespace Go.Proofs.Ytdahgdkadfdkeaa.K
open Go Go.Proofs Go.RowKit
set_option linter.unusedVariables false
set_option linter.unusedSimpArgs false
set_option maxRecDepth 20000
set_option maxHeartbeats 4000000

theorem lin_down (w0 : World) (sb dm : Nat) (l : List GCall) (a : Option Addr) (cp : Nat) (bs : List Int) (ah : List Nat) (need : Nat) (a1 a2 : Option Addr) (n1 c1 n2 c2 : Nat) (hs : SlR w0 a l.length (l.flatMap GCall.cells)) (hv : ∀ x ∈ l, VB w0 x.Value) (hlb : bs.length = l.length) (hla : ah.length = l.length) (hll : l.length ≤ 8796093022207) (hneed : need < 4294967296) (hah : ∀ x ∈ ah, x < 4294967296) (hbs : ∀ x ∈ bs, x < 32) : ∀ (m : Nat) (L : List Res) (n : Nat) (last : Int) (ao : Option Addr) (no co : Nat) (xs : List Nat) (dead : List ((Nat × Int) × Int)) (w : World) (hn : n < 4294967296) (hx : no ≤ n) (hlast : last < l.length) (hdead : ∀ q ∈ dead, Bad (⟨l, valAt w0, bs, ah, need⟩ : Srch) q.1) (hp0 : Hp w0 Non (Res.row sb [.slice a l.length cp, .slice a1 n1 c1, .slice a2 n2 c2, .int .u32 ((need : Nat) : Int), .map (some dm), .slice ao no co] 131 :: Res.own 3 1 (.slice ao no co) no (List.flatMap (fun (y : Nat) => [Go.Value.int .i64 (y : Int)]) xs) :: Res.mp dm kfS (fun y : Int => Go.Value.int .i64 y) dead :: Res.own 3 1 (.slice a2 n2 c2) n2 (List.flatMap (fun (y : Int) => [Go.Value.int .i64 y]) bs) :: Res.own 129 1 (.slice a1 n1 c1) n1 (List.flatMap (fun (y : Nat) => [Go.Value.int .u32 (y : Int)]) ah) :: L) w), 4294967296 ≤ m + n → Calls Try.prog 95 #[.pointer (some ⟨sb, 0, none⟩), .agg #[.int .u32 (n : Int), .int .i64 last]] w (fun x w' => ∃ (b : Bool) (ao' : Option Addr) (no' co' : Nat) (xs' : List Nat) (dead' : List ((Nat × Int) × Int)), x = .returned (.bool b) ∧ downR (⟨l, valAt w0, bs, ah, need⟩ : Srch) (n, last) xs dead' b xs' ∧ Hp w0 Non (Res.row sb [.slice a l.length cp, .slice a1 n1 c1, .slice a2 n2 c2, .int .u32 ((need : Nat) : Int), .map (some dm), .slice ao' no' co'] 131 :: Res.own 3 1 (.slice ao' no' co') no' (List.flatMap (fun (y : Nat) => [Go.Value.int .i64 (y : Int)]) xs') :: Res.mp dm kfS (fun y : Int => Go.Value.int .i64 y) dead' :: Res.own 3 1 (.slice a2 n2 c2) n2 (List.flatMap (fun (y : Int) => [Go.Value.int .i64 y]) bs) :: Res.own 129 1 (.slice a1 n1 c1) n1 (List.flatMap (fun (y : Nat) => [Go.Value.int .u32 (y : Int)]) ah) :: L) w') := by
  intro m
  induction m with
  | zero => intro L n last ao no co xs dead w hn; omega
  | succ m ih => intro L n last ao no co xs dead w hn hx hlast hdead hp0 hm; exact lin_down_step w0 sb dm l a cp bs ah need a1 a2 n1 c1 n2 c2 hs hv hlb hla hll hneed hah hbs (m + 1) (fun L n last ao no co xs dead w hn hx hlast hdead hp0 hm => ih L n last ao no co xs dead w hn hx hlast hdead hp0 (by omega)) L n last ao no co xs dead w hn hx hlast hdead hp0 hm

def okArg (c : GCall) : Prop := ¬ (c.From < 0 ∨ (¬ c.To = -1 ∧ c.To ≤ c.From))
def cntN (l : List GCall) : Nat → Nat
  | 0 => 0
  | k + 1 => if partC l[k]! then cntN l k + 1 else cntN l k
def bitN (l : List GCall) (k : Nat) : Int := if partC l[k]! then (cntN l k : Int) else -1
def bitsL (l : List GCall) (k : Nat) : List Int := (List.range k).map (bitN l)
theorem bitsL_succ (l : List GCall) (k : Nat) : bitsL l (k + 1) = bitsL l k ++ [bitN l k] := by simp [bitsL, List.range_succ]
theorem bitsL_len (l : List GCall) (k : Nat) : (bitsL l k).length = k := by simp [bitsL]
theorem bitsL_get {l : List GCall} {n k : Nat} (h : k < n) : (bitsL l n)[k]! = bitN l k := by simp [bitsL, List.getElem!_eq_getElem?_getD, h]
theorem cntN_mono (l : List GCall) {j : Nat} : ∀ {k : Nat}, j ≤ k → cntN l j ≤ cntN l k
  | 0, h => by obtain rfl : j = 0 := by omega
               exact Nat.le_refl _
  | k + 1, h => by
    rcases Nat.lt_or_ge k j with h1 | h1
    · obtain rfl : j = k + 1 := by omega
      exact Nat.le_refl _
    · have := cntN_mono l (k := k) h1
      simp only [cntN]; split <;> omega
theorem cntN_le (l : List GCall) : ∀ k, cntN l k ≤ k
  | 0 => Nat.le_refl _
  | k + 1 => by have := cntN_le l k; simp only [cntN]; split <;> omega
theorem bit_part {l : List GCall} {k n : Nat} (hk : k < n) (hc : cntN l n ≤ 24) (h : partC l[k]!) : 0 ≤ bitN l k ∧ bitN l k < 24 := by
  have h1 := cntN_mono l (j := k + 1) (k := n) hk
  simp only [cntN, if_pos h] at h1
  simp only [bitN, if_pos h]
  omega
theorem bit_lt {l : List GCall} {n : Nat} (hc : cntN l n ≤ 24) : ∀ x ∈ bitsL l n, x < 32 := by
  intro x hx
  simp only [bitsL, List.mem_map, List.mem_range] at hx
  obtain ⟨k, hk, rfl⟩ := hx
  by_cases h : partC l[k]!
  · have := bit_part hk hc h; omega
  · simp only [bitN, if_neg h]; omega
def needN (l : List GCall) : Nat → Nat
  | 0 => 0
  | k + 1 => if mustC l[k]! then needN l k ||| 2 ^ (bitN l k).toNat else needN l k
def befC (l : List GCall) (i j : Nat) : Prop := mustC l[j]! ∧ 0 ≤ l[j]!.To ∧ l[j]!.To < l[i]!.From ∧ ¬ j = i
instance (l : List GCall) (i j : Nat) : Decidable (befC l i j) := by unfold befC; exact inferInstance
def befN (l : List GCall) (i : Nat) : Nat → Nat
  | 0 => 0
  | j + 1 => if befC l i j then befN l i j ||| 2 ^ (bitN l j).toNat else befN l i j
theorem befN_step {l : List GCall} {i j bf x : Nat} {b : Int} (h : bf = befN l i j) (hb : b = bitN l j) (hd : (x = bf ||| 2 ^ b.toNat ∧ befC l i j) ∨ (x = bf ∧ ¬ befC l i j)) : x = befN l i (j + 1) := by
  subst h hb
  simp only [befN]
  rcases hd with ⟨h, k⟩ | ⟨h, k⟩
  · rw [if_pos k, h]
  · rw [if_neg k, h]
def ahL (l : List GCall) (k : Nat) : List Nat := (List.range k).map fun i => befN l i l.length
theorem ahL_succ (l : List GCall) (k : Nat) : ahL l (k + 1) = ahL l k ++ [befN l k l.length] := by simp [ahL, List.range_succ]
theorem ahL_len (l : List GCall) (k : Nat) : (ahL l k).length = k := by simp [ahL]
def oneC (val : SlH → ByteArray) (l : List GCall) : Srch := ⟨l, val, bitsL l l.length, ahL l l.length, needN l l.length⟩
/-- What linear.One answers. -/
def oneR (val : SlH → ByteArray) (l : List GCall) (xs : List Nat) (ok : Bool) (e : Int) : Prop :=
  ((∃ j, j < l.length ∧ ¬ okArg l[j]!) ∧ e = 1 ∧ ok = false ∧ xs = []) ∨
  ((∀ j, j < l.length → okArg l[j]!) ∧ 24 < cntN l l.length ∧ e = 4 ∧ ok = false ∧ xs = []) ∨
  ((∀ j, j < l.length → okArg l[j]!) ∧ cntN l l.length ≤ 24 ∧ e = 0 ∧ ((ok = true ∧ Best (oneC val l) (0, -1) xs) ∨ (ok = false ∧ xs = [] ∧ Bad (oneC val l) (0, -1))))

theorem bits_step {l : List GCall} {k : Nat} {ct y x : Int} {bs : List Int} (h1 : ct = (cntN l k : Int)) (h2 : bs = bitsL l k) (hd : (y = ct + 1 ∧ x = ct ∧ partC l[k]!) ∨ (y = ct ∧ x = -1 ∧ ¬ partC l[k]!)) : y = (cntN l (k + 1) : Int) ∧ bs ++ [x] = bitsL l (k + 1) := by
  subst h1 h2
  rw [bitsL_succ]
  rcases hd with ⟨h3, h4, h⟩ | ⟨h3, h4, h⟩
  · subst h3 h4
    simp only [cntN, bitN, if_pos h]
    constructor <;> first | trivial | rfl | omega
  · subst h3 h4
    simp only [cntN, bitN, if_neg h]
    constructor <;> first | trivial | rfl | omega

end Go.Proofs.Ytdahgdkadfdkeaa.K
