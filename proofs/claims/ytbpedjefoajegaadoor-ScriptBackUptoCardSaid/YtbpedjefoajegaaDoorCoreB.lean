/- Operations that leave the world alone, reckoned in batches: 'pureOp' says an operation's value and what is to be shown for it. -/
import Derived.Test.YtbpedjefoajegaaDoorCoreA
namespace Go.Proofs.YtbpedjefoajegaaDoor.K
open Go

/-- A number is of its kind. -/
def Rng (k : IntKind) (z : Int) : Prop := k.min ≤ z ∧ z ≤ k.max
def InB (i : Int) (n : Nat) : Prop := 0 ≤ i ∧ i < n
def Rn (P : Program) (w : World) (s : Sem Value) (v : Value) : Prop := s.run P w = .ok v w

theorem wrap_of {k : IntKind} {z : Int} (h : Rng k z) : k.wrap z = z := by
  obtain ⟨h1, h2⟩ := h
  cases k <;> simp [IntKind.min, IntKind.max, IntKind.signed, IntKind.bits, IntKind.wrap] at * <;> omega
theorem Rng.i64 {z : Int} (h : -9223372036854775808 ≤ z ∧ z ≤ 9223372036854775807) : Rng .i64 z := by
  simpa [Rng, IntKind.min, IntKind.max, IntKind.signed, IntKind.bits] using h
theorem Rng.u8 {z : Int} (h : 0 ≤ z ∧ z ≤ 255) : Rng .u8 z := by
  simpa [Rng, IntKind.min, IntKind.max, IntKind.signed, IntKind.bits] using h
theorem Rng.u32 {z : Int} (h : 0 ≤ z ∧ z ≤ 4294967295) : Rng .u32 z := by
  simpa [Rng, IntKind.min, IntKind.max, IntKind.signed, IntKind.bits] using h
theorem Rng.i32 {z : Int} (h : -2147483648 ≤ z ∧ z ≤ 2147483647) : Rng .i32 z := by
  simpa [Rng, IntKind.min, IntKind.max, IntKind.signed, IntKind.bits] using h
theorem Rng.u64 {z : Int} (h : 0 ≤ z ∧ z ≤ 18446744073709551615) : Rng .u64 z := by
  simpa [Rng, IntKind.min, IntKind.max, IntKind.signed, IntKind.bits] using h

def All : List Prop → Prop
  | [] => True
  | [p] => p
  | p :: q :: r => p ∧ All (q :: r)
theorem All.one {p : Prop} : All [p] = p := rfl
theorem All.two {p q : Prop} : All [p, q] = (p ∧ q) := rfl
theorem All.cons {p : Prop} {r : List Prop} (h : All (p :: r)) : p ∧ All r := by
  cases r with
  | nil => exact ⟨h, trivial⟩
  | cons q r => exact h
theorem All.append : ∀ {a b : List Prop}, All (a ++ b) → All a ∧ All b
  | [], _, h => ⟨trivial, h⟩
  | p :: r, b, h => by
    have h' := All.cons (p := p) (r := r ++ b) h
    have h2 := All.append (a := r) (b := b) h'.2
    refine ⟨?_, h2.2⟩
    cases r with
    | nil => exact h'.1
    | cons q r => exact ⟨h'.1, h2.1⟩

/-- Hints for single operations, by the slot that is written: 'w': the sum may wrap. -/
structure Hints where
  wraps : List Nat := []
  subs : List Nat := []

def partV (P : Program) (t : TypeId) (cs : Array Value) (off : Nat) : Option Value :=
  match P.underlying t, P.info? t with
  | some (.struct _), some i => some (.agg (cs.extract off (off + i.size)))
  | some (.array _ _), some i => some (.agg (cs.extract off (off + i.size)))
  | some _, _ => cs[off]?
  | none, _ => none

/-- The flat '==' of a struct: all its fields. -/
def eqFields (P : Program) (eq : TypeId → Value → Value → Option Bool) (xs ys : Array Value) : List Field → Option Bool
  | [] => some true
  | f :: r =>
    if f.name = "_" then none else
    match partV P f.type xs f.offset, partV P f.type ys f.offset with
    | some x, some y => match eq f.type x y, eqFields P eq xs ys r with
      | some b, some c => some (b && c)
      | _, _ => none
    | _, _ => none

/-- '==' of values of simple types and of structs of such, at a type. -/
def eqV (P : Program) : Nat → TypeId → Value → Value → Option Bool
  | 0, _, _, _ => none
  | d + 1, t, x, y =>
    match P.underlying t, x, y with
    | some .bool, .bool a, .bool b => some (a == b)
    | some (.int _), .int k a, .int k' b => if k = k' then some (decide (a = b)) else none
    | some .string, .string a, .string b => some (decide (a = b))
    | some (.pointer _), .pointer none, .pointer b => some b.isNone
    | some (.pointer _), .pointer (some _), .pointer none => some false
    | some (.slice _), .slice none _ _, .slice b _ _ => some b.isNone
    | some (.slice _), .slice (some _) _ _, .slice none _ _ => some false
    | some (.map _ _), .map none, .map b => some b.isNone
    | some (.map _ _), .map (some _), .map none => some false
    | some (.func _ _ _), .nilFunc, .nilFunc => some true
    | some (.func _ _ _), .nilFunc, .func _ _ _ => some false
    | some (.func _ _ _), .func _ _ _, .nilFunc => some false
    | some (.interface _), .nilIface, .iface _ _ => some false
    | some (.interface _), .iface _ _, .nilIface => some false
    | some (.struct fs), .agg xs, .agg ys => if P.stoodInHeld t then none else eqFields P (eqV P d) xs ys fs.toList
    | _, _, _ => none

def intBin (k : IntKind) (op : BinOp) (wr : Bool) (a b : Int) : Option (Value × List Prop) :=
  match op with
  | .add => if wr then some (.int k (k.wrap (a + b)), []) else some (.int k (a + b), [Rng k (a + b)])
  | .sub => if wr then some (.int k (k.wrap (a - b)), []) else some (.int k (a - b), [Rng k (a - b)])
  | .mul => if wr then some (.int k (k.wrap (a * b)), []) else some (.int k (a * b), [Rng k (a * b)])
  | .quo => if wr then some (.int k (k.wrap (a.tdiv b)), [b ≠ 0]) else some (.int k (a.tdiv b), [b ≠ 0, Rng k (a.tdiv b)])
  | .rem => some (.int k (a.tmod b), [b ≠ 0])
  | .and => some (.int k (k.wrap (BitVec.ofInt k.bits a &&& BitVec.ofInt k.bits b).toNat), [])
  | .or => some (.int k (k.wrap (BitVec.ofInt k.bits a ||| BitVec.ofInt k.bits b).toNat), [])
  | .xor => some (.int k (k.wrap (BitVec.ofInt k.bits a ^^^ BitVec.ofInt k.bits b).toNat), [])
  | .andNot => some (.int k (k.wrap (BitVec.ofInt k.bits a &&& ~~~ BitVec.ofInt k.bits b).toNat), [])
  | .eql => some (.bool (decide (a = b)), [])
  | .neq => some (.bool (decide (¬ a = b)), [])
  | .lss => some (.bool (decide (a < b)), [])
  | .leq => some (.bool (decide (a ≤ b)), [])
  | .gtr => some (.bool (decide (b < a)), [])
  | .geq => some (.bool (decide (b ≤ a)), [])
  | _ => none

def plainEq : Value → Value → Bool
  | .bool _, .bool _ | .pointer _, .pointer _ | .slice _ _ _, .slice _ _ _ | .map _, .map _ | .nilFunc, .nilFunc | .nilFunc, .func _ _ _ | .func _ _ _, .nilFunc
  | .nilIface, .iface _ _ | .iface _ _, .nilIface => true
  | _, _ => false
def binV (P : Program) (op : BinOp) (wr : Bool) (cst : Bool) (t : TypeId) (x y : Value) : Option (Value × List Prop) :=
  match op, x, y with
  | .shl, .int k a, .int _ b => if wr then some (.int k (k.wrap (a * 2 ^ min b.toNat k.bits)), [0 ≤ b]) else some (.int k (a * 2 ^ min b.toNat k.bits), [0 ≤ b, Rng k (a * 2 ^ min b.toNat k.bits)])
  | .shr, .int k a, .int _ b => some (.int k (a.fdiv (2 ^ min b.toNat k.bits)), [0 ≤ b])
  | op, .int k a, .int k' b => if k = k' then intBin k op wr a b else none
  | .add, .string a, .string b => some (.string (a ++ b), [a.size + b.size ≤ 9223372036854775807])
  | .eql, .string a, .string b => some (.bool (decide (a = b)), [])
  | .neq, .string a, .string b => some (.bool (decide (¬ a = b)), [])
  | .lss, .string a, .string b => some (.bool (Op.bytesLess a.toList b.toList), [])
  | .gtr, .string a, .string b => some (.bool (!(Op.bytesLess a.toList b.toList || decide (a = b))), [])
  | .leq, .string a, .string b => some (.bool (Op.bytesLess a.toList b.toList || decide (a = b)), [])
  | .geq, .string a, .string b => some (.bool (!Op.bytesLess a.toList b.toList), [])
  | .eql, .agg _, .agg _ => match P.underlying t with
    | some (.struct _) => if P.eqGuardType P.depth t then none else (eqV P 4 t x y).map fun b => (.bool b, [])
    | _ => none
  | .neq, .agg _, .agg _ => match P.underlying t with
    | some (.struct _) => if P.eqGuardType P.depth t then none else (eqV P 4 t x y).map fun b => (.bool (!b), [])
    | _ => none
  | .eql, .nilIface, .nilIface => match P.underlying t with
    | some (.interface _) => if cst then some (.bool true, []) else none
    | _ => none
  | .neq, .nilIface, .nilIface => match P.underlying t with
    | some (.interface _) => if cst then some (.bool false, []) else none
    | _ => none
  | .eql, x, y => if plainEq x y then (eqV P 4 t x y).map fun b => (.bool b, []) else none
  | .neq, x, y => if plainEq x y then (eqV P 4 t x y).map fun b => (.bool (!b), []) else none
  | _, _, _ => none

theorem run_part {P : Program} {w : World} {t : TypeId} {cs : Array Value} {off : Nat} {v : Value} (h : partV P t cs off = some v) : (part t cs off).run P w = .ok v w := by
  unfold partV at h
  unfold part isAgg
  cases hu : P.underlying t with
  | none => simp [hu] at h
  | some d =>
    have hr := fun w => run_underlying hu w
    cases hi : P.info? t with
    | none =>
      have : P.underlying t = none := by simp [Program.underlying, hi]
      rw [hu] at this; cases this
    | some i =>
      have hsz : ∀ w, (sizeOf t).run P w = .ok i.size w := fun w => by simp [sizeOf, typeInfo, hi]
      cases d <;> simp [hu, hi] at h <;> simp [hr, hsz, h]

theorem bytes_eq (a b : ByteArray) : (a.toList == b.toList) = decide (a = b) := by
  rw [Bool.eq_iff_iff, beq_iff_eq, decide_eq_true_iff, ByteArray.toList_eq, ByteArray.toList_eq]
  constructor
  · intro h
    cases a; cases b
    simp only at h
    congr 1
    exact Array.ext' h
  · rintro rfl; rfl
theorem dec_eq (a b : Int) : (a == b) = decide (a = b) := rfl
theorem str_eq (a b : ByteArray) : (a == b) = decide (a = b) := by
  rw [Bool.eq_iff_iff, decide_eq_true_iff, show (a == b) = (a.data == b.data) from rfl, beq_iff_eq]
  constructor
  · intro h; cases a; cases b; simp only at h; rw [h]
  · rintro rfl; rfl

theorem run_eqFields {P : Program} {w : World} {d : Nat} {eq : TypeId → Value → Value → Option Bool} {xs ys : Array Value}
    (heq : ∀ t x y b, eq t x y = some b → (Op.equalIn d t x y).run P w = .ok b w) :
    ∀ (fs : List Field) (b : Bool), eqFields P eq xs ys fs = some b → (Op.eqFields d xs ys fs).run P w = .ok b w := by
  intro l
  induction l with
  | nil => intro b h; simp [eqFields] at h; subst h; simp [Op.eqFields]
  | cons f r ih =>
    intro b h
    unfold eqFields at h
    by_cases hn : f.name = "_"
    · simp [hn] at h
    · rw [if_neg hn] at h
      split at h
      · rename_i x y hx hy
        split at h
        · rename_i b1 c hb1 hc
          simp at h; subst h
          have h1 := heq _ _ _ _ hb1
          have h2 := ih _ hc
          simp only [Op.eqFields, ne_eq, hn, not_false_eq_true, if_true, Sem.run_bind, run_part hx, run_part hy, Result.andThen_ok, h1, Sem.run_ite]
          cases b1
          · simp
          · simp [h2]
        · simp at h
      · simp at h

theorem run_eqV {P : Program} {w : World} : ∀ {d m : Nat} {t : TypeId} {x y : Value} {b : Bool}, eqV P d t x y = some b → (Op.equalIn (m + d) t x y).run P w = .ok b w := by
  intro d
  induction d with
  | zero => intro m t x y b h; simp [eqV] at h
  | succ d ih =>
    intro m t x y b h
    unfold eqV at h
    have hu : ∀ dd, P.underlying t = some dd → ∀ w, (underlying t).run P w = .ok dd w := fun dd hd w => run_underlying hd w
    rw [show m + (d + 1) = (m + d) + 1 from rfl]
    split at h <;> rename_i he
    case h_15 fs xs ys =>
      cases hs : P.stoodInHeld t with
      | true => simp [hs] at h
      | false =>
        simp [hs] at h
        have hf : P.fieldsOf t = fs := by simp [Program.fieldsOf, he]
        rw [run_equalIn_struct w (m + d) t xs ys (by rw [hf]; exact he) hs, hf]
        exact run_eqFields (fun t x y b hb => ih hb) _ _ h
    all_goals unfold Op.equalIn
    all_goals first
      | (simp at h; done)
      | (have hr := hu _ he; simp at h; subst h; simp [hr]; done)
      | (have hr := hu _ he; simp at h; obtain ⟨rfl, rfl⟩ := h; simp [hr, dec_eq]; done)
      | (have hr := hu _ he; simp at h; subst h; simp [hr, str_eq]; done)
      | (have hr := hu _ he; simp at h; subst h; rename_i b; cases b <;> simp [hr]; done)
      | skip

end Go.Proofs.YtbpedjefoajegaaDoor.K
