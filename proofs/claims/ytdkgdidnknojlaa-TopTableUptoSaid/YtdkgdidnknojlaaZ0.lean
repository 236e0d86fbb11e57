/- Texts of this claim, merged: what the program's functions compute, and the rules that the walks use. -/
import Derived.WalkKit
import Derived.Orders
import Derived.Maps.AppendAt
import Derived.Below
import Derived.Laws.Tables
import Derived.Laws.MakeOwn
namespace Go.Proofs.Ytdkgdidnknojlaa.K
open Go

/-! ### environments -/
abbrev Env := Nat → Value
def upd (e : Env) (d : Nat) (v : Value) : Env := fun i => cond (Nat.beq i d) v (e i)
def ev (e : Env) : Operand → Value
  | .tmp t => e t
  | .const v => v
  | .global g => .pointer (some ⟨g, 0, none⟩)
  | .func f => .func (.func f) #[] #[]
def put (e : Env) : Option Tmp → Value → Env
  | some d, v => upd e d v
  | none, _ => e
structure Is (N : Nat) (a : Act) (e : Env) : Prop where
  size : a.tmps.size = N
  defers : a.defers = []
  get : ∀ i, a.tmps.getD i undef = e i

theorem beq_false {i d : Nat} (h : i ≠ d) : Nat.beq i d = false := by
  cases hb : Nat.beq i d with
  | true => exact absurd (Nat.eq_of_beq_eq_true hb) h
  | false => rfl
theorem upd_same (e : Env) (d : Nat) (v : Value) : upd e d v d = v := by simp [upd]
theorem upd_ne (e : Env) {d i : Nat} (v : Value) (h : i ≠ d) : upd e d v i = e i := by
  simp [upd, beq_false h]
theorem upd_self {e : Env} {d : Nat} {v : Value} (h : e d = v) : upd e d v = e := by
  funext i
  by_cases hi : i = d
  · subst hi; rw [upd_same, h]
  · rw [upd_ne _ _ hi]

theorem Is.eval {N : Nat} {a : Act} {e : Env} (h : Is N a e) : a.eval = ev e := by
  funext x
  cases x with
  | tmp t => exact h.get t
  | _ => rfl

def dstOk (N : Nat) : Option Tmp → Bool
  | some d => Nat.blt d N
  | none => true

theorem Is.put {N : Nat} {a : Act} {e : Env} (h : Is N a e) (d : Option Tmp) (v : Value) (hd : dstOk N d = true) : Is N (a.put d v) (K.put e d v) := by
  cases d with
  | none => exact h
  | some d =>
    have hd' : d < N := by simpa [dstOk, Nat.blt_eq] using hd
    refine ⟨by simp [Act.put, h.size], h.defers, fun i => ?_⟩
    have hs : d < a.tmps.size := by rw [h.size]; exact hd'
    show (a.tmps.setIfInBounds d v).getD i undef = upd e d v i
    by_cases hi : i = d
    · subst hi
      rw [upd_same]
      simp [Array.getD_eq_getD_getElem?, hs]
    · rw [upd_ne _ _ hi, ← h.get i]
      simp [Array.getD_eq_getD_getElem?, Array.getElem?_setIfInBounds_ne (show d ≠ i from fun e => hi e.symm)]

/-! ### the calculus -/
abbrev Post := Exit → Env → World → Prop
def lift (N : Nat) (Q : Post) : Exit → Act → World → Prop := fun x a w => ∃ e, Is N a e ∧ Q x e w
def WP (P : Program) (N : Nat) (c : Code) (Q : Post) (e : Env) (w : World) : Prop :=
  ∀ a, Is N a e → c.wp P (lift N Q) a w

section rules
variable {P : Program} {N : Nat} {Q : Post} {e : Env} {w : World}

theorem WP.mono {c : Code} {Q' : Post} (h : WP P N c Q e w) (hq : ∀ x e w, Q x e w → Q' x e w) : WP P N c Q' e w :=
  fun a ha => wp_mono (h a ha) fun _ _ _ ⟨e', he, hQ⟩ => ⟨e', he, hq _ _ _ hQ⟩
theorem WP.skip (h : Q .normal e w) : WP P N .skip Q e w := fun _ ha => wp_skip ⟨e, ha, h⟩
theorem WP.ret (h : Q .ret e w) : WP P N .ret Q e w := fun _ ha => wp_ret ⟨e, ha, h⟩
theorem WP.exit {id : Nat} (h : Q (.exit id) e w) : WP P N (.exit id) Q e w := fun _ ha => wp_exit ⟨e, ha, h⟩
/-- Behind the first part of a sequence. -/
def thn (K : Env → World → Prop) (Q : Post) : Post
  | .normal, e, w => K e w
  | x, e, w => Q x e w
theorem WP.seq {x y : Code} (h : WP P N x (thn (WP P N y Q) Q) e w) : WP P N (.seq x y) Q e w := by
  intro a ha
  refine wp_seq (wp_mono (h a ha) ?_)
  rintro x a' w' ⟨e', he, hq⟩
  cases x with
  | normal => exact hq a' he
  | _ => exact ⟨e', he, hq⟩
theorem WP.cut {x y : Code} (J : Env → World → Prop) (h : WP P N x (thn J Q) e w) (hj : ∀ e w, J e w → WP P N y Q e w) : WP P N (.seq x y) Q e w := by
  refine WP.seq (WP.mono h ?_)
  rintro x e' w' hq
  cases x with
  | normal => exact hj _ _ hq
  | _ => exact hq
theorem WP.cond {c : Operand} {x y : Code} (p : Prop) [hd : Decidable p] (hc : ev e c = .bool (decide p)) (ht : p → WP P N x Q e w) (hf : ¬ p → WP P N y Q e w) :
    WP P N (.cond c x y) Q e w := by
  intro a ha
  have hc' : a.eval c = .bool (decide p) := by rw [ha.eval]; exact hc
  by_cases hp : p
  · exact wp_cond (t := true) (by rw [hc', decide_eq_true hp]) (ht hp a ha)
  · exact wp_cond (t := false) (by rw [hc', decide_eq_false hp]) (hf hp a ha)
theorem WP.condT {c : Operand} {x y : Code} (hc : ev e c = .bool true) (h : WP P N x Q e w) : WP P N (.cond c x y) Q e w :=
  fun a ha => wp_cond (t := true) (by rw [ha.eval]; exact hc) (h a ha)
theorem WP.condF {c : Operand} {x y : Code} (hc : ev e c = .bool false) (h : WP P N y Q e w) : WP P N (.cond c x y) Q e w :=
  fun a ha => wp_cond (t := false) (by rw [ha.eval]; exact hc) (h a ha)
def inBlock (id : Nat) (Q : Post) : Post
  | .exit j, e, w => bif Nat.beq j id then Q .normal e w else Q (.exit j) e w
  | x, e, w => Q x e w
theorem WP.block {id : Nat} {c : Code} (h : WP P N c (inBlock id Q) e w) : WP P N (.block id c) Q e w := by
  intro a ha
  refine wp_block (wp_mono (h a ha) ?_)
  rintro x a' w' ⟨e', he, hq⟩
  cases x with
  | exit j =>
    show (if j = id then lift N Q .normal a' w' else lift N Q (.exit j) a' w')
    by_cases hj : j = id
    · rw [if_pos hj]; subst hj
      exact ⟨e', he, by simpa [inBlock] using hq⟩
    · rw [if_neg hj]
      refine ⟨e', he, ?_⟩
      have hq' : (bif Nat.beq j id then Q .normal e' w' else Q (.exit j) e' w') := hq
      rwa [beq_false hj] at hq'
  | _ => exact ⟨e', he, hq⟩
theorem WP.loop {c : Code} (I : Nat → Env → World → Prop) (n : Nat) (h0 : I n e w)
    (round : ∀ n e w, I n e w → WP P N c (thn (fun e' w' => ∃ m, m < n ∧ I m e' w') Q) e w) : WP P N (.loop c) Q e w := by
  intro a ha
  intro b k cs
  have key : ∀ n a w, (∃ e, Is N a e ∧ I n e w) →
      ∃ x a' w', lift N Q x a' w' ∧ Arrives P (lone (b.at a (.code c :: .inLoop c :: k)) cs w) b k cs x a' w' := by
    intro n
    induction n using Nat.strongRecOn with
    | _ n ih =>
      rintro a w ⟨e, he, hI⟩
      obtain ⟨x, a₁, w₁, ⟨e₁, he₁, hq⟩, harr⟩ := round n e w hI a he b (.inLoop c :: k) cs
      cases x with
      | normal =>
        obtain ⟨m, hm, hI₁⟩ := hq
        obtain ⟨x₂, a₂, w₂, hq₂, harr₂⟩ := ih m hm a₁ w₁ ⟨e₁, he₁, hI₁⟩
        exact ⟨x₂, a₂, w₂, hq₂, .of_steps (Steps.trans harr (.one step_inLoop)) harr₂⟩
      | exit id => exact ⟨_, a₁, w₁, ⟨e₁, he₁, hq⟩, .pass (x := .inLoop c) rfl (fun _ _ => .inl (by simp)) harr⟩
      | goto l => exact ⟨_, a₁, w₁, ⟨e₁, he₁, hq⟩, .pass (x := .inLoop c) rfl (fun _ _ => .inl (by simp)) harr⟩
      | ret => exact ⟨_, a₁, w₁, ⟨e₁, he₁, hq⟩, .pass (x := .inLoop c) rfl (fun _ _ => .inl (by simp)) harr⟩
      | panic ch => exact ⟨_, a₁, w₁, ⟨e₁, he₁, hq⟩, .pass (x := .inLoop c) rfl (fun _ _ => .inl (by simp)) harr⟩
      | outgrown => exact ⟨_, a₁, w₁, ⟨e₁, he₁, hq⟩, .pass (x := .inLoop c) rfl (fun _ _ => .inl (by simp)) harr⟩
  obtain ⟨x, a', w', hq, harr⟩ := key n a w ⟨e, ha, h0⟩
  exact ⟨x, a', w', hq, .of_steps (.one step_loop) harr⟩
end rules

/-! ### regions, in the text's order -/
section regions
variable (P : Program) (N : Nat) (ops : Array Oper) (Q : Post)
/-- One operation, then the rest. -/
def opStep (o : Oper) (next : Env → World → Prop) (e : Env) (w : World) : Prop :=
  ∀ a, Is N a e → dstOk N o.dst = true →
    (if Region.wanted o (yielded ops a.tmps) then o.wp P a w (fun a' w' => ∃ e', Is N a' e' ∧ next e' w') (lift N Q) else ∃ e', Is N (a.put o.dst undef) e' ∧ next e' w)
def OPS : List Oper → Env → World → Prop
  | [], e, w => Q .normal e w
  | o :: r, e, w => opStep P N ops Q o (OPS r) e w
end regions

theorem OPS.sound {P : Program} {N : Nat} {ops : Array Oper} {Q : Post} (hN : ops.all (fun o => dstOk N o.dst) = true) :
    ∀ (l : List Oper) (k : Nat), (∀ j, l[j]? = ops[k + j]?) → ∀ (e : Env) (w : World) (a : Act), Is N a e → OPS P N ops Q l e w →
      wpOps P ops (lift N Q) (List.range' k l.length) a w := by
  intro l
  induction l with
  | nil => intro k _ e w a ha h; exact ⟨e, ha, h⟩
  | cons o r ih =>
    intro k hk e w a ha h
    have ho : ops[k]? = some o := by have := hk 0; simpa using this.symm
    have hd : dstOk N o.dst = true := by
      rw [Array.all_eq_true] at hN
      obtain ⟨hlt, hh⟩ := Array.getElem?_eq_some_iff.1 ho
      have := hN k hlt
      rw [hh] at this; exact this
    have hr : ∀ j, r[j]? = ops[(k + 1) + j]? := fun j => by have := hk (j + 1); rw [show k + (j + 1) = k + 1 + j from by omega] at this; simpa using this
    have h' := h a ha hd
    simp only [List.length_cons, List.range'_succ]
    rw [wpOps_cons]
    unfold wpOp
    simp only [ho]
    split
    · rename_i hw
      rw [if_pos hw] at h'
      exact .inl (Oper.wp_mono (fun a' w' ⟨e', he', hn⟩ => ih (k + 1) hr e' w' a' he' hn) h')
    · rename_i hw
      rw [if_neg (by simpa using hw)] at h'
      obtain ⟨e', he', hn⟩ := h'
      exact ih (k + 1) hr e' w _ he' hn

theorem WP.region {P : Program} {N : Nat} {Q : Post} {e : Env} {w : World} {id : Nat} {ops : Array Oper} (l : List Oper) (hl : ops.toList = l) (hN : (l.all fun o => dstOk N o.dst) = true)
    (h : OPS P N ops Q l e w) : WP P N (.region id ops false) Q e w := by
  intro a ha
  subst hl
  have hN' : ops.all (fun o => dstOk N o.dst) = true := by rw [← Array.all_toList]; exact hN
  refine wp_region ?_
  have := OPS.sound hN' ops.toList 0 (fun j => by simp) e w a ha h
  rwa [Array.length_toList, ← List.range_eq_range'] at this

section oprules
variable {P : Program} {N : Nat} {ops : Array Oper} {Q : Post} {r : List Oper} {e : Env} {w : World}

/-- An operation that gives a value. -/
theorem opStep.val {o : Oper} {next : Env → World → Prop} {v : Value} {w' : World} (hg : o.guard = none) (hr : (execOp (ev e) o).run P w = .ok (.value v) w') (h : next (put e o.dst v) w') :
    opStep P N ops Q o next e w := by
  intro a ha hd
  have hw : Region.wanted o (yielded ops a.tmps) = true := by simp [Region.wanted, hg]
  rw [if_pos hw]
  unfold Oper.wp
  rw [ha.eval, hr]
  exact ⟨_, ha.put _ _ hd, h⟩
theorem opStep.skip {o : Oper} {next : Env → World → Prop} {w' : World} (hg : o.guard = none) (hr : (execOp (ev e) o).run P w = .ok .skip w') (h : next (put e o.dst undef) w') :
    opStep P N ops Q o next e w := by
  intro a ha hd
  have hw : Region.wanted o (yielded ops a.tmps) = true := by simp [Region.wanted, hg]
  rw [if_pos hw]
  unfold Oper.wp
  rw [ha.eval, hr]
  exact ⟨_, ha.put _ _ hd, h⟩
/-- A call of a Go function that returns. -/
theorem opStep.enter {o : Oper} {next : Env → World → Prop} {f : FuncId} {args : Array Value} {w' : World} {R : Ending → World → Prop} (hg : o.guard = none)
    (hr : (execOp (ev e) o).run P w = .ok (.enter f args) w') (hc : Calls P f args w' R)
    (h : ∀ x w'', R x w'' → ∃ v, x = .returned v ∧ next (put e o.dst v) w'') :
    opStep P N ops Q o next e w := by
  intro a ha hd
  have hw : Region.wanted o (yielded ops a.tmps) = true := by simp [Region.wanted, hg]
  rw [if_pos hw]
  unfold Oper.wp
  rw [ha.eval, hr]
  refine Calls.mono hc ?_
  intro x w'' hR
  obtain ⟨v, rfl, hn⟩ := h x w'' hR
  exact ⟨_, ha.put _ _ hd, hn⟩
/-- A guard that is met, or not. -/
theorem opStep.want {o : Oper} {next : Env → World → Prop} {j t : Nat} {b : Bool} (hg : o.guard = some (j, b)) (hj : (ops[j]?).bind (·.dst) = some t) (ht : Nat.blt t N = true) (hb : e t = .bool b)
    (h : opStep P N ops Q { o with guard := none } next e w) : opStep P N ops Q o next e w := by
  intro a ha hd
  have hlt : t < a.tmps.size := by rw [ha.size]; simpa [Nat.blt_eq] using ht
  have hy : a.tmps[t]? = some (.bool b) := by
    have := ha.get t
    rw [Array.getD_eq_getD_getElem?, Array.getElem?_eq_getElem hlt] at this
    rw [Array.getElem?_eq_getElem hlt, ← hb, ← this]; rfl
  have hw : Region.wanted o (yielded ops a.tmps) = true := by simp [Region.wanted, hg, yielded, hj, hy]
  rw [if_pos hw]
  have := h a ha hd
  rwa [if_pos (by simp [Region.wanted])] at this
theorem opStep.pass {o : Oper} {next : Env → World → Prop} {j t : Nat} {b : Bool} (hg : o.guard = some (j, b)) (hj : (ops[j]?).bind (·.dst) = some t) (ht : Nat.blt t N = true) (hb : e t = .bool (!b))
    (h : next (put e o.dst undef) w) : opStep P N ops Q o next e w := by
  intro a ha hd
  have hlt : t < a.tmps.size := by rw [ha.size]; simpa [Nat.blt_eq] using ht
  have hy : a.tmps[t]? = some (.bool (!b)) := by
    have := ha.get t
    rw [Array.getD_eq_getD_getElem?, Array.getElem?_eq_getElem hlt] at this
    rw [Array.getElem?_eq_getElem hlt, ← hb, ← this]; rfl
  have hw : Region.wanted o (yielded ops a.tmps) = false := by cases b <;> simp [Region.wanted, hg, yielded, hj, hy]
  rw [if_neg (by rw [hw]; exact Bool.false_ne_true)]
  exact ⟨_, ha.put _ _ hd, h⟩
end oprules

/-! ### a call's body -/
def bodyQ (P : Program) (fn : Func) (R : Ending → World → Prop) : Post
  | .normal, e, w | .ret, e, w => ∀ a, Is fn.ntmps a e → ∃ v, (results fn a.tmps).run P w = .ok v w ∧ R (.returned v) w
  | _, _, _ => False

def env0 (args : List Value) : Env := fun i => args.getD i undef

theorem calls_of {P : Program} {f : FuncId} {fn : Func} {c : Code} {args : List Value} {w : World} {R : Ending → World → Prop}
    (hf : P.funcs[f]? = some fn) (hb : fn.body = some c) (N : Nat) (hN : fn.ntmps = N) (hn : args.length ≤ N) (h : WP P N c (bodyQ P fn R) (env0 args) w) : Calls P f args.toArray w R := by
  subst hN
  refine calls_of_wp hf hb ?_
  have ha : Is fn.ntmps { tmps := args.toArray ++ Array.replicate (fn.ntmps - args.toArray.size) undef, defers := [] } (env0 args) := by
    refine ⟨by simp; omega, rfl, fun i => ?_⟩
    show (args.toArray ++ Array.replicate (fn.ntmps - args.toArray.size) undef).getD i undef = args.getD i undef
    rw [Array.getD_eq_getD_getElem?, List.getD_eq_getElem?_getD, Array.getElem?_append]
    by_cases hi : i < args.length
    · simp [hi]
    · simp only [List.size_toArray, hi, if_false]
      rw [List.getElem?_eq_none (by omega), Array.getElem?_replicate]
      split <;> rfl
  refine wp_mono (h _ ha) ?_
  rintro x a' w' ⟨e', he, hq⟩
  cases x with
  | normal => exact ⟨he.defers, hq a' he⟩
  | ret => exact ⟨he.defers, hq a' he⟩
  | _ => exact hq.elim

end Go.Proofs.Ytdkgdidnknojlaa.K
namespace Go.Proofs.Ytdkgdidnknojlaa.K
open Go

/-- A number is of its kind. -/
def Rng (k : IntKind) (z : Int) : Prop := k.min ≤ z ∧ z ≤ k.max
def InB (i : Int) (n : Nat) : Prop := 0 ≤ i ∧ i < n
theorem wrap_of {k : IntKind} {z : Int} (h : Rng k z) : k.wrap z = z := by
  obtain ⟨h1, h2⟩ := h
  cases k <;> simp [IntKind.min, IntKind.max, IntKind.signed, IntKind.bits, IntKind.wrap] at * <;> omega
theorem Rng.i64 {z : Int} (h : -9223372036854775808 ≤ z ∧ z ≤ 9223372036854775807) : Rng .i64 z := by
  simpa [Rng, IntKind.min, IntKind.max, IntKind.signed, IntKind.bits] using h
theorem Rng.u8 {z : Int} (h : 0 ≤ z ∧ z ≤ 255) : Rng .u8 z := by
  simpa [Rng, IntKind.min, IntKind.max, IntKind.signed, IntKind.bits] using h
def All : List Prop → Prop
  | [] => True
  | [p] => p
  | p :: q :: r => p ∧ All (q :: r)
theorem All.one {p : Prop} : All [p] = p := rfl
theorem All.two {p q : Prop} : All [p, q] = (p ∧ q) := rfl
theorem All.cons {p : Prop} {r : List Prop} (h : All (p :: r)) : p ∧ All r := by
  cases r with
  | nil => exact ⟨h, trivial⟩
  | cons q r => exact h
theorem All.append : ∀ {a b : List Prop}, All (a ++ b) → All a ∧ All b
  | [], _, h => ⟨trivial, h⟩
  | p :: r, b, h => by
    have h' := All.cons (p := p) (r := r ++ b) h
    have h2 := All.append (a := r) (b := b) h'.2
    refine ⟨?_, h2.2⟩
    cases r with
    | nil => exact h'.1
    | cons q r => exact ⟨h'.1, h2.1⟩

/-- Hints for single operations, by the slot that is written: 'w': the sum may wrap. -/
structure Hints where
  wraps : List Nat := []
  subs : List Nat := []

def partV (P : Program) (t : TypeId) (cs : Array Value) (off : Nat) : Option Value :=
  match P.underlying t, P.info? t with
  | some (.struct _), some i => some (.agg (cs.extract off (off + i.size)))
  | some (.array _ _), some i => some (.agg (cs.extract off (off + i.size)))
  | some _, _ => cs[off]?
  | none, _ => none

/-- The flat '==' of a struct: all its fields. -/
def eqFields (P : Program) (eq : TypeId → Value → Value → Option Bool) (xs ys : Array Value) : List Field → Option Bool
  | [] => some true
  | f :: r =>
    if f.name = "_" then none else
    match partV P f.type xs f.offset, partV P f.type ys f.offset with
    | some x, some y => match eq f.type x y, eqFields P eq xs ys r with
      | some b, some c => some (b && c)
      | _, _ => none
    | _, _ => none

/-- '==' of values of simple types and of structs of such, at a type. -/
def eqV (P : Program) : Nat → TypeId → Value → Value → Option Bool
  | 0, _, _, _ => none
  | d + 1, t, x, y =>
    match P.underlying t, x, y with
    | some .bool, .bool a, .bool b => some (a == b)
    | some (.int _), .int k a, .int k' b => if k = k' then some (decide (a = b)) else none
    | some .string, .string a, .string b => some (decide (a = b))
    | some (.pointer _), .pointer none, .pointer b => some b.isNone
    | some (.pointer _), .pointer (some _), .pointer none => some false
    | some (.slice _), .slice none _ _, .slice b _ _ => some b.isNone
    | some (.slice _), .slice (some _) _ _, .slice none _ _ => some false
    | some (.map _ _), .map none, .map b => some b.isNone
    | some (.map _ _), .map (some _), .map none => some false
    | some (.func _ _ _), .nilFunc, .nilFunc => some true
    | some (.func _ _ _), .nilFunc, .func _ _ _ => some false
    | some (.func _ _ _), .func _ _ _, .nilFunc => some false
    | some (.interface _), .nilIface, .iface _ _ => some false
    | some (.interface _), .iface _ _, .nilIface => some false
    | some (.struct fs), .agg xs, .agg ys => if P.stoodInHeld t then none else eqFields P (eqV P d) xs ys fs.toList
    | _, _, _ => none

def intBin (k : IntKind) (op : BinOp) (wr : Bool) (a b : Int) : Option (Value × List Prop) :=
  match op with
  | .add => if wr then some (.int k (k.wrap (a + b)), []) else some (.int k (a + b), [Rng k (a + b)])
  | .sub => if wr then some (.int k (k.wrap (a - b)), []) else some (.int k (a - b), [Rng k (a - b)])
  | .mul => if wr then some (.int k (k.wrap (a * b)), []) else some (.int k (a * b), [Rng k (a * b)])
  | .quo => if wr then some (.int k (k.wrap (a.tdiv b)), [b ≠ 0]) else some (.int k (a.tdiv b), [b ≠ 0, Rng k (a.tdiv b)])
  | .rem => some (.int k (a.tmod b), [b ≠ 0])
  | .and => some (.int k (k.wrap (BitVec.ofInt k.bits a &&& BitVec.ofInt k.bits b).toNat), [])
  | .or => some (.int k (k.wrap (BitVec.ofInt k.bits a ||| BitVec.ofInt k.bits b).toNat), [])
  | .xor => some (.int k (k.wrap (BitVec.ofInt k.bits a ^^^ BitVec.ofInt k.bits b).toNat), [])
  | .andNot => some (.int k (k.wrap (BitVec.ofInt k.bits a &&& ~~~ BitVec.ofInt k.bits b).toNat), [])
  | .eql => some (.bool (decide (a = b)), [])
  | .neq => some (.bool (decide (¬ a = b)), [])
  | .lss => some (.bool (decide (a < b)), [])
  | .leq => some (.bool (decide (a ≤ b)), [])
  | .gtr => some (.bool (decide (b < a)), [])
  | .geq => some (.bool (decide (b ≤ a)), [])
  | _ => none

def plainEq : Value → Value → Bool
  | .bool _, .bool _ | .pointer _, .pointer _ | .slice _ _ _, .slice _ _ _ | .map _, .map _ | .nilFunc, .nilFunc | .nilFunc, .func _ _ _ | .func _ _ _, .nilFunc
  | .nilIface, .iface _ _ | .iface _ _, .nilIface => true
  | _, _ => false
def binV (P : Program) (op : BinOp) (wr : Bool) (cst : Bool) (t : TypeId) (x y : Value) : Option (Value × List Prop) :=
  match op, x, y with
  | .shl, .int k a, .int _ b => if wr then some (.int k (k.wrap (a * 2 ^ min b.toNat k.bits)), [0 ≤ b]) else some (.int k (a * 2 ^ min b.toNat k.bits), [0 ≤ b, Rng k (a * 2 ^ min b.toNat k.bits)])
  | .shr, .int k a, .int _ b => some (.int k (a.fdiv (2 ^ min b.toNat k.bits)), [0 ≤ b])
  | op, .int k a, .int k' b => if k = k' then intBin k op wr a b else none
  | .add, .string a, .string b => some (.string (a ++ b), [a.size + b.size ≤ 9223372036854775807])
  | .eql, .string a, .string b => some (.bool (decide (a = b)), [])
  | .neq, .string a, .string b => some (.bool (decide (¬ a = b)), [])
  | .lss, .string a, .string b => some (.bool (Op.bytesLess a.toList b.toList), [])
  | .gtr, .string a, .string b => some (.bool (!(Op.bytesLess a.toList b.toList || decide (a = b))), [])
  | .leq, .string a, .string b => some (.bool (Op.bytesLess a.toList b.toList || decide (a = b)), [])
  | .geq, .string a, .string b => some (.bool (!Op.bytesLess a.toList b.toList), [])
  | .eql, .agg _, .agg _ => match P.underlying t with
    | some (.struct _) => if P.eqGuardType P.depth t then none else (eqV P 4 t x y).map fun b => (.bool b, [])
    | _ => none
  | .neq, .agg _, .agg _ => match P.underlying t with
    | some (.struct _) => if P.eqGuardType P.depth t then none else (eqV P 4 t x y).map fun b => (.bool (!b), [])
    | _ => none
  | .eql, .nilIface, .nilIface => match P.underlying t with
    | some (.interface _) => if cst then some (.bool true, []) else none
    | _ => none
  | .neq, .nilIface, .nilIface => match P.underlying t with
    | some (.interface _) => if cst then some (.bool false, []) else none
    | _ => none
  | .eql, x, y => if plainEq x y then (eqV P 4 t x y).map fun b => (.bool b, []) else none
  | .neq, x, y => if plainEq x y then (eqV P 4 t x y).map fun b => (.bool (!b), []) else none
  | _, _, _ => none

theorem run_part {P : Program} {w : World} {t : TypeId} {cs : Array Value} {off : Nat} {v : Value} (h : partV P t cs off = some v) : (part t cs off).run P w = .ok v w := by
  unfold partV at h
  unfold part isAgg
  cases hu : P.underlying t with
  | none => simp [hu] at h
  | some d =>
    have hr := fun w => run_underlying hu w
    cases hi : P.info? t with
    | none =>
      have : P.underlying t = none := by simp [Program.underlying, hi]
      rw [hu] at this; cases this
    | some i =>
      have hsz : ∀ w, (sizeOf t).run P w = .ok i.size w := fun w => by simp [sizeOf, typeInfo, hi]
      cases d <;> simp [hu, hi] at h <;> simp [hr, hsz, h]

theorem bytes_eq (a b : ByteArray) : (a.toList == b.toList) = decide (a = b) := by
  rw [Bool.eq_iff_iff, beq_iff_eq, decide_eq_true_iff, ByteArray.toList_eq, ByteArray.toList_eq]
  constructor
  · intro h
    cases a; cases b
    simp only at h
    congr 1
    exact Array.ext' h
  · rintro rfl; rfl
theorem dec_eq (a b : Int) : (a == b) = decide (a = b) := rfl
theorem str_eq (a b : ByteArray) : (a == b) = decide (a = b) := by
  rw [Bool.eq_iff_iff, decide_eq_true_iff, show (a == b) = (a.data == b.data) from rfl, beq_iff_eq]
  constructor
  · intro h; cases a; cases b; simp only at h; rw [h]
  · rintro rfl; rfl

theorem run_eqFields {P : Program} {w : World} {d : Nat} {eq : TypeId → Value → Value → Option Bool} {xs ys : Array Value}
    (heq : ∀ t x y b, eq t x y = some b → (Op.equalIn d t x y).run P w = .ok b w) :
    ∀ (fs : List Field) (b : Bool), eqFields P eq xs ys fs = some b → (Op.eqFields d xs ys fs).run P w = .ok b w := by
  intro l
  induction l with
  | nil => intro b h; simp [eqFields] at h; subst h; simp [Op.eqFields]
  | cons f r ih =>
    intro b h
    unfold eqFields at h
    by_cases hn : f.name = "_"
    · simp [hn] at h
    · rw [if_neg hn] at h
      split at h
      · rename_i x y hx hy
        split at h
        · rename_i b1 c hb1 hc
          simp at h; subst h
          have h1 := heq _ _ _ _ hb1
          have h2 := ih _ hc
          simp only [Op.eqFields, ne_eq, hn, not_false_eq_true, if_true, Sem.run_bind, run_part hx, run_part hy, Result.andThen_ok, h1, Sem.run_ite]
          cases b1
          · simp
          · simp [h2]
        · simp at h
      · simp at h

theorem run_eqV {P : Program} {w : World} : ∀ {d m : Nat} {t : TypeId} {x y : Value} {b : Bool}, eqV P d t x y = some b → (Op.equalIn (m + d) t x y).run P w = .ok b w := by
  intro d
  induction d with
  | zero => intro m t x y b h; simp [eqV] at h
  | succ d ih =>
    intro m t x y b h
    unfold eqV at h
    have hu : ∀ dd, P.underlying t = some dd → ∀ w, (underlying t).run P w = .ok dd w := fun dd hd w => run_underlying hd w
    rw [show m + (d + 1) = (m + d) + 1 from rfl]
    split at h <;> rename_i he
    case h_15 fs xs ys =>
      cases hs : P.stoodInHeld t with
      | true => simp [hs] at h
      | false =>
        simp [hs] at h
        have hf : P.fieldsOf t = fs := by simp [Program.fieldsOf, he]
        rw [run_equalIn_struct w (m + d) t xs ys (by rw [hf]; exact he) hs, hf]
        exact run_eqFields (fun t x y b hb => ih hb) _ _ h
    all_goals unfold Op.equalIn
    all_goals first
      | (simp at h; done)
      | (have hr := hu _ he; simp at h; subst h; simp [hr]; done)
      | (have hr := hu _ he; simp at h; obtain ⟨rfl, rfl⟩ := h; simp [hr, dec_eq]; done)
      | (have hr := hu _ he; simp at h; subst h; simp [hr, str_eq]; done)
      | (have hr := hu _ he; simp at h; subst h; rename_i b; cases b <;> simp [hr]; done)
      | skip

end Go.Proofs.Ytdkgdidnknojlaa.K
namespace Go.Proofs.Ytdkgdidnknojlaa.K
open Go

def isConst : Operand → Bool | .const _ => true | _ => false

theorem run_intBin {P : Program} {w : World} {k : IntKind} {op : BinOp} {wr : Bool} {a b : Int} {v : Value} {vc : List Prop} (t : TypeId) (h : intBin k op wr a b = some (v, vc)) (hv : All vc) :
    (binOp op t (.int k a) (.int k b)).run P w = .ok v w := by
  cases op <;> simp [intBin] at h
  case add => cases wr <;> simp at h <;> obtain ⟨rfl, rfl⟩ := h <;> simp [binOp, Op.intArith] <;> exact wrap_of hv
  case sub => cases wr <;> simp at h <;> obtain ⟨rfl, rfl⟩ := h <;> simp [binOp, Op.intArith] <;> exact wrap_of hv
  case mul => cases wr <;> simp at h <;> obtain ⟨rfl, rfl⟩ := h <;> simp [binOp, Op.intArith] <;> exact wrap_of hv
  case quo =>
    cases wr <;> simp at h <;> obtain ⟨rfl, rfl⟩ := h
    · simp [binOp, Op.intDiv, hv.1, wrap_of hv.2]
    · simp [binOp, Op.intDiv, show b ≠ 0 from hv]
  case rem =>
    obtain ⟨rfl, rfl⟩ := h
    simp [binOp, Op.intDiv, show b ≠ 0 from hv]
  all_goals (obtain ⟨rfl, rfl⟩ := h; simp [binOp, Op.intCmp, Op.intBits, dec_eq, bne])

theorem equalIn_nil {P : Program} {w : World} {t : TypeId} {ms : Array (String × TypeId)} (d : Nat) (hu : P.underlying t = some (.interface ms)) :
    (Op.equalIn (d + 1) t .nilIface .nilIface).run P w = .ok true w := by simp [Op.equalIn, run_underlying hu]

theorem run_binV {P : Program} {w : World} {op : BinOp} {wr : Bool} {t : TypeId} {x y : Operand} {u v z : Value} {vc : List Prop}
    (h : binV P op wr (isConst x || isConst y) t u v = some (z, vc)) (hv : All vc) :
    (do eqGuard op t x y u v; binOp op t u v : Sem Value).run P w = .ok z w := by
  have cstOr : (isConst x || isConst y) = true → (eqGuard op t x y .nilIface .nilIface).run P w = .ok () w := by
    intro hc
    cases x <;> cases y <;> simp [isConst] at hc <;> cases op <;> simp [eqGuard]
  unfold binV at h
  split at h
  · -- shl
    rename_i b
    cases wr <;> simp at h <;> obtain ⟨rfl, rfl⟩ := h
    · have h0 : 0 ≤ b := hv.1
      simp [eqGuard, binOp, Op.shift, show ¬ b < 0 from by omega, wrap_of hv.2]
    · have h0 : 0 ≤ b := hv
      simp [eqGuard, binOp, Op.shift, show ¬ b < 0 from by omega]
  · rename_i b
    simp at h; obtain ⟨rfl, rfl⟩ := h
    have h0 : 0 ≤ b := hv
    simp [eqGuard, binOp, Op.shift, show ¬ b < 0 from by omega]
  · -- ints
    split at h
    · rename_i hk; subst hk
      have := run_intBin (P := P) (w := w) t h hv
      cases op <;> simp [eqGuard, this]
    · simp at h
  all_goals first
    | (simp at h; done)
    | skip
  · simp at h; obtain ⟨rfl, rfl⟩ := h
    rename_i a b
    have h0 : a.size + b.size ≤ 9223372036854775807 := hv
    have h1 : ¬ (((a.size + b.size : Nat) : Int) > IntKind.i64.max) := by
      simp only [IntKind.max, IntKind.signed, IntKind.bits, if_true]; omega
    simp only [eqGuard, binOp, Op.stringOp, if_neg h1, Sem.run_bind]
    simp
  · simp at h; obtain ⟨rfl, rfl⟩ := h; simp [eqGuard, binOp, Op.stringOp, bytes_eq]
  · simp at h; obtain ⟨rfl, rfl⟩ := h; simp [eqGuard, binOp, Op.stringOp, bytes_eq]
  · simp at h; obtain ⟨rfl, rfl⟩ := h; simp [eqGuard, binOp, Op.stringOp]
  · simp at h; obtain ⟨rfl, rfl⟩ := h; simp [eqGuard, binOp, Op.stringOp, bytes_eq]
  · simp at h; obtain ⟨rfl, rfl⟩ := h; simp [eqGuard, binOp, Op.stringOp, bytes_eq]
  · simp at h; obtain ⟨rfl, rfl⟩ := h; simp [eqGuard, binOp, Op.stringOp]
  · -- structs
    split at h
    · split at h
      · simp at h
      · rename_i hg
        simp at h
        rcases h with ⟨hb, rfl, rfl⟩ | ⟨hb, rfl, rfl⟩
        all_goals (have := run_eqV (P := P) (w := w) (m := 9996) hb; simp [run_eqGuard_agg (P := P) w .eql t x y _ _ (by simpa using hg), run_eql_struct, this])
    · simp at h
  · split at h
    · split at h
      · simp at h
      · rename_i hg
        simp at h
        rcases h with ⟨hb, rfl, rfl⟩ | ⟨hb, rfl, rfl⟩
        all_goals (have := run_eqV (P := P) (w := w) (m := 9996) hb; simp [run_eqGuard_agg (P := P) w .neq t x y _ _ (by simpa using hg), run_neq_struct, this])
    · simp at h
  · split at h
    · rename_i ms hu
      split at h
      · rename_i hc
        simp at h; obtain ⟨rfl, rfl⟩ := h
        have := cstOr hc
        have h2 : (Op.equalIn 10000 t .nilIface .nilIface).run P w = .ok true w := equalIn_nil 9999 hu
        simp only [Sem.run_bind, this, Result.andThen_ok, binOp]
        simp [Op.equal, Op.maxDepth, h2]
      · simp at h
    · simp at h
  · split at h
    · rename_i ms hu
      split at h
      · rename_i hc
        simp at h; obtain ⟨rfl, rfl⟩ := h
        have := cstOr hc
        have h2 : (Op.equalIn 10000 t .nilIface .nilIface).run P w = .ok true w := equalIn_nil 9999 hu
        simp only [Sem.run_bind, this, Result.andThen_ok, binOp]
        simp [Op.equal, Op.maxDepth, h2]
      · simp at h
    · simp at h
  all_goals
    split at h
    case isFalse => simp at h
    case isTrue hp =>
      simp at h
      rcases h with ⟨hb, rfl, rfl⟩ | ⟨hb, rfl, rfl⟩
      all_goals
        have h1 := run_eqV (P := P) (w := w) (m := 9996) hb
        unfold plainEq at hp
        split at hp
        all_goals first
          | (simp at hp; done)
          | (simp [eqGuard, binOp, Op.equal, Op.maxDepth, h1]; done)

end Go.Proofs.Ytdkgdidnknojlaa.K
namespace Go.Proofs.Ytdkgdidnknojlaa.K
open Go

def adr (b : Option Addr) : Addr := b.getD ⟨0, 0, none⟩
def byteAt (s : ByteArray) (i : Int) : Int := ((s.data.toList[i.toNat]?).getD 0).toNat
def slOff (a : Option Addr) (cap l size : Nat) : Option Addr := if cap = l then a else a.map (·.add (l * size))
/-- Reading a variable. -/
def Ld (P : Program) (w : World) (t : TypeId) (a : Addr) (v : Value) : Prop := (loadVar t a).run P w = .ok v w
def Lk (P : Program) (w : World) (t : TypeId) (m k : Value) (ok : Bool) (v : Value) : Prop := (Instr.lookup t m k ok).run P w = .ok v w
def Bs (P : Program) (w : World) (x : Value) (s : Value) : Prop := (Conv.bytesToString x).run P w = .ok s w
def MapLen (w : World) (m : Option Nat) (v : Value) : Prop := ∃ n, v = .int .i64 n ∧ ((m = none ∧ n = 0) ∨ ∃ r es c, m = some r ∧ w.heap[r]? = some (.map es c) ∧ n = es.size)

def wrapsAt (H : Hints) : Option Tmp → Bool
  | some d => H.wraps.any (Nat.beq d)
  | none => false

def builtinV (P : Program) (w : World) (e : Env) (ls : List Value) (b : Builtin) (args : Array Operand) (ts : Array TypeId) : Option (Value × List Prop × List Value) :=
  match b with
  | .len => match args[0]?, ts[0]? with
    | some x, some t => match P.underlying t, ev e x with
      | some .string, .string s => some (.int .i64 s.size, [], ls)
      | some (.slice _), .slice _ n _ => some (.int .i64 n, [], ls)
      | some (.array n _), _ => some (.int .i64 n, [], ls)
      | some (.map _ _), .map m => match ls with
        | v :: ls => some (v, [MapLen w m v], ls)
        | [] => none
      | _, _ => none
    | _, _ => none
  | .cap => match args[0]?, ts[0]? with
    | some x, some t => match P.underlying t, ev e x with
      | some (.slice _), .slice _ _ c => some (.int .i64 c, [], ls)
      | _, _ => none
    | _, _ => none
  | .max => match args.toList.map (ev e) with
    | [.int k x, .int _ y] => some (.int k (max x y), [], ls)
    | _ => none
  | .min => match args.toList.map (ev e) with
    | [.int k x, .int _ y] => some (.int k (min x y), [], ls)
    | _ => none
  | _ => none

def pureOp0 (P : Program) (w : World) (H : Hints) (e : Env) (ls : List Value) (o : Oper) : Option (Value × List Prop × List Value) :=
  let wr := wrapsAt H o.dst
  match o.op with
  | .move x | .assign x => some (ev e x, [], ls)
  | .pick c a b => if wr then (match ev e c with | .bool c => some (bif c then ev e a else ev e b, [], ls) | _ => none) else match ev e c, ev e a, ev e b with
    | .bool c, .bool x, .bool y => some (.bool (bif c then x else y), [], ls)
    | .bool c, .int k x, .int k' y => if k = k' then some (.int k (bif c then x else y), [], ls) else none
    | .bool c, .string x, .string y => some (.string (bif c then x else y), [], ls)
    | _, _, _ => none
  | .nilCheck x => match ev e x with
    | .pointer (some a) => some (.pointer (some a), [], ls)
    | .func (.func f) fi ca => some (.func (.func f) fi ca, [], ls)
    | _ => none
  | .binOp op t x y _ => match binV P op wr (isConst x || isConst y) t (ev e x) (ev e y) with
    | some (v, vc) => some (v, vc, ls)
    | none => none
  | .unOp op _ x => match op, ev e x with
    | .not, .bool b => some (.bool (!b), [], ls)
    | .neg, .int k n => if wr then some (.int k (k.wrap (0 - n)), [], ls) else some (.int k (-n), [Rng k (-n)], ls)
    | .xor, .int k n => some (.int k (k.wrap (BitVec.ofInt k.bits (if k.signed then -1 else k.max) ^^^ BitVec.ofInt k.bits n).toNat), [], ls)
    | _, _ => none
  | .convert src dst x => match P.underlying src, P.underlying dst, ev e x with
    | some _, some (.int k), .int _ n => if wr then some (.int k (k.wrap n), [], ls) else some (.int k n, [Rng k n], ls)
    | some .string, some .string, .string s => some (.string s, [], ls)
    | some (.slice el), some .string, .slice a n c => match P.underlying el, ls with
      | some (.int .u8), v :: ls => some (v, [Bs P w (.slice a n c) v], ls)
      | _, _ => none
    | _, _, _ => none
  | .makeInterface t x => match P.underlying t with
    | some (.interface _) => none
    | some _ => some (.iface t (ev e x), [], ls)
    | none => none
  | .makeFunc fn fi ca => some (.func fn (fi.map (ev e)) (ca.map (ev e)), [], ls)
  | .fieldAddr s x f => match P.underlying s, ev e x with
    | some (.struct fs), .pointer (some a) => match fs[f]? with
      | some fd => match P.info? fd.type with
        | some i => if i.size = 0 then none else some (.pointer (some (a.add fd.offset)), [], ls)
        | none => none
      | none => none
    | _, _ => none
  | .field t x f => match P.underlying t, ev e x with
    | some (.struct fs), .agg cs => match fs[f]? with
      | some fd => match partV P fd.type cs fd.offset with
        | some v => some (v, [], ls)
        | none => none
      | none => none
    | _, _ => none
  | .indexAddr t x ix => match P.underlying t, ev e x, ev e ix with
    | some (.slice el), .slice a n _, .int _ i => match P.info? el with
      | some inf => some (.pointer (some ((adr a).add (i.toNat * inf.size))), [InB i n, a.isSome = true], ls)
      | none => none
    | some (.array n el), .pointer (some a), .int _ i => match P.info? el with
      | some inf => some (.pointer (some (a.add (i.toNat * inf.size))), [InB i n], ls)
      | none => none
    | _, _, _ => none
  | .index t x ix => match P.underlying t, ev e x, ev e ix with
    | some .string, .string s, .int _ i => some (.int .u8 (byteAt s i), [InB i s.size], ls)
    | some (.array n el), .agg cs, .int _ i => match P.info? el, ls with
      | some inf, v :: ls => some (v, [InB i n ∧ partV P el cs (i.toNat * inf.size) = some v], ls)
      | _, _ => none
    | _, _, _ => none
  | .extract x i => match ev e x with
    | .tuple vs => match vs[i]? with
      | some v => some (v, [], ls)
      | none => none
    | _ => none
  | .slice t x lo hi mx => match P.underlying t, ev e x, lo.map (ev e), hi.map (ev e), mx with
    | some .string, .string s, some (.int _ l), none, none => some (.string (s.extract l.toNat s.size), [0 ≤ l ∧ l ≤ s.size], ls)
    | some .string, .string s, none, some (.int _ h), none => some (.string (s.extract 0 h.toNat), [0 ≤ h ∧ h ≤ s.size], ls)
    | some .string, .string s, some (.int _ l), some (.int _ h), none => some (.string (s.extract l.toNat h.toNat), [0 ≤ l ∧ l ≤ h ∧ h ≤ s.size], ls)
    | some (.slice el), .slice a _ c, none, some (.int _ h), none => match P.info? el with
      | some _ => some (.slice a h.toNat c, [0 ≤ h ∧ h ≤ c], ls)
      | none => none
    | some (.slice el), .slice a n c, none, none, none => match P.info? el with
      | some _ => some (.slice a n c, [], ls)
      | none => none
    | some (.slice el), .slice a n c, some (.int _ l), none, none => match P.info? el with
      | some inf => some (.slice (slOff a c l.toNat inf.size) (n - l.toNat) (c - l.toNat), [0 ≤ l ∧ l ≤ n], ls)
      | none => none
    | some (.slice el), .slice a _ c, some (.int _ l), some (.int _ h), none => match P.info? el with
      | some inf => some (.slice (slOff a c l.toNat inf.size) (h.toNat - l.toNat) (c - l.toNat), [0 ≤ l ∧ l ≤ h ∧ h ≤ c], ls)
      | none => none
    | _, _, _, _, _ => none
  | .build t parts => match P.built t (parts.map fun (i, x) => (i, ev e x)).toList with
    | some cs => some (.agg cs, [], ls)
    | none => none
  | .load t x => match ev e x, ls with
    | .pointer (some a), v :: ls => some (v, [Ld P w t a v], ls)
    | _, _ => none
  | .lookup t m k ok => match ls with
    | v :: ls => some (v, [Lk P w t (ev e m) (ev e k) ok v], ls)
    | [] => none
  | .call c => match c.callee with
    | .builtin b => builtinV P w e ls b c.args c.argTypes
    | _ => none
  | _ => none


theorem Addr.add_zero' (a : Addr) : a.add 0 = a := by simp [Addr.add]
set_option maxHeartbeats 1600000 in
theorem run_pureOp0 {P : Program} {w : World} {H : Hints} {e : Env} {ls ls' : List Value} {o : Oper} {v : Value} {vc : List Prop}
    (h : pureOp0 P w H e ls o = some (v, vc, ls')) (hv : All vc) : (execOp (ev e) o).run P w = .ok (.value v) w := by
  obtain ⟨dst, op, type, pos, after, guard⟩ := o
  generalize hwr : wrapsAt H dst = wr
  cases op <;> simp only [pureOp0, hwr] at h <;> clear hwr <;> try (simp at h; done)
  case move x => simp at h; obtain ⟨rfl, rfl, rfl⟩ := h; simp [execOp]
  case assign x => simp at h; obtain ⟨rfl, rfl, rfl⟩ := h; simp [execOp]
  case pick c a b =>
    split at h
    · split at h
      · rename_i c hc
        simp at h; obtain ⟨rfl, rfl, rfl⟩ := h
        cases c <;> simp [execOp, hc, asBool]
      · simp at h
    split at h
    · rename_i c x y hc ha hb
      simp at h; obtain ⟨rfl, rfl, rfl⟩ := h
      cases c <;> simp [execOp, hc, ha, hb, asBool]
    · rename_i c k x k' y hc ha hb
      split at h
      · rename_i hk; subst hk
        simp at h; obtain ⟨rfl, rfl, rfl⟩ := h
        cases c <;> simp [execOp, hc, ha, hb, asBool]
      · simp at h
    · rename_i c x y hc ha hb
      simp at h; obtain ⟨rfl, rfl, rfl⟩ := h
      cases c <;> simp [execOp, hc, ha, hb, asBool]
    · simp at h
  case nilCheck x =>
    split at h
    · rename_i a ha
      simp at h; obtain ⟨rfl, rfl, rfl⟩ := h
      simp [execOp, ha]
    · rename_i a b c ha
      simp at h; obtain ⟨rfl, rfl, rfl⟩ := h
      simp [execOp, ha]
    · simp at h
  case binOp op t x y ty =>
    split at h
    · rename_i v vc hb
      simp at h; obtain ⟨rfl, rfl, rfl⟩ := h
      have := run_binV (P := P) (w := w) hb hv
      simp only [execOp]
      simp only [Sem.run_bind] at this ⊢
      rw [this]; rfl
    · simp at h
  case unOp op t x =>
    split at h
    · rename_i b hb
      simp at h; obtain ⟨rfl, rfl, rfl⟩ := h
      simp [execOp, hb, Op.unary]
    · rename_i k n hb
      cases wr <;> simp at h <;> obtain ⟨rfl, rfl, rfl⟩ := h
      · have hv' : Rng k (-n) := hv
        simp [execOp, hb, Op.unary, Op.intArith, wrap_of hv']
      · simp [execOp, hb, Op.unary, Op.intArith]
    · rename_i k n hb
      simp at h; obtain ⟨rfl, rfl, rfl⟩ := h
      simp [execOp, hb, Op.unary, Op.intBits]
    · simp at h
  case convert src dst x =>
    split at h
    · rename_i d k k' n hs hd hx
      cases wr <;> simp at h <;> obtain ⟨rfl, rfl, rfl⟩ := h
      · have hv' : Rng k n := hv
        cases d <;> simp [execOp, convert, run_underlying hs, run_underlying hd, hx, Conv.intToInt, wrap_of hv']
      · cases d <;> simp [execOp, convert, run_underlying hs, run_underlying hd, hx, Conv.intToInt]
    · rename_i s hs hd hx
      simp at h; obtain ⟨rfl, rfl, rfl⟩ := h
      simp [execOp, convert, run_underlying hs, run_underlying hd, hx]
    · rename_i el a n c hs hd hx
      split at h
      · rename_i v ls hel
        simp at h; obtain ⟨rfl, rfl, rfl⟩ := h
        have hv' : (Conv.bytesToString (.slice a n c)).run P w = .ok _ w := hv
        simp [execOp, convert, run_underlying hs, run_underlying hd, hx, run_underlying hel, hv']
      · simp at h
    · simp at h
  case makeInterface t x =>
    split at h
    · simp at h
    · rename_i d hn hu
      simp at h; obtain ⟨rfl, rfl, rfl⟩ := h
      simp only [execOp, Instr.makeInterface, Sem.run_bind, run_underlying hu, Result.andThen_ok]
      cases d <;> first | (simp; done) | (exact absurd rfl (hn _))
    · simp at h
  case makeFunc fn fi ca => simp at h; obtain ⟨rfl, rfl, rfl⟩ := h; simp [execOp, Instr.makeFunc]
  case fieldAddr s x f =>
    split at h
    · rename_i fs a hu ha
      split at h
      · rename_i fd hf
        split at h
        · rename_i i hi
          split at h
          · simp at h
          · rename_i h0
            simp at h; obtain ⟨rfl, rfl, rfl⟩ := h
            simp [execOp, Instr.fieldAt, run_underlying hu, ha, hf, Instr.sureAddr, fieldPlace, sizeOf, typeInfo, hi, h0]
        · simp at h
      · simp at h
    · simp at h
  case field t x f =>
    split at h
    · rename_i fs cs hu ha
      split at h
      · rename_i fd hf
        split at h
        · rename_i v hp
          simp at h; obtain ⟨rfl, rfl, rfl⟩ := h
          simp [execOp, Instr.field, run_underlying hu, ha, hf, asAgg, run_part hp]
        · simp at h
      · simp at h
    · simp at h
  case indexAddr t x ix =>
    split at h
    · rename_i el a n c k i hu hx hi
      split at h
      · rename_i inf hin
        simp at h; obtain ⟨rfl, rfl, rfl⟩ := h
        obtain ⟨h1, h2⟩ : InB i n ∧ a.isSome = true := hv
        obtain ⟨a, rfl⟩ := Option.isSome_iff_exists.1 h2
        simp [execOp, Instr.indexAt, run_underlying hu, hx, hi, asIntOf, sizeOf, typeInfo, hin, h1.1, h1.2, adr]
      · simp at h
    · rename_i n el a k i hu hx hi
      split at h
      · rename_i inf hin
        simp at h; obtain ⟨rfl, rfl, rfl⟩ := h
        have h1 : InB i n := hv
        simp [execOp, Instr.indexAt, run_underlying hu, hx, hi, asIntOf, sizeOf, typeInfo, hin, h1.1, h1.2, Instr.sureAddr]
      · simp at h
    · simp at h
  case index t x ix =>
    split at h
    · rename_i s k i hu hx hi
      simp at h; obtain ⟨rfl, rfl, rfl⟩ := h
      have h1 : InB i s.size := hv
      have h2 : 0 ≤ i ∧ i < s.size := h1
      simp only [execOp, Sem.run_bind, hx, hi, run_index_string w t s k i hu, dif_pos h2, Result.andThen_ok]
      have : byteAt s i = (s[i.toNat]'(by omega)).toNat := by
        unfold byteAt
        have hl : i.toNat < s.data.toList.length := by
          have : s.data.toList.length = s.size := by cases s; rfl
          omega
        rw [List.getElem?_eq_getElem hl]
        rfl
      rw [this]; rfl
    · rename_i n el cs k i hu hx hi
      split at h
      · rename_i inf v ls hin
        simp at h; obtain ⟨rfl, rfl, rfl⟩ := h
        obtain ⟨h1, h2⟩ : InB i n ∧ partV P el cs (i.toNat * inf.size) = some v := hv
        simp [execOp, Instr.index, run_underlying hu, hx, hi, asIntOf, sizeOf, typeInfo, hin, h1.1, h1.2, run_part h2]
      · simp at h
    · simp at h
  case extract x i =>
    split at h
    · rename_i vs hx
      split at h
      · rename_i v hv'
        simp at h; obtain ⟨rfl, rfl, rfl⟩ := h
        simp [execOp, Instr.extract, hx, hv']
      · simp at h
    · simp at h
  case slice t x lo hi mx =>
    have hel : ∀ el, P.underlying t = some (.slice el) → P.elem t = el := fun el hu => by simp [Program.elem, hu]
    have hsz : ∀ el inf, P.info? el = some inf → ∀ w, (sizeOf el).run P w = .ok inf.size w := fun el inf hi w => by simp [sizeOf, typeInfo, hi]
    split at h
    · rename_i s k l hu hx hl hh
      simp at h; obtain ⟨rfl, rfl, rfl⟩ := h
      have hv' : 0 ≤ l ∧ l ≤ s.size := hv
      simp [execOp, run_sliceAt_string, hu, hx, hl, hh, run_slice_string_l, hv'.1, hv'.2]
    · rename_i s k h' hu hx hl hh
      simp at h; obtain ⟨rfl, rfl, rfl⟩ := h
      have hv' : 0 ≤ h' ∧ h' ≤ s.size := hv
      simp [execOp, run_sliceAt_string, hu, hx, hl, hh, run_slice_string_h, hv'.1, hv'.2]
    · rename_i s k l k' h' hu hx hl hh
      simp at h; obtain ⟨rfl, rfl, rfl⟩ := h
      have hv' : 0 ≤ l ∧ l ≤ h' ∧ h' ≤ s.size := hv
      have eh : (h'.toNat : Int) = h' := Int.toNat_of_nonneg (by omega)
      have : (Instr.slice t (.string s) (some (.int k l)) (some (.int k' h')) none).run P w = .ok (.string (s.extract l.toNat h'.toNat)) w := by
        have h0 : 0 ≤ h' := by omega
        simp [Instr.slice, run_underlying hu, Instr.sliceBounds, run_sliceBound, *]
      simp [execOp, run_sliceAt_string, hu, hx, hl, hh, this]
    · rename_i el a n c k h' hu hx hl hh
      split at h
      · rename_i inf hi
        simp at h; obtain ⟨rfl, rfl, rfl⟩ := h
        have hv' : 0 ≤ h' ∧ h' ≤ c := hv
        have := run_slice_h (P := P) w t a n c (by rw [hel el hu]; exact hu) k h' hv'.1 hv'.2
        simp [execOp, run_sliceAt_slice, hel el hu, hu, hx, hl, hh, this, hsz el inf hi, sliced, Addr.add_zero']
      · simp at h
    · rename_i el a n c hu hx hl hh
      split at h
      · rename_i inf hi
        simp at h; obtain ⟨rfl, rfl, rfl⟩ := h
        have := run_slice_all (P := P) w t a n c (by rw [hel el hu]; exact hu)
        simp [execOp, run_sliceAt_slice, hel el hu, hu, hx, hl, hh, this, hsz el inf hi, sliced, Addr.add_zero']
      · simp at h
    · rename_i el a n c k l hu hx hl hh
      split at h
      · rename_i inf hi
        simp at h; obtain ⟨rfl, rfl, rfl⟩ := h
        have hv' : 0 ≤ l ∧ l ≤ n := hv
        have := run_slice_l (P := P) w t a n c (by rw [hel el hu]; exact hu) k l hv'.1 hv'.2
        simp [execOp, run_sliceAt_slice, hel el hu, hu, hx, hl, hh, this, hsz el inf hi, sliced, slOff]
      · simp at h
    · rename_i el a n c k l k' h' hu hx hl hh
      split at h
      · rename_i inf hi
        simp at h; obtain ⟨rfl, rfl, rfl⟩ := h
        have hv' : 0 ≤ l ∧ l ≤ h' ∧ h' ≤ c := hv
        have := run_slice_lh (P := P) w t a n c (by rw [hel el hu]; exact hu) k k' l h' hv'.1 hv'.2.1 hv'.2.2
        simp [execOp, run_sliceAt_slice, hel el hu, hu, hx, hl, hh, this, hsz el inf hi, sliced, slOff]
      · simp at h
    · simp at h
  case build t parts =>
    split at h
    · rename_i cs hb
      simp at h; obtain ⟨rfl, rfl, rfl⟩ := h
      simp [execOp, run_build w t _ cs hb]
    · simp at h
  case load t x =>
    split at h
    · rename_i a v ls ha
      simp at h; obtain ⟨rfl, rfl, rfl⟩ := h
      have hv' : (loadVar t a).run P w = .ok v w := hv
      simp [execOp, Instr.loadAt, Instr.sureAddr, ha, hv']
    · simp at h
  case lookup t m k ok =>
    split at h
    · simp at h; obtain ⟨rfl, rfl, rfl⟩ := h
      have hv' : (Instr.lookup t (ev e m) (ev e k) ok).run P w = .ok _ w := hv
      simp [execOp, hv']
    · simp at h
  case call c =>
    obtain ⟨callee, args, ts⟩ := c
    cases callee <;> try (simp at h; done)
    rename_i b
    simp only at h
    cases b <;> simp only [builtinV] at h <;> try (simp at h; done)
    case len =>
      split at h
      · rename_i x t hx ht
        have he : ∀ y, ev e x = y → (args.map (ev e))[0]? = some y := fun y hy => by simp [hx, hy]
        split at h
        · rename_i s hu hs
          simp at h; obtain ⟨rfl, rfl, rfl⟩ := h
          simp [execOp, resolve, invoke, builtin, Builtin.len_, ht, hx, hs, run_underlying hu, goInt]
        · rename_i el a n c hu hs
          simp at h; obtain ⟨rfl, rfl, rfl⟩ := h
          simp [execOp, resolve, invoke, builtin, Builtin.len_, ht, hx, hs, run_underlying hu, goInt]
        · rename_i n el hu
          simp at h; obtain ⟨rfl, rfl, rfl⟩ := h
          simp [execOp, resolve, invoke, builtin, Builtin.len_, ht, hx, run_underlying hu, goInt]
        · rename_i k el m hu hs
          split at h
          · rename_i v ls
            simp at h; obtain ⟨rfl, rfl, rfl⟩ := h
            obtain ⟨n, rfl, ⟨rfl, rfl⟩ | ⟨r, es, c, rfl, hw, rfl⟩⟩ := hv
            · simp [execOp, resolve, invoke, builtin, Builtin.len_, ht, hx, hs, run_underlying hu, goInt]
            · have hg : (getObj r).run P w = .ok (.map es c) w := by simp [getObj, Sem.run, hw]
              simp [execOp, resolve, invoke, builtin, Builtin.len_, ht, hx, hs, run_underlying hu, goInt, hg]
          · simp at h
        · simp at h
      · simp at h
    case cap =>
      split at h
      · rename_i x t hx ht
        split at h
        · rename_i el a n c hu hs
          simp at h; obtain ⟨rfl, rfl, rfl⟩ := h
          simp [execOp, resolve, invoke, builtin, Builtin.cap_, ht, hx, hs, run_underlying hu, goInt]
        · simp at h
      · simp at h
    case max =>
      split at h
      · rename_i k x k' y hx
        simp at h; obtain ⟨rfl, rfl, rfl⟩ := h
        have hm : max x y = if y > x then y else x := by omega
        simp [execOp, resolve, invoke, builtin, Builtin.max_, hx, Builtin.max2, hm]
      · simp at h
    case min =>
      split at h
      · rename_i k x k' y hx
        simp at h; obtain ⟨rfl, rfl, rfl⟩ := h
        have hm : min x y = if y < x then y else x := by omega
        simp [execOp, resolve, invoke, builtin, Builtin.min_, hx, Builtin.min2, hm]
      · simp at h

def subsAt (H : Hints) : Option Tmp → Bool
  | some d => H.subs.any (Nat.beq d)
  | none => false
/-- An operation that leaves the world alone; where a hint says so, its value is told in other words. -/
def pureOp (P : Program) (w : World) (H : Hints) (e : Env) (ls : List Value) (o : Oper) : Option (Value × List Prop × List Value) :=
  match pureOp0 P w H e ls o with
  | some (v, vc, ls') => if subsAt H o.dst then (match ls' with | u :: ls'' => some (u, vc ++ [v = u], ls'') | [] => none) else some (v, vc, ls')
  | none => none
theorem run_pureOp {P : Program} {w : World} {H : Hints} {e : Env} {ls ls' : List Value} {o : Oper} {v : Value} {vc : List Prop}
    (h : pureOp P w H e ls o = some (v, vc, ls')) (hv : All vc) : (execOp (ev e) o).run P w = .ok (.value v) w := by
  unfold pureOp at h
  split at h
  · rename_i v0 vc0 ls0 h0
    split at h
    · split at h
      · simp at h
        obtain ⟨rfl, rfl, rfl⟩ := h
        have := All.append hv
        have he := this.2
        have hr := run_pureOp0 h0 this.1
        rw [← he]
        exact hr
      · simp at h
    · simp at h
      obtain ⟨rfl, rfl, rfl⟩ := h
      exact run_pureOp0 h0 hv
  · simp at h

end Go.Proofs.Ytdkgdidnknojlaa.K
namespace Go.Proofs.Ytdkgdidnknojlaa.K
open Go

/-- An operation as it stands, or passed over, by its guard (whose slot must hold 'true' or 'false'). -/
def guardB (ops : Array Oper) (N : Nat) (e : Env) (o : Oper) : Option Bool :=
  match o.guard with
  | none => some true
  | some (j, b) => match (ops[j]?).bind (·.dst) with
    | some t => if Nat.blt t N then match e t with
      | .bool true => some b
      | .bool false => some (!b)
      | .tuple _ => some false
      | _ => none else none
    | none => none

def runB (P : Program) (w : World) (H : Hints) (ops : Array Oper) (N : Nat) : List Oper → Env → List Value → Option (Env × List Prop)
  | [], e, _ => some (e, [])
  | o :: r, e, ls =>
    match guardB ops N e o with
    | some true => match pureOp P w H e ls { o with guard := none } with
      | some (v, vc, ls') => match runB P w H ops N r (put e o.dst v) ls' with
        | some (e', vc') => some (e', vc ++ vc')
        | none => none
      | none => none
    | some false => runB P w H ops N r (put e o.dst undef) ls
    | none => none

theorem opStep.pass2 {P : Program} {N : Nat} {ops : Array Oper} {Q : Post} {e : Env} {w : World} {o : Oper} {next : Env → World → Prop} {j t : Nat} {b : Bool} {vs : Array Value} (hg : o.guard = some (j, b)) (hj : (ops[j]?).bind (·.dst) = some t) (ht : Nat.blt t N = true) (hb : e t = .tuple vs)
    (h : next (put e o.dst undef) w) : opStep P N ops Q o next e w := by
  intro a ha hd
  have hlt : t < a.tmps.size := by rw [ha.size]; simpa [Nat.blt_eq] using ht
  have hy : a.tmps[t]? = some (.tuple vs) := by
    have := ha.get t
    rw [Array.getD_eq_getD_getElem?, Array.getElem?_eq_getElem hlt] at this
    rw [Array.getElem?_eq_getElem hlt, ← hb, ← this]; rfl
  have hw : Region.wanted o (yielded ops a.tmps) = false := by cases b <;> simp [Region.wanted, hg, yielded, hj, hy]
  rw [if_neg (by rw [hw]; exact Bool.false_ne_true)]
  exact ⟨_, ha.put _ _ hd, h⟩

theorem guard_step {P : Program} {N : Nat} {ops : Array Oper} {Q : Post} {o : Oper} {next : Env → World → Prop} {e : Env} {w : World} {b : Bool} (hg : guardB ops N e o = some b)
    (h : if b then opStep P N ops Q { o with guard := none } next e w else next (put e o.dst undef) w) : opStep P N ops Q o next e w := by
  unfold guardB at hg
  split at hg
  · rename_i hn
    simp at hg; subst hg
    have : ({ o with guard := none } : Oper) = o := by cases o; simp at hn; simp [hn]
    rw [this] at h; exact h
  · rename_i j c hgd
    split at hg
    · rename_i t ht
      split at hg
      · rename_i hN
        split at hg
        · rename_i hb
          simp at hg; subst hg
          cases c with
          | true => exact opStep.want hgd ht hN hb h
          | false => exact opStep.pass hgd ht hN (by simpa using hb) h
        · rename_i hb
          simp at hg; subst hg
          cases b with
          | false => exact opStep.pass hgd ht hN (by simpa using hb) h
          | true => exact opStep.want hgd ht hN hb h
        · rename_i hb
          simp at hg; subst hg
          exact opStep.pass2 hgd ht hN hb h
        · simp at hg
      · simp at hg
    · simp at hg

theorem runB_sound {P : Program} {w : World} {H : Hints} {ops : Array Oper} {N : Nat} {Q : Post} {r : List Oper} :
    ∀ {l : List Oper} {e e' : Env} {ls : List Value} {vc : List Prop}, runB P w H ops N l e ls = some (e', vc) → All vc → OPS P N ops Q r e' w → OPS P N ops Q (l ++ r) e w := by
  intro l
  induction l with
  | nil => intro e e' ls vc h _ hr; simp [runB] at h; obtain ⟨rfl, rfl⟩ := h; exact hr
  | cons o l ih =>
    intro e e' ls vc h hv hr
    unfold runB at h
    show opStep P N ops Q o (OPS P N ops Q (l ++ r)) e w
    split at h
    · rename_i hg
      refine guard_step hg ?_
      rw [if_pos rfl]
      split at h
      · rename_i v vc1 ls' hp
        split at h
        · rename_i e'' vc2 hrun
          simp at h; obtain ⟨rfl, rfl⟩ := h
          have hv' := All.append hv
          exact opStep.val rfl (run_pureOp hp hv'.1) (ih hrun hv'.2 hr)
        · simp at h
      · simp at h
    · rename_i hg
      refine guard_step hg ?_
      rw [if_neg (by simp)]
      exact ih h hv hr
    · simp at h

theorem OPS.want {P : Program} {N : Nat} {ops : Array Oper} {Q : Post} {o : Oper} {r : List Oper} {e : Env} {w : World} (hg : guardB ops N e o = some true)
    (h : OPS P N ops Q ({ o with guard := none } :: r) e w) : OPS P N ops Q (o :: r) e w :=
  guard_step hg (by rw [if_pos rfl]; exact h)

def mk (base : Env) : List Nat → List Value → Env
  | d :: ds, v :: vs => upd (mk base ds vs) d v
  | _, _ => base
theorem mk_self {e : Env} : ∀ {ds : List Nat} {vs : List Value}, ds.map e = vs → mk e ds vs = e
  | [], [], _ => rfl
  | [], _ :: _, h => by simp at h
  | _ :: _, [], h => by simp at h
  | d :: ds, v :: vs, h => by
    simp at h
    simp only [mk]
    rw [mk_self h.2]
    exact upd_self h.1

/-- Proofs in a row: what they prove need not be written. -/
inductive Prf : List Prop → Type
  | nil : Prf []
  | cons {p : Prop} {l : List Prop} (h : p) (r : Prf l) : Prf (p :: l)
theorem Prf.all : ∀ {l : List Prop}, Prf l → All l
  | [], _ => trivial
  | [_], .cons h _ => h
  | _ :: _ :: _, .cons h r => ⟨h, r.all⟩

section
variable {P : Program} {N : Nat} {ops : Array Oper} {Q : Post} {e : Env} {w : World}

def batch (P : Program) (w : World) (H : Hints) (ops : Array Oper) (N : Nat) (l : List Oper) (e : Env) (ls : List Value) (live : List Nat) : Option (List Value × List Prop) :=
  match runB P w H ops N l e ls with
  | some (e', vc) => some (live.map e', vc)
  | none => none

/-- The first k operations of what is left, at once. -/
theorem OPS.batch {l : List Oper} (k : Nat) (H : Hints) (ls : List Value) (live : List Nat) (vs : List Value) {vc : List Prop} (pf : Prf vc)
    (h : K.batch P w H ops N (l.take k) e ls live = some (vs, vc)) (next : ∀ base, OPS P N ops Q (l.drop k) (mk base live vs) w) : OPS P N ops Q l e w := by
  unfold K.batch at h
  split at h
  · rename_i e' vc' hr
    simp at h
    obtain ⟨hvs, rfl⟩ := h
    have := runB_sound (P := P) (Q := Q) (r := l.drop k) hr pf.all (by have := next e'; rwa [mk_self hvs] at this)
    rwa [List.take_append_drop] at this
  · simp at h

theorem OPS.re {l : List Oper} {base : Env} {ks : List Nat} {vs : List Value} (vs' : List Value) (h : vs = vs') (k : OPS P N ops Q l (mk base ks vs') w) : OPS P N ops Q l (mk base ks vs) w := by rw [h]; exact k
/-- A whole region. -/
theorem WP.pure {id : Nat} (H : Hints) (ls : List Value) (live : List Nat) (vs : List Value) {vc : List Prop} (pf : Prf vc)
    (h : (ops.all (fun o => dstOk N o.dst) && true, K.batch P w H ops N ops.toList e ls live) = (true, some (vs, vc))) (next : ∀ base, Q .normal (mk base live vs) w) : WP P N (.region id ops false) Q e w := by
  simp only [Bool.and_true, Prod.mk.injEq] at h
  obtain ⟨hN, h⟩ := h
  refine WP.region ops.toList rfl (by rw [Array.all_toList]; exact hN) ?_
  refine OPS.batch ops.size H ls live vs pf ?_ ?_
  · rw [show ops.toList.take ops.size = ops.toList from List.take_of_length_le (by simp)]; exact h
  · intro base
    rw [show ops.toList.drop ops.size = [] from List.drop_of_length_le (by simp)]
    exact next base
end

end Go.Proofs.Ytdkgdidnknojlaa.K
namespace Go.Proofs.Ytdkgdidnknojlaa.K
open Go Go.RowKit

/-- w' is w but for the blocks in M and new ones. -/
structure Fram (M : Nat → Prop) (w w' : World) : Prop where
  os : w'.os = w.os
  tape : w'.tape = w.tape
  output : w'.output = w.output
  size : w.heap.size ≤ w'.heap.size
  block : ∀ k, k < w.heap.size → ¬ M k → w'.heap[k]? = w.heap[k]?
def Non : Nat → Prop := fun _ => False

theorem Fram.refl (M : Nat → Prop) (w : World) : Fram M w w := ⟨rfl, rfl, rfl, Nat.le_refl _, fun _ _ _ => rfl⟩
theorem Fram.trans {M : Nat → Prop} {a b c : World} (h : Fram M a b) (k : Fram M b c) : Fram M a c :=
  ⟨k.os.trans h.os, k.tape.trans h.tape, k.output.trans h.output, Nat.le_trans h.size k.size, fun i hi hm => (k.block i (Nat.lt_of_lt_of_le hi h.size) hm).trans (h.block i hi hm)⟩
theorem Fram.mono {M M' : Nat → Prop} {w w' : World} (h : Fram M w w') (hm : ∀ k, k < w.heap.size → M k → M' k) : Fram M' w w' :=
  ⟨h.os, h.tape, h.output, h.size, fun k hk hn => h.block k hk (fun hM => hn (hm k hk hM))⟩
theorem Fram.below {w w' : World} (h : Fram Non w w') : Below w.heap.size w w' :=
  ⟨h.os, h.tape, h.output, h.size, fun k hk => h.block k hk id⟩
theorem Fram.of_grown {w w' : World} {row : Option Nat} (h : w.grownBy w' row) : Fram (fun k => row = some k) w w' :=
  ⟨h.os, h.tape, h.output, h.size, fun k hk hm => h.block k hk (fun e => hm e.symm)⟩
theorem Fram.drew (M : Nat → Prop) (w : World) : Fram M w w.drew := ⟨rfl, rfl, rfl, Nat.le_refl _, fun _ _ _ => rfl⟩
theorem Fram.alloc (M : Nat → Prop) (w : World) (o : Obj) : Fram M w (w.alloc o) := ⟨rfl, rfl, rfl, by simp, fun k hk _ => Below.heap_alloc w o k hk⟩

/-- A thing in memory: the blocks that it stands in, and what is said of them. -/
structure Res where
  foot : Nat → Prop
  holds : World → Prop
  stable : ∀ {w w' : World}, (∀ b, foot b → w'.heap[b]? = w.heap[b]?) → holds w → holds w'

def Res.obj (b : Nat) (o : Obj) : Res := ⟨fun k => k = b, fun w => w.heap[b]? = some o, fun h hw => (h _ rfl).trans hw⟩
abbrev Res.row (b : Nat) (c : List Value) (t : TypeId) : Res := Res.obj b (.cells c.toArray t (0, 0))
def Res.own (e : TypeId) (size : Nat) (v : Value) (n : Nat) (xs : List Value) : Res :=
  ⟨fun k => v.ownBlock = some k, fun w => w.ownsRow 0 e size v n xs, by
    rintro w w' h ⟨h1, h2⟩
    refine ⟨h1, ?_⟩
    rcases h2 with h2 | ⟨g, cap, cur, hv, hg, hh, r⟩
    · exact .inl h2
    · exact .inr ⟨g, cap, cur, hv, hg, by rw [h g (by rw [hv]; rfl)]; exact hh, r⟩⟩
/-- The state of a call that began in w0 and may write M: its things, each apart from the others, all new or in M. -/
structure Hp (w0 : World) (M : Nat → Prop) (L : List Res) (w : World) : Prop where
  fr : Fram M w0 w
  holds : ∀ r ∈ L, r.holds w
  range : ∀ r ∈ L, ∀ b, r.foot b → b < w.heap.size ∧ (w0.heap.size ≤ b ∨ M b)
  apart : L.Pairwise fun r s => ∀ b, r.foot b → ¬ s.foot b

section
variable {w0 w w' : World} {M : Nat → Prop} {L : List Res}

theorem Hp.init (w : World) : Hp w Non [] w := ⟨Fram.refl _ _, by simp, by simp, List.Pairwise.nil⟩
theorem Hp.below (h : Hp w0 Non L w) : Below w0.heap.size w0 w := h.fr.below
theorem Hp.sub {L' : List Res} (h : Hp w0 M L w) (hs : L'.Sublist L) : Hp w0 M L' w :=
  ⟨h.fr, fun r hr => h.holds r (hs.subset hr), fun r hr => h.range r (hs.subset hr), h.apart.sublist hs⟩
theorem Hp.nil (h : Hp w0 M L w) : Hp w0 M [] w := h.sub (List.nil_sublist _)
/-- A step that writes nothing that stands. -/
theorem Hp.step (h : Hp w0 M L w) (hf : Fram Non w w') : Hp w0 M L w' := by
  refine ⟨h.fr.trans (hf.mono fun k hk hm => hm.elim), fun r hr => r.stable (fun b hb => hf.block b (h.range r hr b hb).1 id) (h.holds r hr), fun r hr b hb => ?_, h.apart⟩
  obtain ⟨h1, h2⟩ := h.range r hr b hb
  exact ⟨Nat.lt_of_lt_of_le h1 hf.size, h2⟩
theorem Hp.drew (h : Hp w0 M L w) : Hp w0 M L w.drew := h.step (Fram.drew _ _)
/-- A step that makes something new. -/
theorem Hp.new (h : Hp w0 M L w) (hf : Fram Non w w') (r : Res) (hr : r.holds w') (hn : ∀ b, r.foot b → w.heap.size ≤ b ∧ b < w'.heap.size) : Hp w0 M (r :: L) w' := by
  have h' := h.step hf
  refine ⟨h'.fr, ?_, ?_, ?_⟩
  · intro s hs
    rcases List.mem_cons.1 hs with rfl | hs
    · exact hr
    · exact h'.holds s hs
  · intro s hs b hb
    rcases List.mem_cons.1 hs with rfl | hs
    · obtain ⟨h1, h2⟩ := hn b hb
      exact ⟨h2, .inl (Nat.le_trans h.fr.size h1)⟩
    · exact h'.range s hs b hb
  · refine List.Pairwise.cons ?_ h.apart
    intro s hs b hb hb'
    have := (h.range s hs b hb').1
    have := (hn b hb).1
    omega
/-- A step that turns one thing into another: what it writes is that thing's, or new. -/
theorem Hp.mod {A B : List Res} {r : Res} (h : Hp w0 M (A ++ r :: B) w) (hf : Fram r.foot w w') (r' : Res) (hr : r'.holds w') (hn : ∀ b, r'.foot b → b < w'.heap.size ∧ (r.foot b ∨ w.heap.size ≤ b)) :
    Hp w0 M (A ++ r' :: B) w' := by
  have hap := h.apart
  rw [List.pairwise_append, List.pairwise_cons] at hap
  obtain ⟨hA, ⟨hrB, hB⟩, hAB⟩ := hap
  have hmr : r ∈ A ++ r :: B := by simp
  have hother : ∀ s ∈ A ++ r :: B, (∀ b, s.foot b → ¬ r.foot b) → s.holds w' := fun s hs hne =>
    s.stable (fun b hb => hf.block b (h.range s hs b hb).1 (hne b hb)) (h.holds s hs)
  refine ⟨?_, ?_, ?_, ?_⟩
  · refine ⟨hf.os.trans h.fr.os, hf.tape.trans h.fr.tape, hf.output.trans h.fr.output, Nat.le_trans h.fr.size hf.size, fun k hk hm => ?_⟩
    have hlt := Nat.lt_of_lt_of_le hk h.fr.size
    refine (hf.block k hlt ?_).trans (h.fr.block k hk hm)
    intro hfk
    rcases (h.range r hmr k hfk).2 with h1 | h1
    · omega
    · exact hm h1
  · intro s hs
    simp at hs
    rcases hs with hs | rfl | hs
    · exact hother s (by simp [hs]) (fun b hb hb' => hAB s hs r (by simp) b hb hb')
    · exact hr
    · exact hother s (by simp [hs]) (fun b hb hb' => hrB s hs b hb' hb)
  · intro s hs b hb
    simp at hs
    rcases hs with hs | rfl | hs
    · have := h.range s (by simp [hs]) b hb
      exact ⟨Nat.lt_of_lt_of_le this.1 hf.size, this.2⟩
    · obtain ⟨h1, h2⟩ := hn b hb
      refine ⟨h1, ?_⟩
      rcases h2 with h2 | h2
      · exact (h.range r hmr b h2).2
      · exact .inl (Nat.le_trans h.fr.size h2)
    · have := h.range s (by simp [hs]) b hb
      exact ⟨Nat.lt_of_lt_of_le this.1 hf.size, this.2⟩
  · rw [List.pairwise_append, List.pairwise_cons]
    refine ⟨hA, ⟨?_, hB⟩, ?_⟩
    · intro s hs b hb hb'
      have hlt := (h.range s (by simp [hs]) b hb').1
      rcases (hn b hb).2 with h2 | h2
      · exact hrB s hs b h2 hb'
      · omega
    · intro s hs t ht b hb hb'
      rcases List.mem_cons.1 ht with rfl | ht
      · have hlt := (h.range s (by simp [hs]) b hb).1
        rcases (hn b hb').2 with h2 | h2
        · exact hAB s hs r (by simp) b hb h2
        · omega
      · exact hAB s hs t (by simp [ht]) b hb hb'
/-- The same memory, told otherwise. -/
theorem Hp.turn {A B : List Res} {r : Res} (h : Hp w0 M (A ++ r :: B) w) (r' : Res) (hr : r.holds w → r'.holds w) (hn : ∀ b, r'.foot b → r.foot b) : Hp w0 M (A ++ r' :: B) w :=
  h.mod (Fram.refl _ _) r' (hr (h.holds r (by simp))) fun b hb => ⟨(h.range r (by simp) b (hn b hb)).1, .inl (hn b hb)⟩
theorem Hp.get {A B : List Res} {r : Res} (h : Hp w0 M (A ++ r :: B) w) : r.holds w := h.holds r (by simp)
theorem Hp.lt {A B : List Res} {r : Res} (h : Hp w0 M (A ++ r :: B) w) (b : Nat) (hb : r.foot b) : b < w.heap.size := (h.range r (by simp) b hb).1
/-- The call's own part of memory for a callee that may write one thing. -/
theorem Hp.alloc (h : Hp w0 M L w) (o : Obj) : Hp w0 M (Res.obj w.heap.size o :: L) (w.alloc o) :=
  h.new (Fram.alloc _ _ _) _ (heap_alloc_new w o) fun b hb => by
    have : b = w.heap.size := hb
    subst this; simp
end

/-! ### reading -/
/-- The cells xs lie from a on. -/
def Rd (w : World) (a : Option Addr) (xs : List Value) : Prop := ∀ j u, xs[j]? = some u → w.cell? ((adr a).add j) = some u
theorem Rd.keep {w w' : World} {a : Option Addr} {xs : List Value} (h : Rd w a xs) (hb : (adr a).block < w.heap.size → w'.heap[(adr a).block]? = w.heap[(adr a).block]?) : Rd w' a xs := by
  intro j u hu
  have h1 := h j u hu
  have hblk : ((adr a).add j).block = (adr a).block := by unfold Addr.add; split <;> rfl
  have hlt : (adr a).block < w.heap.size := by
    rw [← hblk]
    unfold World.cell? at h1
    split at h1
    · rename_i heq
      exact (Array.getElem?_eq_some_iff.1 heq).1
    · simp at h1
  rw [show w'.cell? ((adr a).add j) = w.cell? ((adr a).add j) from World.cell?_of_block (by rw [hblk]; exact hb hlt)]
  exact h1
theorem Rd.fram {w w' : World} {a : Option Addr} {xs : List Value} (h : Rd w a xs) (hf : Fram Non w w') : Rd w' a xs := h.keep fun hlt => hf.block _ hlt id
theorem Rd.at {w0 w : World} {L : List Res} {a : Option Addr} {xs : List Value} (h : Rd w0 a xs) (hp : Hp w0 Non L w) : Rd w a xs := h.fram hp.fr
theorem Rd.own {w : World} {e : TypeId} {size n c : Nat} {a : Option Addr} {xs : List Value} (h : (Res.own e size (.slice a n c) n xs).holds w) : Rd w a xs := by
  intro j u hu
  rcases h.2 with ⟨h0, _⟩ | ⟨g, cap, cur, hv, hg, hh, r⟩
  · simp at h0
    have : xs = [] := List.eq_nil_of_length_eq_zero (by have := h.1; rw [h0.2.1] at this; simpa using this)
    subst this; simp at hu
  · simp at hv
    obtain ⟨rfl, _⟩ := hv
    exact World.ownsRow.cells (v := .slice (some ⟨g, 0, none⟩) n c) h rfl j u hu

theorem Addr.add_add (a : Addr) (i j : Nat) : (a.add i).add j = a.add (i + j) := by
  unfold Addr.add
  by_cases hi : i = 0 <;> by_cases hj : j = 0 <;> simp [hi, hj, Nat.add_assoc]

/-- A variable of one cell. -/
theorem Ld.cell {P : Program} {w : World} {t : TypeId} {a : Addr} {v : Value} {d : TypeDesc} (hd : P.underlying t = some d) (hn : (match d with | .struct _ | .array _ _ => false | _ => true) = true) (h : w.cell? a = some v) : Ld P w t a v := by
  unfold Ld loadVar isAgg
  cases d <;> simp at hn <;> simp [run_underlying hd, h]
/-- A variable of several cells. -/
theorem Ld.agg {P : Program} {w : World} {t : TypeId} {a : Addr} {cs : List Value} {d : TypeDesc} {i : TypeInfo} (hd : P.underlying t = some d) (hn : (match d with | .struct _ | .array _ _ => true | _ => false) = true)
    (hi : P.info? t = some i) (hl : cs.length = i.size) (h : ∀ j u, cs[j]? = some u → w.cell? (a.add j) = some u) : Ld P w t a (.agg cs.toArray) := by
  unfold Ld loadVar isAgg
  have hc := run_loadCells_list (P := P) w a cs h
  rw [hl] at hc
  cases d <;> simp at hn <;> simp [run_underlying hd, sizeOf, typeInfo, hi, hc]

def isAggB (P : Program) (t : TypeId) : Option Bool := match P.underlying t with
  | some (.struct _) | some (.array _ _) => some true
  | some _ => some false
  | none => none
theorem Ld.one {P : Program} {w : World} {t : TypeId} {a : Addr} {v : Value} (hd : isAggB P t = some false) (h : w.cell? a = some v) : Ld P w t a v := by
  unfold isAggB at hd
  cases hu : P.underlying t with
  | none => simp [hu] at hd
  | some d => cases d <;> simp [hu] at hd <;> exact Ld.cell hu rfl h
theorem Ld.many {P : Program} {w : World} {t : TypeId} {a : Addr} {cs : List Value} (hd : (isAggB P t, (P.info? t).map (·.size)) = (some true, some cs.length))
    (h : ∀ j u, cs[j]? = some u → w.cell? (a.add j) = some u) : Ld P w t a (.agg cs.toArray) := by
  simp only [Prod.mk.injEq] at hd
  obtain ⟨hd, hs⟩ := hd
  cases hi : P.info? t with
  | none => simp [hi] at hs
  | some i =>
    simp [hi] at hs
    unfold isAggB at hd
    cases hu : P.underlying t with
    | none => simp [hu] at hd
    | some d => cases d <;> simp [hu] at hd <;> exact Ld.agg hu rfl hi hs.symm h

theorem cell_row {w : World} {b : Nat} {c : List Value} {t : TypeId} (h : (Res.row b c t).holds w) (j : Nat) (u : Value) (hu : c[j]? = some u) : w.cell? ⟨b, j, none⟩ = some u := by
  have h' : w.heap[b]? = some (.cells c.toArray t (0, 0)) := h
  simp [World.cell?, h', hu]
theorem add_mk (b o j : Nat) : (⟨b, o, none⟩ : Addr).add j = ⟨b, o + j, none⟩ := by unfold Addr.add; split <;> simp_all

/-- A cell, or some, of a row that is known whole. -/
theorem Ld.row1 {P : Program} {w : World} {t T : TypeId} {b o : Nat} {c : List Value} {v : Value} (h : (Res.row b c T).holds w) (hc : (isAggB P t, c[o]?) = (some false, some v)) : Ld P w t ⟨b, o, none⟩ v := by
  simp only [Prod.mk.injEq] at hc
  exact Ld.one hc.1 (cell_row h o v hc.2)
theorem Ld.rowN {P : Program} {w : World} {t T : TypeId} {b o : Nat} {c : List Value} {cs : List Value} (h : (Res.row b c T).holds w) (hc : (isAggB P t, (P.info? t).map (·.size), (c.drop o).take cs.length) = (some true, some cs.length, cs)) :
    Ld P w t ⟨b, o, none⟩ (.agg cs.toArray) := by
  simp only [Prod.mk.injEq] at hc
  refine Ld.many (by rw [hc.1, hc.2.1]) fun j u hu => ?_
  rw [add_mk]
  refine cell_row h _ _ ?_
  rw [← hc.2.2, List.getElem?_take] at hu
  split at hu
  · rw [List.getElem?_drop] at hu; exact hu
  · simp at hu

/-! ### typed rows -/
theorem flat_get {α : Type} {f : α → List Value} {sz : Nat} : ∀ {l : List α} (_ : ∀ x ∈ l, (f x).length = sz) {i : Nat} {x : α}, l[i]? = some x → ∀ {j : Nat} {u : Value}, (f x)[j]? = some u → (l.flatMap f)[i * sz + j]? = some u
  | [], _, i, x, h, _, _, _ => by simp at h
  | y :: l, hl, i, x, h, j, u, hu => by
    have hy : (f y).length = sz := hl y (by simp)
    rw [List.flatMap_cons]
    cases i with
    | zero =>
      simp at h; subst h
      have hj : j < (f y).length := (List.getElem?_eq_some_iff.1 hu).1
      rw [Nat.zero_mul, Nat.zero_add, List.getElem?_append_left hj]; exact hu
    | succ i =>
      simp at h
      rw [List.getElem?_append_right (by rw [hy, Nat.succ_mul]; omega), hy, show (i + 1) * sz + j - sz = i * sz + j from by rw [Nat.succ_mul]; omega]
      exact flat_get (fun z hz => hl z (by simp [hz])) h hu
theorem Rd.elem {α : Type} {f : α → List Value} {w : World} {a : Option Addr} {l : List α} (h : Rd w a (l.flatMap f)) (sz : Nat) (hl : ∀ x, (f x).length = sz) {i : Nat} {x : α} (hx : l[i]? = some x) :
    ∀ j u, (f x)[j]? = some u → w.cell? (((adr a).add (i * sz)).add j) = some u := by
  intro j u hu
  rw [Addr.add_add]
  exact h _ _ (flat_get (fun y _ => hl y) hx hu)

end Go.Proofs.Ytdkgdidnknojlaa.K
namespace Go.Proofs.Ytdkgdidnknojlaa.K
open Go Go.RowKit

section
variable {P : Program} {N : Nat} {ops : Array Oper} {Q : Post} {next : Env → World → Prop} {e : Env} {w w0 : World} {M : Nat → Prop} {L : List Res} {ty : TypeId} {pos : String} {af : Array Edge} {d : Nat}

theorem OPS.nil (h : Q .normal e w) : OPS P N ops Q [] e w := h
theorem OPS.cons {o : Oper} {r : List Oper} (h : opStep P N ops Q o (OPS P N ops Q r) e w) : OPS P N ops Q (o :: r) e w := h

/-- The zero value of a type, as cells. -/
def zeroC (P : Program) (t : TypeId) : Option (List Value) := ((P.info? t).bind (·.zero)).map fun z => z.cells.toList

theorem opStep.alloc {T : TypeId} (hp : Hp w0 M L w) (c : List Value) (hz : zeroC P T = some c)
    (h : ∀ b w', Hp w0 M (Res.row b c T :: L) w' → next (upd e d (.pointer (some ⟨b, 0, none⟩))) w') :
    opStep P N ops Q ⟨some d, .alloc T, ty, pos, af, none⟩ next e w := by
  unfold zeroC at hz
  cases hi : P.info? T with
  | none => simp [hi] at hz
  | some i =>
    cases hzz : i.zero with
    | none => simp [hi, hzz] at hz
    | some z =>
      simp [hi, hzz] at hz
      have hz' : (zeroValue T).run P w = .ok z w := by simp [zeroValue, typeInfo, hi, hzz]
      refine opStep.val (v := .pointer (some ⟨w.heap.size, 0, none⟩)) (w' := w.alloc (.cells c.toArray T (0, 0))) rfl ?_ (h _ _ (hp.alloc _))
      simp [execOp, Instr.alloc, hz', newVar, newRow, ← hz]

theorem opStep.box {T : TypeId} {x : Operand} (hp : Hp w0 M L w) (c : List Value) (hc : (ev e x).cells.toList = c)
    (h : ∀ b w', Hp w0 M (Res.row b c T :: L) w' → next (upd e d (.pointer (some ⟨b, 0, none⟩))) w') :
    opStep P N ops Q ⟨some d, .box T x, ty, pos, af, none⟩ next e w := by
  refine opStep.val (v := .pointer (some ⟨w.heap.size, 0, none⟩)) (w' := w.alloc (.cells c.toArray T (0, 0))) rfl ?_ (h _ _ (hp.alloc _))
  simp [execOp, Instr.box, newVar, newRow, ← hc]

/-- Cells written over. -/
def ow (c : List Value) (o : Nat) (vs : List Value) : List Value := c.take o ++ vs ++ c.drop (o + vs.length)

theorem run_storeCells_at (g : Nat) (t : TypeId) (o : Nat) : ∀ (vs : List Value) (i : Nat) (cur : List Value) (w : World), w.heap[g]? = some (.cells cur.toArray t (0, 0)) → o + i + vs.length ≤ cur.length → (∀ v ∈ vs, v.oneCell' = true) →
    (storeCells ⟨g, o, none⟩ vs i).run P w = .ok () (w.setRow g (ow cur (o + i) vs).toArray)
  | [], i, cur, w, hg, hl, _ => by
    have hs : w.setRow g (ow cur (o + i) []).toArray = w := by
      have : ow cur (o + i) [] = cur := by simp [ow]
      rw [this]
      have hlt : g < w.heap.size := (Array.getElem?_eq_some_iff.1 hg).1
      have hv : w.heap[g] = .cells cur.toArray t (0, 0) := (Array.getElem?_eq_some_iff.1 hg).2
      have hh : (w.setRow g cur.toArray).heap = w.heap := by
        unfold World.setRow
        apply Array.ext
        · simp
        · intro k h1 h2
          simp only [Array.getElem_modify]
          split
          · rename_i hk; subst hk; simp [hv]
          · rfl
      show { w with heap := (w.setRow g cur.toArray).heap } = w
      rw [hh]
    simp only [storeCells, Sem.run_pure, hs]
  | v :: rest, i, cur, w, hg, hl, h1 => by
    have hadd : (⟨g, o, none⟩ : Addr).add i = ⟨g, o + i, none⟩ := add_mk g o i
    have hlt : o + i < cur.length := by simp at hl; omega
    have hcell : w.cell? ⟨g, o + i, none⟩ = some cur[o + i] := by simp [World.cell?, hg, List.getElem?_eq_getElem hlt]
    have hfz : w.frozen? ⟨g, o + i, none⟩ = false := by simp [World.frozen?, hg]
    have hrow := setCell_eq_setRow w g (o + i) cur.toArray t (0, 0) v hg
    have hset : cur.toArray.setIfInBounds (o + i) v = (cur.set (o + i) v).toArray := by simp
    have hnew := setRow_heap w g cur.toArray (cur.set (o + i) v).toArray t (0, 0) hg
    have ih := run_storeCells_at g t o rest (i + 1) (cur.set (o + i) v) (w.setRow g (cur.set (o + i) v).toArray) hnew (by simp at hl ⊢; omega) (fun u hu => h1 u (by simp [hu]))
    simp only [storeCells, Sem.run_bind, hadd, run_store P w _ v .plain (h1 v (by simp)), hcell, hfz, Bool.false_eq_true, if_false, Result.andThen_ok, hrow, hset, ih, setRow_setRow]
    congr 3
    simp only [ow]
    rw [List.take_set, List.drop_set]
    have e1 : (cur.take (o + (i + 1))).set (o + i) v = cur.take (o + i) ++ [v] := by
      have hlen : (cur.take (o + i)).length = o + i := by rw [List.length_take]; omega
      rw [show o + (i + 1) = (o + i) + 1 from rfl, List.take_succ_eq_append_getElem hlt, List.set_append_right _ _ (by omega), hlen, Nat.sub_self]
      rfl
    have e2 : o + i < o + (i + 1) + rest.length := by omega
    rw [if_pos e2, e1]
    simp [List.length_cons, show o + i + (rest.length + 1) = o + (i + 1) + rest.length from by omega]

theorem setRow_fram (w : World) (g : Nat) (cs : Array Value) : Fram (fun k => k = g) w (w.setRow g cs) :=
  ⟨rfl, rfl, rfl, by simp, fun k _ hk => setRow_other w g k cs hk⟩

/-- A store into a row that is known whole. -/
theorem opStep.store {T t : TypeId} {x y : Operand} {b o : Nat} {c : List Value} {A B : List Res} (hp : Hp w0 M (A ++ Res.row b c t :: B) w) (hx : ev e x = .pointer (some ⟨b, o, none⟩)) (vs c' : List Value)
    (hc : ((ev e y).cells.toList, (P.info? T).map (·.size), decide (o + vs.length ≤ c.length), ow c o vs, vs.all (·.oneCell')) = (vs, some vs.length, true, c', true))
    (h : ∀ w', Hp w0 M (A ++ Res.row b c' t :: B) w' → next e w') :
    opStep P N ops Q ⟨none, .store T x y, ty, pos, af, none⟩ next e w := by
  simp only [Prod.mk.injEq] at hc
  obtain ⟨hv, hsz, hle, how, h1⟩ := hc
  cases hi : P.info? T with
  | none => simp [hi] at hsz
  | some i =>
    simp [hi] at hsz
    have hg : w.heap[b]? = some (.cells c.toArray t (0, 0)) := hp.get
    have hlt : b < w.heap.size := (Array.getElem?_eq_some_iff.1 hg).1
    have hrun := run_storeCells_at (P := P) b t o vs 0 c w hg (by simpa using of_decide_eq_true hle) (fun v hv => List.all_eq_true.1 h1 v hv)
    rw [Nat.add_zero, how] at hrun
    refine opStep.skip (w' := w.setRow b c'.toArray) rfl ?_ (h _ ?_)
    · have hs2 : (ev e y).cells.size = i.size := by rw [hsz, ← hv]; simp
      simp [execOp, Instr.storeAt, Instr.sureAddr, hx, storeVar, sizeOf, typeInfo, hi, hs2, hv, hrun]
    · refine hp.mod (setRow_fram w b _) (Res.row b c' t) (setRow_heap w b _ _ t _ hg) fun k hk => ⟨?_, .inl hk⟩
      have : k = b := hk
      subst this; simpa using hlt

/-- A slice that is written out. -/
def builtSlice (P : Program) (t : TypeId) (len : Nat) (parts : List (Nat × Value)) : Option (TypeId × List Value) :=
  match P.underlying t with
  | some (.slice el) => match P.info? el with
    | some i => match i.zero with
      | some z => if len * i.size > 2 ^ 24 || len * i.size = 0 then none else
        (Instr.fill (fun j => some (j * i.size, i.size)) ((Array.range (len * i.size)).map (z.cells[· % z.cells.size]!)) parts).map fun cs => (el, cs.toList)
      | none => none
    | none => none
  | _ => none
theorem opStep.buildSlice {T E : TypeId} {len : Nat} {parts : Array (Nat × Operand)} (hp : Hp w0 M L w) (c : List Value) (hc : builtSlice P T len (parts.toList.map fun x => (x.1, ev e x.2)) = some (E, c))
    (h : ∀ b w', Hp w0 M (Res.row b c E :: L) w' → next (upd e d (.slice (some ⟨b, 0, none⟩) len len)) w') :
    opStep P N ops Q ⟨some d, .buildSlice T len parts, ty, pos, af, none⟩ next e w := by
  unfold builtSlice at hc
  split at hc
  · rename_i el hu
    split at hc
    · rename_i i hi
      split at hc
      · rename_i z hz
        split at hc
        · simp at hc
        · rename_i hsz
          simp at hsz hc
          obtain ⟨cs, hcs, rfl, rfl⟩ := hc
          have hz' : (zeroValue el).run P w = .ok z w := by simp [zeroValue, typeInfo, hi, hz]
          refine opStep.val (v := .slice (some ⟨w.heap.size, 0, none⟩) len len) (w' := w.alloc (.cells cs.toList.toArray el (0, 0))) rfl ?_ (h _ _ (hp.alloc _))
          have hpm : (parts.map fun (x : Nat × Operand) => (x.1, ev e x.2)).toList = parts.toList.map fun x => (x.1, ev e x.2) := by simp
          have h0 : ¬ (len * i.size = 0) := by have := hsz.2; intro hh; exact (by simp_all)
          have h24 : ¬ (len * i.size > 2 ^ 24) := by omega
          unfold execOp
          simp only [Instr.buildSlice, Sem.run_bind, run_underlying hu, Result.andThen_ok, sizeOf, typeInfo, run_program, hi, Sem.run_pure, if_neg h0, if_neg h24, hz', hpm, hcs, newRow, run_newObj]
          simp
      · simp at hc
    · simp at hc
  · simp at hc

/-- A map that is made. -/
theorem opStep.makeMap {T : TypeId} (hp : Hp w0 M L w)
    (h : ∀ b w', Hp w0 M (Res.obj b (.map #[] 0) :: L) w' → next (upd e d (.map (some b))) w') :
    opStep P N ops Q ⟨some d, .makeMap T none, ty, pos, af, none⟩ next e w := by
  refine opStep.val (v := .map (some w.heap.size)) (w' := w.alloc (.map #[] 0)) rfl ?_ (h _ _ (hp.alloc _))
  simp [execOp, Instr.makeMap]

/-- A call of a Go function by its number. -/
theorem callFunc_enter {P : Program} {w : World} {f : FuncId} {fn : Func} {args : Array Value} (hf : P.funcs[f]? = some fn) (hb : fn.body.isNone = false) (hn : (fn.name == "runtime.NumGoroutine") = false) :
    (callFunc f args).run P w = .ok (.enter f args) w := by
  simp only [callFunc, Sem.run_bind, run_program, Result.andThen_ok, hf, hn, hb, Bool.false_eq_true, if_false, Sem.run_pure]
def callOk (P : Program) (f : FuncId) : Bool := match P.funcs[f]? with
  | some fn => !fn.body.isNone && !(fn.name == "runtime.NumGoroutine")
  | none => false
theorem opStep.call {f : FuncId} {args : Array Operand} {ts : Array TypeId} {R : Ending → World → Prop} (dst : Option Tmp) (vs : List Value) (hok : (callOk P f, args.toList.map (ev e)) = (true, vs)) (hc : Calls P f vs.toArray w R)
    (h : ∀ x w', R x w' → ∃ v, x = .returned v ∧ next (put e dst v) w') :
    opStep P N ops Q ⟨dst, .call ⟨.value (.func f), args, ts⟩, ty, pos, af, none⟩ next e w := by
  simp only [Prod.mk.injEq] at hok
  obtain ⟨hok, hvs⟩ := hok
  unfold callOk at hok
  split at hok
  · rename_i fn hf
    simp at hok
    refine opStep.enter (w' := w) (f := f) (args := vs.toArray) rfl ?_ hc h
    have hm : args.map (ev e) = vs.toArray := by rw [← hvs]; apply Array.ext'; simp
    have hce := callFunc_enter (P := P) (w := w) (args := vs.toArray) hf (by simpa using hok.1) (by simpa using hok.2)
    simp [execOp, resolve, ev, Deferred.ofValue, hm, invoke, hce]
  · simp at hok
/-- A call of a function value: 'func f' with what it has captured. -/
theorem opStep.callV {f : FuncId} {x : Operand} {cap : Array Value} {args : Array Operand} {ts : Array TypeId} {R : Ending → World → Prop} (dst : Option Tmp) (vs : List Value) (hx : ev e x = .func (.func f) #[] cap)
    (hok : (callOk P f, args.toList.map (ev e) ++ cap.toList) = (true, vs)) (hc : Calls P f vs.toArray w R)
    (h : ∀ x w', R x w' → ∃ v, x = .returned v ∧ next (put e dst v) w') :
    opStep P N ops Q ⟨dst, .call ⟨.value x, args, ts⟩, ty, pos, af, none⟩ next e w := by
  simp only [Prod.mk.injEq] at hok
  obtain ⟨hok, hvs⟩ := hok
  unfold callOk at hok
  split at hok
  · rename_i fn hf
    simp at hok
    refine opStep.enter (w' := w) (f := f) (args := vs.toArray) rfl ?_ hc h
    have hm : args.map (ev e) ++ cap = vs.toArray := by rw [← hvs]; apply Array.ext'; simp
    have hce := callFunc_enter (P := P) (w := w) (args := vs.toArray) hf (by simpa using hok.1) (by simpa using hok.2)
    simp only [execOp, resolve, hx, Deferred.ofValue, Sem.run_bind]
    simp [invoke, hm, hce]
  · simp at hok

def appInfo (P : Program) (T : TypeId) : Option (TypeId × Nat × Nat) := match P.underlying T with
  | some (.slice el) => match P.info? el with
    | some i => match i.zero with
      | some z => if z.cells.size = i.size then some (el, i.size, i.bytes) else none
      | none => none
    | none => none
  | _ => none
theorem appInfo_spec {P : Program} {T E : TypeId} {sz bytes : Nat} (h : appInfo P T = some (E, sz, bytes)) :
    ∃ i z, P.underlying T = some (.slice E) ∧ P.info? E = some i ∧ i.zero = some z ∧ i.size = sz ∧ i.bytes = bytes ∧ z.cells.size = sz := by
  unfold appInfo at h
  split at h
  · rename_i el hu
    split at h
    · rename_i i hi
      split at h
      · rename_i z hz
        split at h
        · rename_i hs
          simp at h
          obtain ⟨rfl, rfl, rfl⟩ := h
          exact ⟨i, z, hu, hi, hz, rfl, rfl, hs⟩
        · simp at h
      · simp at h
    · simp at h
  · simp at h

/-- append of a row's cells onto a slice of the call's own. -/
theorem opStep.append {T E ty2 : TypeId} {s x : Operand} {A B : List Res} {sz n m c : Nat} {v : Value} {xs news : List Value} {ad : Addr} (hp : Hp w0 M (A ++ Res.own E sz v n xs :: B) w)
    (bytes : Nat) (hT : appInfo P T = some (E, sz, bytes))
    (hs : ev e s = v) (hx : ev e x = .slice (some ad) m c) (hl : news.length = m * sz) (hnews : ∀ j u, news[j]? = some u → w.cell? (ad.add j) = some u) (h1 : ∀ u ∈ news, u.oneCell' = true) (hsz : 0 < sz)
    (hb : (n + m) * bytes ≤ 140737488355328) (h63 : n + m ≤ 9223372036854775807)
    (h : ∀ v' w', Hp w0 M (A ++ Res.own E sz v' (n + m) (xs ++ news) :: B) w' → (v' = .slice none 0 0 ↔ v = .slice none 0 0 ∧ m = 0) → next (upd e d v') w') :
    opStep P N ops Q ⟨some d, .call ⟨.builtin .append, #[s, x], #[T, T]⟩, ty2, pos, af, none⟩ next e w := by
  obtain ⟨i, z, hu, hi, hz, rfl, rfl, hzs⟩ := appInfo_spec hT
  obtain ⟨v', w', hrun, hown, hgrow, hnil, hat⟩ := run_append_own_at (P := P) w 0 T ty2 E i z i.size i.bytes hu hi hz rfl rfl hzs hsz v n xs hp.get ad m c news hl hnews h1 h63 hb (Nat.zero_le _)
  refine opStep.val (v := v') (w' := w') rfl ?_ (h v' w' ?_ hnil)
  · simp [execOp, resolve, invoke, builtin, hs, hx, hrun]
  · refine hp.mod (r' := Res.own E i.size v' (n + m) (xs ++ news)) (Fram.of_grown hgrow) hown fun b hb => ?_
    have hb' : v'.ownBlock = some b := hb
    refine ⟨(hown.lt b hb').2, ?_⟩
    rcases hat with h2 | h2
    · left
      show v.ownBlock = some b
      rw [← h2]; exact hb'
    · right
      rw [h2] at hb'
      have : w.heap.size = b := by simpa using hb'
      omega
end

end Go.Proofs.Ytdkgdidnknojlaa.K
namespace Go.Proofs.Ytdkgdidnknojlaa.K
open Go Go.RowKit

/-- What a Bool says. -/
def Bp (b : Bool) (p : Prop) : Prop := b = true ↔ p
theorem Bp.dec {p : Prop} [Decidable p] : Bp (decide p) p := by unfold Bp; simp
theorem Bp.var {b : Bool} : Bp b (b = true) := Iff.rfl
theorem Bp.and {a b : Bool} {p q : Prop} (h : Bp a p) (k : Bp b q) : Bp (bif a then b else false) (p ∧ q) := by unfold Bp at *; rw [← h, ← k]; cases a <;> simp
theorem Bp.or {a b : Bool} {p q : Prop} (h : Bp a p) (k : Bp b q) : Bp (bif a then true else b) (p ∨ q) := by unfold Bp at *; rw [← h, ← k]; cases a <;> simp
theorem Bp.band {a b : Bool} {p q : Prop} (h : Bp a p) (k : Bp b q) : Bp (a && b) (p ∧ q) := by unfold Bp at *; rw [← h, ← k]; cases a <;> simp
theorem Bp.not {a : Bool} {p : Prop} (h : Bp a p) : Bp (!a) (¬ p) := by unfold Bp at *; rw [← h]; cases a <;> simp
theorem Bp.band1 {a : Bool} {p : Prop} (h : Bp a p) : Bp (a && true) p := by unfold Bp at *; rw [← h]; cases a <;> simp
theorem Bp.t : Bp true True := by unfold Bp; simp
theorem Bp.f : Bp false False := by unfold Bp; simp
theorem Bp.of {b : Bool} {p q : Prop} (h : Bp b p) (k : p ↔ q) : Bp b q := h.trans k
theorem Bp.is {b : Bool} {p : Prop} [Decidable p] (h : Bp b p) : b = decide p := by unfold Bp at h; rw [Bool.eq_iff_iff, h]; simp
theorem Bp.tt {b : Bool} {p : Prop} (h : Bp b p) (k : p) : b = true := h.2 k
theorem Bp.ff {b : Bool} {p : Prop} (h : Bp b p) (k : ¬ p) : b = false := by cases b; rfl; exact absurd (h.1 rfl) k

section
variable {P : Program} {N : Nat} {Q : Post} {e : Env} {w : World}
theorem WP.test {c : Operand} {x y : Code} {b : Bool} {p : Prop} (hc : ev e c = .bool b) (hb : Bp b p) (ht : p → WP P N x Q e w) (hf : ¬ p → WP P N y Q e w) :
    WP P N (.cond c x y) Q e w := by
  cases b with
  | true => exact WP.condT hc (ht (hb.1 rfl))
  | false => exact WP.condF hc (hf (fun h => by have := hb.2 h; cases this))
variable {K : Env → World → Prop}
theorem thn_n (h : K e w) : thn K Q .normal e w := h
theorem thn_r (h : Q .ret e w) : thn K Q .ret e w := h
theorem thn_x {j : Nat} (h : Q (.exit j) e w) : thn K Q (.exit j) e w := h
theorem blk_n {i : Nat} (h : Q .normal e w) : inBlock i Q .normal e w := h
theorem blk_r {i : Nat} (h : Q .ret e w) : inBlock i Q .ret e w := h
theorem blk_hit {i : Nat} (h : Q .normal e w) : inBlock i Q (.exit i) e w := by
  show bif Nat.beq i i then Q .normal e w else Q (.exit i) e w
  rw [show Nat.beq i i = true from Nat.beq_refl i]; exact h
/-- What a call's results are. -/
def ResL (P : Program) (w : World) (e : Env) : List ResultVar → List Value → Prop
  | [], [] => True
  | .tmp t :: r, v :: vs => e t = v ∧ ResL P w e r vs
  | .cell a T :: r, v :: vs => (∃ ad, e a = .pointer (some ad) ∧ Ld P w T ad v) ∧ ResL P w e r vs
  | _, _ => False
def pack : List Value → Value
  | [v] => v
  | vs => .tuple vs.toArray
theorem run_results {P : Program} {w : World} {a : Act} {N : Nat} (hi : Is N a e) : ∀ (rs : List ResultVar) (vs : List Value), ResL P w e rs vs →
    (rs.mapM fun (r : ResultVar) => (match r with
      | .tmp t => pure (a.tmps.getD t undef)
      | .cell d t => do loadVar t (← asAddr (a.tmps.getD d undef)) : Sem Value)).run P w = .ok vs w
  | [], [], _ => by simp
  | [], _ :: _, h => h.elim
  | .tmp t :: r, v :: vs, h => by
    have ih := run_results hi r vs h.2
    simp only [List.mapM_cons, Sem.run_bind, Sem.run_pure, Result.andThen_ok, ih, hi.get t, h.1]
  | .cell d T :: r, v :: vs, h => by
    have ih := run_results hi r vs h.2
    obtain ⟨ad, h1, h2⟩ := h.1
    have h2' : (loadVar T ad).run P w = .ok v w := h2
    have hda : (asAddr (a.tmps.getD d undef)).run P w = .ok ad w := by rw [hi.get d, h1]; rfl
    simp only [List.mapM_cons, Sem.run_bind, hda, Result.andThen_ok, h2', ih, Sem.run_pure]
  | .tmp _ :: _, [], h => h.elim
  | .cell _ _ :: _, [], h => h.elim
theorem bodyQ.of {fn : Func} {R : Ending → World → Prop} (rs : List ResultVar) (hrs : fn.results.toList = rs) (vs : List Value) (h : ResL P w e rs vs) (hR : R (.returned (pack vs)) w) : bodyQ P fn R .ret e w := by
  intro a hi
  subst hrs
  refine ⟨pack vs, ?_, hR⟩
  have hm := run_results hi _ _ h
  unfold results
  simp only [Array.mapM_eq_mapM_toList, Sem.run_bind, Sem.run_map]
  erw [hm]
  simp only [Result.andThen_ok, Sem.run_pure]
  cases vs with
  | nil => rfl
  | cons v r => cases r with
    | nil => simp [pack]
    | cons u r => simp [pack]
theorem bodyQ.ofN {fn : Func} {R : Ending → World → Prop} (h : bodyQ P fn R .ret e w) : bodyQ P fn R .normal e w := h

theorem toMk {e : Env} {live : List Nat} {vs : List Value} (h : live.map e = vs) : ∃ base, e = mk base live vs := ⟨e, (mk_self h).symm⟩
end

/-- A slice that is read: its cells, and that it has memory if it is not empty. -/
structure SlR (w : World) (a : Option Addr) (n : Nat) (xs : List Value) : Prop where
  rd : Rd w a xs
  some : 0 < n → a.isSome = true
theorem SlR.fram {w w' : World} {a : Option Addr} {n : Nat} {xs : List Value} (h : SlR w a n xs) (hf : Fram Non w w') : SlR w' a n xs := ⟨h.rd.fram hf, h.some⟩
theorem SlR.at {w0 w : World} {L : List Res} {a : Option Addr} {n : Nat} {xs : List Value} (h : SlR w0 a n xs) (hp : Hp w0 Non L w) : SlR w a n xs := h.fram hp.fr
theorem SlR.own {w : World} {e : TypeId} {size n c : Nat} {a : Option Addr} {xs : List Value} (h : (Res.own e size (.slice a n c) n xs).holds w) : SlR w a n xs :=
  ⟨Rd.own h, fun h0 => by
    rcases h.2 with ⟨hv, _⟩ | ⟨g, cap, cur, hv, _⟩
    · simp at hv; omega
    · simp at hv; rw [hv.1]; rfl⟩
theorem SlR.nil (w : World) (n : Nat) (h : n = 0) : SlR w none n [] := ⟨fun j u hu => by simp at hu, fun h0 => by omega⟩

/-- Loads of a slice's element, or of a part of it. -/
theorem Ld.el1 {P : Program} {w : World} {t : TypeId} {a : Option Addr} {α : Type} {f : α → List Value} {l : List α} (h : Rd w a (l.flatMap f)) (sz : Nat) (hl : ∀ x, (f x).length = sz) {i o : Nat} {x : α} (hx : l[i]? = some x) {v : Value}
    (hv : (isAggB P t, (f x)[o]?) = (some false, some v)) : Ld P w t (((adr a).add (i * sz)).add o) v := by
  simp only [Prod.mk.injEq] at hv
  exact Ld.one hv.1 (h.elem sz hl hx o v hv.2)
theorem Ld.elN {P : Program} {w : World} {t : TypeId} {a : Option Addr} {α : Type} {f : α → List Value} {l : List α} (h : Rd w a (l.flatMap f)) (sz : Nat) (hl : ∀ x, (f x).length = sz) {i o : Nat} {x : α} (hx : l[i]? = some x) {cs : List Value}
    (hv : (isAggB P t, (P.info? t).map (·.size), ((f x).drop o).take cs.length) = (some true, some cs.length, cs)) : Ld P w t (((adr a).add (i * sz)).add o) (.agg cs.toArray) := by
  simp only [Prod.mk.injEq] at hv
  refine Ld.many (by rw [hv.1, hv.2.1]) fun j u hu => ?_
  rw [Addr.add_add]
  refine h.elem sz hl hx (o + j) u ?_
  rw [← hv.2.2, List.getElem?_take] at hu
  split at hu
  · rw [List.getElem?_drop] at hu; exact hu
  · simp at hu
theorem Ld.add0 {P : Program} {w : World} {t : TypeId} {a : Addr} {v : Value} (h : Ld P w t (a.add 0) v) : Ld P w t a v := by rwa [Addr.add_zero'] at h

theorem SlR.row {w : World} {b n : Nat} {c xs : List Value} {t : TypeId} (h : (Res.row b c t).holds w) (hc : xs = c) : SlR w (Option.some ⟨b, 0, none⟩) n xs :=
  ⟨fun j u hu => by
    subst hc
    show w.cell? ((⟨b, 0, none⟩ : Addr).add j) = Option.some u
    rw [add_mk, Nat.zero_add]; exact cell_row h j u hu, fun _ => rfl⟩
theorem own_slice {w : World} {e : TypeId} {size n : Nat} {v : Value} {xs : List Value} (h : (Res.own e size v n xs).holds w) : ∃ a c, v = .slice a n c := by
  rcases h.2 with ⟨hv, h0⟩ | ⟨g, cap, cur, hv, _⟩
  · exact ⟨none, 0, by rw [hv, h0]⟩
  · exact ⟨_, _, hv⟩
theorem own_nil {w : World} {e : TypeId} {size n c : Nat} {xs : List Value} (h : (Res.own e size (.slice none n c) n xs).holds w) : Value.slice none n c = .slice none 0 0 := by
  rcases h.2 with ⟨hv, _⟩ | ⟨g, cap, cur, hv, _⟩
  · exact hv
  · simp at hv
theorem Bp.beq {a b : Bool} {p q : Prop} (h : Bp a p) (k : Bp b q) : Bp (a == b) (p ↔ q) := by unfold Bp at *; rw [← h, ← k]; cases a <;> cases b <;> simp

end Go.Proofs.Ytdkgdidnknojlaa.K
