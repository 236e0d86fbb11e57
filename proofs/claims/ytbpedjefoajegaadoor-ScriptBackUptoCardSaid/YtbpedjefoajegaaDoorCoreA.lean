/- A small calculus over the model's regions: environments as functions, one rule per operation. -/
import Derived.WalkKit
import Derived.Orders
namespace Go.Proofs.YtbpedjefoajegaaDoor.K
open Go

/-! ### environments -/
abbrev Env := Nat → Value
def upd (e : Env) (d : Nat) (v : Value) : Env := fun i => cond (Nat.beq i d) v (e i)
def ev (e : Env) : Operand → Value
  | .tmp t => e t
  | .const v => v
  | .global g => .pointer (some ⟨g, 0, none⟩)
  | .func f => .func (.func f) #[] #[]
def put (e : Env) : Option Tmp → Value → Env
  | some d, v => upd e d v
  | none, _ => e
structure Is (N : Nat) (a : Act) (e : Env) : Prop where
  size : a.tmps.size = N
  defers : a.defers = []
  get : ∀ i, a.tmps.getD i undef = e i

theorem beq_false {i d : Nat} (h : i ≠ d) : Nat.beq i d = false := by
  cases hb : Nat.beq i d with
  | true => exact absurd (Nat.eq_of_beq_eq_true hb) h
  | false => rfl
theorem upd_same (e : Env) (d : Nat) (v : Value) : upd e d v d = v := by simp [upd]
theorem upd_ne (e : Env) {d i : Nat} (v : Value) (h : i ≠ d) : upd e d v i = e i := by
  simp [upd, beq_false h]
theorem upd_self {e : Env} {d : Nat} {v : Value} (h : e d = v) : upd e d v = e := by
  funext i
  by_cases hi : i = d
  · subst hi; rw [upd_same, h]
  · rw [upd_ne _ _ hi]

theorem Is.eval {N : Nat} {a : Act} {e : Env} (h : Is N a e) : a.eval = ev e := by
  funext x
  cases x with
  | tmp t => exact h.get t
  | _ => rfl

def dstOk (N : Nat) : Option Tmp → Bool
  | some d => Nat.blt d N
  | none => true

theorem Is.put {N : Nat} {a : Act} {e : Env} (h : Is N a e) (d : Option Tmp) (v : Value) (hd : dstOk N d = true) : Is N (a.put d v) (K.put e d v) := by
  cases d with
  | none => exact h
  | some d =>
    have hd' : d < N := by simpa [dstOk, Nat.blt_eq] using hd
    refine ⟨by simp [Act.put, h.size], h.defers, fun i => ?_⟩
    have hs : d < a.tmps.size := by rw [h.size]; exact hd'
    show (a.tmps.setIfInBounds d v).getD i undef = upd e d v i
    by_cases hi : i = d
    · subst hi
      rw [upd_same]
      simp [Array.getD_eq_getD_getElem?, hs]
    · rw [upd_ne _ _ hi, ← h.get i]
      simp [Array.getD_eq_getD_getElem?, Array.getElem?_setIfInBounds_ne (show d ≠ i from fun e => hi e.symm)]

/-! ### the calculus -/
abbrev Post := Exit → Env → World → Prop
def lift (N : Nat) (Q : Post) : Exit → Act → World → Prop := fun x a w => ∃ e, Is N a e ∧ Q x e w
def WP (P : Program) (N : Nat) (c : Code) (Q : Post) (e : Env) (w : World) : Prop :=
  ∀ a, Is N a e → c.wp P (lift N Q) a w

section rules
variable {P : Program} {N : Nat} {Q : Post} {e : Env} {w : World}

theorem WP.mono {c : Code} {Q' : Post} (h : WP P N c Q e w) (hq : ∀ x e w, Q x e w → Q' x e w) : WP P N c Q' e w :=
  fun a ha => wp_mono (h a ha) fun _ _ _ ⟨e', he, hQ⟩ => ⟨e', he, hq _ _ _ hQ⟩
theorem WP.skip (h : Q .normal e w) : WP P N .skip Q e w := fun _ ha => wp_skip ⟨e, ha, h⟩
theorem WP.ret (h : Q .ret e w) : WP P N .ret Q e w := fun _ ha => wp_ret ⟨e, ha, h⟩
theorem WP.exit {id : Nat} (h : Q (.exit id) e w) : WP P N (.exit id) Q e w := fun _ ha => wp_exit ⟨e, ha, h⟩
/-- Behind the first part of a sequence. -/
def thn (K : Env → World → Prop) (Q : Post) : Post
  | .normal, e, w => K e w
  | x, e, w => Q x e w
theorem WP.seq {x y : Code} (h : WP P N x (thn (WP P N y Q) Q) e w) : WP P N (.seq x y) Q e w := by
  intro a ha
  refine wp_seq (wp_mono (h a ha) ?_)
  rintro x a' w' ⟨e', he, hq⟩
  cases x with
  | normal => exact hq a' he
  | _ => exact ⟨e', he, hq⟩
theorem WP.cut {x y : Code} (J : Env → World → Prop) (h : WP P N x (thn J Q) e w) (hj : ∀ e w, J e w → WP P N y Q e w) : WP P N (.seq x y) Q e w := by
  refine WP.seq (WP.mono h ?_)
  rintro x e' w' hq
  cases x with
  | normal => exact hj _ _ hq
  | _ => exact hq
theorem WP.cond {c : Operand} {x y : Code} (p : Prop) [hd : Decidable p] (hc : ev e c = .bool (decide p)) (ht : p → WP P N x Q e w) (hf : ¬ p → WP P N y Q e w) :
    WP P N (.cond c x y) Q e w := by
  intro a ha
  have hc' : a.eval c = .bool (decide p) := by rw [ha.eval]; exact hc
  by_cases hp : p
  · exact wp_cond (t := true) (by rw [hc', decide_eq_true hp]) (ht hp a ha)
  · exact wp_cond (t := false) (by rw [hc', decide_eq_false hp]) (hf hp a ha)
theorem WP.condT {c : Operand} {x y : Code} (hc : ev e c = .bool true) (h : WP P N x Q e w) : WP P N (.cond c x y) Q e w :=
  fun a ha => wp_cond (t := true) (by rw [ha.eval]; exact hc) (h a ha)
theorem WP.condF {c : Operand} {x y : Code} (hc : ev e c = .bool false) (h : WP P N y Q e w) : WP P N (.cond c x y) Q e w :=
  fun a ha => wp_cond (t := false) (by rw [ha.eval]; exact hc) (h a ha)
def inBlock (id : Nat) (Q : Post) : Post
  | .exit j, e, w => bif Nat.beq j id then Q .normal e w else Q (.exit j) e w
  | x, e, w => Q x e w
theorem WP.block {id : Nat} {c : Code} (h : WP P N c (inBlock id Q) e w) : WP P N (.block id c) Q e w := by
  intro a ha
  refine wp_block (wp_mono (h a ha) ?_)
  rintro x a' w' ⟨e', he, hq⟩
  cases x with
  | exit j =>
    show (if j = id then lift N Q .normal a' w' else lift N Q (.exit j) a' w')
    by_cases hj : j = id
    · rw [if_pos hj]; subst hj
      exact ⟨e', he, by simpa [inBlock] using hq⟩
    · rw [if_neg hj]
      refine ⟨e', he, ?_⟩
      have hq' : (bif Nat.beq j id then Q .normal e' w' else Q (.exit j) e' w') := hq
      rwa [beq_false hj] at hq'
  | _ => exact ⟨e', he, hq⟩
theorem WP.loop {c : Code} (I : Nat → Env → World → Prop) (n : Nat) (h0 : I n e w)
    (round : ∀ n e w, I n e w → WP P N c (thn (fun e' w' => ∃ m, m < n ∧ I m e' w') Q) e w) : WP P N (.loop c) Q e w := by
  intro a ha
  intro b k cs
  have key : ∀ n a w, (∃ e, Is N a e ∧ I n e w) →
      ∃ x a' w', lift N Q x a' w' ∧ Arrives P (lone (b.at a (.code c :: .inLoop c :: k)) cs w) b k cs x a' w' := by
    intro n
    induction n using Nat.strongRecOn with
    | _ n ih =>
      rintro a w ⟨e, he, hI⟩
      obtain ⟨x, a₁, w₁, ⟨e₁, he₁, hq⟩, harr⟩ := round n e w hI a he b (.inLoop c :: k) cs
      cases x with
      | normal =>
        obtain ⟨m, hm, hI₁⟩ := hq
        obtain ⟨x₂, a₂, w₂, hq₂, harr₂⟩ := ih m hm a₁ w₁ ⟨e₁, he₁, hI₁⟩
        exact ⟨x₂, a₂, w₂, hq₂, .of_steps (Steps.trans harr (.one step_inLoop)) harr₂⟩
      | exit id => exact ⟨_, a₁, w₁, ⟨e₁, he₁, hq⟩, .pass (x := .inLoop c) rfl (fun _ _ => .inl (by simp)) harr⟩
      | goto l => exact ⟨_, a₁, w₁, ⟨e₁, he₁, hq⟩, .pass (x := .inLoop c) rfl (fun _ _ => .inl (by simp)) harr⟩
      | ret => exact ⟨_, a₁, w₁, ⟨e₁, he₁, hq⟩, .pass (x := .inLoop c) rfl (fun _ _ => .inl (by simp)) harr⟩
      | panic ch => exact ⟨_, a₁, w₁, ⟨e₁, he₁, hq⟩, .pass (x := .inLoop c) rfl (fun _ _ => .inl (by simp)) harr⟩
      | outgrown => exact ⟨_, a₁, w₁, ⟨e₁, he₁, hq⟩, .pass (x := .inLoop c) rfl (fun _ _ => .inl (by simp)) harr⟩
  obtain ⟨x, a', w', hq, harr⟩ := key n a w ⟨e, ha, h0⟩
  exact ⟨x, a', w', hq, .of_steps (.one step_loop) harr⟩
end rules

/-! ### regions, in the text's order -/
section regions
variable (P : Program) (N : Nat) (ops : Array Oper) (Q : Post)
/-- One operation, then the rest. -/
def opStep (o : Oper) (next : Env → World → Prop) (e : Env) (w : World) : Prop :=
  ∀ a, Is N a e → dstOk N o.dst = true →
    (if Region.wanted o (yielded ops a.tmps) then o.wp P a w (fun a' w' => ∃ e', Is N a' e' ∧ next e' w') (lift N Q) else ∃ e', Is N (a.put o.dst undef) e' ∧ next e' w)
def OPS : List Oper → Env → World → Prop
  | [], e, w => Q .normal e w
  | o :: r, e, w => opStep P N ops Q o (OPS r) e w
end regions

theorem OPS.sound {P : Program} {N : Nat} {ops : Array Oper} {Q : Post} (hN : ops.all (fun o => dstOk N o.dst) = true) :
    ∀ (l : List Oper) (k : Nat), (∀ j, l[j]? = ops[k + j]?) → ∀ (e : Env) (w : World) (a : Act), Is N a e → OPS P N ops Q l e w →
      wpOps P ops (lift N Q) (List.range' k l.length) a w := by
  intro l
  induction l with
  | nil => intro k _ e w a ha h; exact ⟨e, ha, h⟩
  | cons o r ih =>
    intro k hk e w a ha h
    have ho : ops[k]? = some o := by have := hk 0; simpa using this.symm
    have hd : dstOk N o.dst = true := by
      rw [Array.all_eq_true] at hN
      obtain ⟨hlt, hh⟩ := Array.getElem?_eq_some_iff.1 ho
      have := hN k hlt
      rw [hh] at this; exact this
    have hr : ∀ j, r[j]? = ops[(k + 1) + j]? := fun j => by have := hk (j + 1); rw [show k + (j + 1) = k + 1 + j from by omega] at this; simpa using this
    have h' := h a ha hd
    simp only [List.length_cons, List.range'_succ]
    rw [wpOps_cons]
    unfold wpOp
    simp only [ho]
    split
    · rename_i hw
      rw [if_pos hw] at h'
      exact .inl (Oper.wp_mono (fun a' w' ⟨e', he', hn⟩ => ih (k + 1) hr e' w' a' he' hn) h')
    · rename_i hw
      rw [if_neg (by simpa using hw)] at h'
      obtain ⟨e', he', hn⟩ := h'
      exact ih (k + 1) hr e' w _ he' hn

theorem WP.region {P : Program} {N : Nat} {Q : Post} {e : Env} {w : World} {id : Nat} {ops : Array Oper} (l : List Oper) (hl : ops.toList = l) (hN : (l.all fun o => dstOk N o.dst) = true)
    (h : OPS P N ops Q l e w) : WP P N (.region id ops false) Q e w := by
  intro a ha
  subst hl
  have hN' : ops.all (fun o => dstOk N o.dst) = true := by rw [← Array.all_toList]; exact hN
  refine wp_region ?_
  have := OPS.sound hN' ops.toList 0 (fun j => by simp) e w a ha h
  rwa [Array.length_toList, ← List.range_eq_range'] at this

section oprules
variable {P : Program} {N : Nat} {ops : Array Oper} {Q : Post} {r : List Oper} {e : Env} {w : World}

/-- An operation that gives a value. -/
theorem opStep.val {o : Oper} {next : Env → World → Prop} {v : Value} {w' : World} (hg : o.guard = none) (hr : (execOp (ev e) o).run P w = .ok (.value v) w') (h : next (put e o.dst v) w') :
    opStep P N ops Q o next e w := by
  intro a ha hd
  have hw : Region.wanted o (yielded ops a.tmps) = true := by simp [Region.wanted, hg]
  rw [if_pos hw]
  unfold Oper.wp
  rw [ha.eval, hr]
  exact ⟨_, ha.put _ _ hd, h⟩
theorem opStep.skip {o : Oper} {next : Env → World → Prop} {w' : World} (hg : o.guard = none) (hr : (execOp (ev e) o).run P w = .ok .skip w') (h : next (put e o.dst undef) w') :
    opStep P N ops Q o next e w := by
  intro a ha hd
  have hw : Region.wanted o (yielded ops a.tmps) = true := by simp [Region.wanted, hg]
  rw [if_pos hw]
  unfold Oper.wp
  rw [ha.eval, hr]
  exact ⟨_, ha.put _ _ hd, h⟩
/-- A call of a Go function that returns. -/
theorem opStep.enter {o : Oper} {next : Env → World → Prop} {f : FuncId} {args : Array Value} {w' : World} {R : Ending → World → Prop} (hg : o.guard = none)
    (hr : (execOp (ev e) o).run P w = .ok (.enter f args) w') (hc : Calls P f args w' R)
    (h : ∀ x w'', R x w'' → ∃ v, x = .returned v ∧ next (put e o.dst v) w'') :
    opStep P N ops Q o next e w := by
  intro a ha hd
  have hw : Region.wanted o (yielded ops a.tmps) = true := by simp [Region.wanted, hg]
  rw [if_pos hw]
  unfold Oper.wp
  rw [ha.eval, hr]
  refine Calls.mono hc ?_
  intro x w'' hR
  obtain ⟨v, rfl, hn⟩ := h x w'' hR
  exact ⟨_, ha.put _ _ hd, hn⟩
/-- A guard that is met, or not. -/
theorem opStep.want {o : Oper} {next : Env → World → Prop} {j t : Nat} {b : Bool} (hg : o.guard = some (j, b)) (hj : (ops[j]?).bind (·.dst) = some t) (ht : Nat.blt t N = true) (hb : e t = .bool b)
    (h : opStep P N ops Q { o with guard := none } next e w) : opStep P N ops Q o next e w := by
  intro a ha hd
  have hlt : t < a.tmps.size := by rw [ha.size]; simpa [Nat.blt_eq] using ht
  have hy : a.tmps[t]? = some (.bool b) := by
    have := ha.get t
    rw [Array.getD_eq_getD_getElem?, Array.getElem?_eq_getElem hlt] at this
    rw [Array.getElem?_eq_getElem hlt, ← hb, ← this]; rfl
  have hw : Region.wanted o (yielded ops a.tmps) = true := by simp [Region.wanted, hg, yielded, hj, hy]
  rw [if_pos hw]
  have := h a ha hd
  rwa [if_pos (by simp [Region.wanted])] at this
theorem opStep.pass {o : Oper} {next : Env → World → Prop} {j t : Nat} {b : Bool} (hg : o.guard = some (j, b)) (hj : (ops[j]?).bind (·.dst) = some t) (ht : Nat.blt t N = true) (hb : e t = .bool (!b))
    (h : next (put e o.dst undef) w) : opStep P N ops Q o next e w := by
  intro a ha hd
  have hlt : t < a.tmps.size := by rw [ha.size]; simpa [Nat.blt_eq] using ht
  have hy : a.tmps[t]? = some (.bool (!b)) := by
    have := ha.get t
    rw [Array.getD_eq_getD_getElem?, Array.getElem?_eq_getElem hlt] at this
    rw [Array.getElem?_eq_getElem hlt, ← hb, ← this]; rfl
  have hw : Region.wanted o (yielded ops a.tmps) = false := by cases b <;> simp [Region.wanted, hg, yielded, hj, hy]
  rw [if_neg (by rw [hw]; exact Bool.false_ne_true)]
  exact ⟨_, ha.put _ _ hd, h⟩
end oprules

/-! ### a call's body -/
def bodyQ (P : Program) (fn : Func) (R : Ending → World → Prop) : Post
  | .normal, e, w | .ret, e, w => ∀ a, Is fn.ntmps a e → ∃ v, (results fn a.tmps).run P w = .ok v w ∧ R (.returned v) w
  | _, _, _ => False

def env0 (args : List Value) : Env := fun i => args.getD i undef

theorem calls_of {P : Program} {f : FuncId} {fn : Func} {c : Code} {args : List Value} {w : World} {R : Ending → World → Prop}
    (hf : P.funcs[f]? = some fn) (hb : fn.body = some c) (N : Nat) (hN : fn.ntmps = N) (hn : args.length ≤ N) (h : WP P N c (bodyQ P fn R) (env0 args) w) : Calls P f args.toArray w R := by
  subst hN
  refine calls_of_wp hf hb ?_
  have ha : Is fn.ntmps { tmps := args.toArray ++ Array.replicate (fn.ntmps - args.toArray.size) undef, defers := [] } (env0 args) := by
    refine ⟨by simp; omega, rfl, fun i => ?_⟩
    show (args.toArray ++ Array.replicate (fn.ntmps - args.toArray.size) undef).getD i undef = args.getD i undef
    rw [Array.getD_eq_getD_getElem?, List.getD_eq_getElem?_getD, Array.getElem?_append]
    by_cases hi : i < args.length
    · simp [hi]
    · simp only [List.size_toArray, hi, if_false]
      rw [List.getElem?_eq_none (by omega), Array.getElem?_replicate]
      split <;> rfl
  refine wp_mono (h _ ha) ?_
  rintro x a' w' ⟨e', he, hq⟩
  cases x with
  | normal => exact ⟨he.defers, hq a' he⟩
  | ret => exact ⟨he.defers, hq a' he⟩
  | _ => exact hq.elim

end Go.Proofs.YtbpedjefoajegaaDoor.K
