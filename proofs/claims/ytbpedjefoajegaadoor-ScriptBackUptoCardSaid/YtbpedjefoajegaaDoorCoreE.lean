/- Batches: the rules. -/
import Derived.Test.YtbpedjefoajegaaDoorCoreD
namespace Go.Proofs.YtbpedjefoajegaaDoor.K
open Go

/-- An operation as it stands, or passed over, by its guard (whose slot must hold 'true' or 'false'). -/
def guardB (ops : Array Oper) (N : Nat) (e : Env) (o : Oper) : Option Bool :=
  match o.guard with
  | none => some true
  | some (j, b) => match (ops[j]?).bind (·.dst) with
    | some t => if Nat.blt t N then match e t with
      | .bool true => some b
      | .bool false => some (!b)
      | .tuple _ => some false
      | _ => none else none
    | none => none

def runB (P : Program) (w : World) (H : Hints) (ops : Array Oper) (N : Nat) : List Oper → Env → List Value → Option (Env × List Prop)
  | [], e, _ => some (e, [])
  | o :: r, e, ls =>
    match guardB ops N e o with
    | some true => match pureOp P w H e ls { o with guard := none } with
      | some (v, vc, ls') => match runB P w H ops N r (put e o.dst v) ls' with
        | some (e', vc') => some (e', vc ++ vc')
        | none => none
      | none => none
    | some false => runB P w H ops N r (put e o.dst undef) ls
    | none => none

theorem opStep.pass2 {P : Program} {N : Nat} {ops : Array Oper} {Q : Post} {e : Env} {w : World} {o : Oper} {next : Env → World → Prop} {j t : Nat} {b : Bool} {vs : Array Value} (hg : o.guard = some (j, b)) (hj : (ops[j]?).bind (·.dst) = some t) (ht : Nat.blt t N = true) (hb : e t = .tuple vs)
    (h : next (put e o.dst undef) w) : opStep P N ops Q o next e w := by
  intro a ha hd
  have hlt : t < a.tmps.size := by rw [ha.size]; simpa [Nat.blt_eq] using ht
  have hy : a.tmps[t]? = some (.tuple vs) := by
    have := ha.get t
    rw [Array.getD_eq_getD_getElem?, Array.getElem?_eq_getElem hlt] at this
    rw [Array.getElem?_eq_getElem hlt, ← hb, ← this]; rfl
  have hw : Region.wanted o (yielded ops a.tmps) = false := by cases b <;> simp [Region.wanted, hg, yielded, hj, hy]
  rw [if_neg (by rw [hw]; exact Bool.false_ne_true)]
  exact ⟨_, ha.put _ _ hd, h⟩

theorem guard_step {P : Program} {N : Nat} {ops : Array Oper} {Q : Post} {o : Oper} {next : Env → World → Prop} {e : Env} {w : World} {b : Bool} (hg : guardB ops N e o = some b)
    (h : if b then opStep P N ops Q { o with guard := none } next e w else next (put e o.dst undef) w) : opStep P N ops Q o next e w := by
  unfold guardB at hg
  split at hg
  · rename_i hn
    simp at hg; subst hg
    have : ({ o with guard := none } : Oper) = o := by cases o; simp at hn; simp [hn]
    rw [this] at h; exact h
  · rename_i j c hgd
    split at hg
    · rename_i t ht
      split at hg
      · rename_i hN
        split at hg
        · rename_i hb
          simp at hg; subst hg
          cases c with
          | true => exact opStep.want hgd ht hN hb h
          | false => exact opStep.pass hgd ht hN (by simpa using hb) h
        · rename_i hb
          simp at hg; subst hg
          cases b with
          | false => exact opStep.pass hgd ht hN (by simpa using hb) h
          | true => exact opStep.want hgd ht hN hb h
        · rename_i hb
          simp at hg; subst hg
          exact opStep.pass2 hgd ht hN hb h
        · simp at hg
      · simp at hg
    · simp at hg

theorem runB_sound {P : Program} {w : World} {H : Hints} {ops : Array Oper} {N : Nat} {Q : Post} {r : List Oper} :
    ∀ {l : List Oper} {e e' : Env} {ls : List Value} {vc : List Prop}, runB P w H ops N l e ls = some (e', vc) → All vc → OPS P N ops Q r e' w → OPS P N ops Q (l ++ r) e w := by
  intro l
  induction l with
  | nil => intro e e' ls vc h _ hr; simp [runB] at h; obtain ⟨rfl, rfl⟩ := h; exact hr
  | cons o l ih =>
    intro e e' ls vc h hv hr
    unfold runB at h
    show opStep P N ops Q o (OPS P N ops Q (l ++ r)) e w
    split at h
    · rename_i hg
      refine guard_step hg ?_
      rw [if_pos rfl]
      split at h
      · rename_i v vc1 ls' hp
        split at h
        · rename_i e'' vc2 hrun
          simp at h; obtain ⟨rfl, rfl⟩ := h
          have hv' := All.append hv
          exact opStep.val rfl (run_pureOp hp hv'.1) (ih hrun hv'.2 hr)
        · simp at h
      · simp at h
    · rename_i hg
      refine guard_step hg ?_
      rw [if_neg (by simp)]
      exact ih h hv hr
    · simp at h

theorem OPS.want {P : Program} {N : Nat} {ops : Array Oper} {Q : Post} {o : Oper} {r : List Oper} {e : Env} {w : World} (hg : guardB ops N e o = some true)
    (h : OPS P N ops Q ({ o with guard := none } :: r) e w) : OPS P N ops Q (o :: r) e w :=
  guard_step hg (by rw [if_pos rfl]; exact h)

def mk (base : Env) : List Nat → List Value → Env
  | d :: ds, v :: vs => upd (mk base ds vs) d v
  | _, _ => base
theorem mk_self {e : Env} : ∀ {ds : List Nat} {vs : List Value}, ds.map e = vs → mk e ds vs = e
  | [], [], _ => rfl
  | [], _ :: _, h => by simp at h
  | _ :: _, [], h => by simp at h
  | d :: ds, v :: vs, h => by
    simp at h
    simp only [mk]
    rw [mk_self h.2]
    exact upd_self h.1

/-- Proofs in a row: what they prove need not be written. -/
inductive Prf : List Prop → Type
  | nil : Prf []
  | cons {p : Prop} {l : List Prop} (h : p) (r : Prf l) : Prf (p :: l)
theorem Prf.all : ∀ {l : List Prop}, Prf l → All l
  | [], _ => trivial
  | [_], .cons h _ => h
  | _ :: _ :: _, .cons h r => ⟨h, r.all⟩

section
variable {P : Program} {N : Nat} {ops : Array Oper} {Q : Post} {e : Env} {w : World}

def batch (P : Program) (w : World) (H : Hints) (ops : Array Oper) (N : Nat) (l : List Oper) (e : Env) (ls : List Value) (live : List Nat) : Option (List Value × List Prop) :=
  match runB P w H ops N l e ls with
  | some (e', vc) => some (live.map e', vc)
  | none => none

/-- The first k operations of what is left, at once. -/
theorem OPS.batch {l : List Oper} (k : Nat) (H : Hints) (ls : List Value) (live : List Nat) (vs : List Value) {vc : List Prop} (pf : Prf vc)
    (h : K.batch P w H ops N (l.take k) e ls live = some (vs, vc)) (next : ∀ base, OPS P N ops Q (l.drop k) (mk base live vs) w) : OPS P N ops Q l e w := by
  unfold K.batch at h
  split at h
  · rename_i e' vc' hr
    simp at h
    obtain ⟨hvs, rfl⟩ := h
    have := runB_sound (P := P) (Q := Q) (r := l.drop k) hr pf.all (by have := next e'; rwa [mk_self hvs] at this)
    rwa [List.take_append_drop] at this
  · simp at h

theorem OPS.re {l : List Oper} {base : Env} {ks : List Nat} {vs : List Value} (vs' : List Value) (h : vs = vs') (k : OPS P N ops Q l (mk base ks vs') w) : OPS P N ops Q l (mk base ks vs) w := by rw [h]; exact k
/-- A whole region. -/
theorem WP.pure {id : Nat} (H : Hints) (ls : List Value) (live : List Nat) (vs : List Value) {vc : List Prop} (pf : Prf vc)
    (h : (ops.all (fun o => dstOk N o.dst) && true, K.batch P w H ops N ops.toList e ls live) = (true, some (vs, vc))) (next : ∀ base, Q .normal (mk base live vs) w) : WP P N (.region id ops false) Q e w := by
  simp only [Bool.and_true, Prod.mk.injEq] at h
  obtain ⟨hN, h⟩ := h
  refine WP.region ops.toList rfl (by rw [Array.all_toList]; exact hN) ?_
  refine OPS.batch ops.size H ls live vs pf ?_ ?_
  · rw [show ops.toList.take ops.size = ops.toList from List.take_of_length_le (by simp)]; exact h
  · intro base
    rw [show ops.toList.drop ops.size = [] from List.drop_of_length_le (by simp)]
    exact next base
end

end Go.Proofs.YtbpedjefoajegaaDoor.K
