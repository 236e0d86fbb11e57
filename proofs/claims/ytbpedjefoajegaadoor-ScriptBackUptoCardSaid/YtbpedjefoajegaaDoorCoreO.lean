/- Regions that draw their order: (1) operations and calls that give one value in every world of a class; (2) what only reads is taken first, the rest comes up one at a time. -/
import Derived.Test.YtbpedjefoajegaaDoorCoreX
import Derived.OrdersHeld
import Derived.Deep.Quiet
namespace Go.Proofs.YtbpedjefoajegaaDoor.K
open Go Go.RowKit

def NoPanic (Q : Post) : Prop := ∀ c e w, ¬ Q (.panic c) e w
theorem np_body {P : Program} {fn : Func} {R : Ending → World → Prop} : NoPanic (bodyQ P fn R) := fun _ _ _ h => h
theorem np_thn {K : Env → World → Prop} {Q : Post} (h : NoPanic Q) : NoPanic (thn K Q) := fun c e w hq => h c e w hq
theorem np_blk {i : Nat} {Q : Post} (h : NoPanic Q) : NoPanic (inBlock i Q) := fun c e w hq => h c e w hq

theorem pureOp0_w (P : Program) (w w' : World) (H : Hints) (e : Env) (ls : List Value) (o : Oper) :
    (pureOp0 P w H e ls o).map (fun x => (x.1, x.2.2)) = (pureOp0 P w' H e ls o).map (fun x => (x.1, x.2.2)) := by
  obtain ⟨dst, op, type, pos, after, guard⟩ := o
  cases op <;> simp only [pureOp0, builtinV] <;> (try rfl) <;> (repeat' split) <;> (first | rfl | simp_all)
theorem pureOp_w (P : Program) (w w' : World) (H : Hints) (e : Env) (ls : List Value) (o : Oper) :
    (pureOp P w H e ls o).map (fun x => (x.1, x.2.2)) = (pureOp P w' H e ls o).map (fun x => (x.1, x.2.2)) := by
  have h := pureOp0_w P w w' H e ls o
  unfold pureOp
  cases h1 : pureOp0 P w H e ls o with
  | none =>
    cases h2 : pureOp0 P w' H e ls o with
    | none => rfl
    | some y => simp [h1, h2] at h
  | some x =>
    cases h2 : pureOp0 P w' H e ls o with
    | none => simp [h1, h2] at h
    | some y =>
      obtain ⟨v, vc, l⟩ := x
      obtain ⟨v', vc', l'⟩ := y
      simp [h1, h2] at h
      obtain ⟨rfl, rfl⟩ := h
      dsimp only
      split
      · split <;> rfl
      · rfl
theorem pureOp_same {P : Program} {w w' : World} {H : Hints} {e : Env} {ls l1 l2 : List Value} {o : Oper} {v v' : Value} {vc vc' : List Prop}
    (h : pureOp P w H e ls o = some (v, vc, l1)) (h' : pureOp P w' H e ls o = some (v', vc', l2)) : v = v' ∧ l1 = l2 := by
  have := pureOp_w P w w' H e ls o
  rw [h, h'] at this
  simpa using this
theorem runB_same {P : Program} {w w' : World} {H : Hints} {ops : Array Oper} {N : Nat} : ∀ {l : List Oper} {e e1 e2 : Env} {ls : List Value} {vc vc' : List Prop},
    runB P w H ops N l e ls = some (e1, vc) → runB P w' H ops N l e ls = some (e2, vc') → e1 = e2
  | [], _, _, _, _, _, _, h, h' => by simp [runB] at h h'; rw [← h.1, ← h'.1]
  | o :: l, e, e1, e2, ls, vc, vc', h, h' => by
    unfold runB at h h'
    split at h
    · rename_i hg
      rw [hg] at h'
      simp only at h'
      split at h
      · rename_i v vc1 ls1 hp
        split at h'
        · rename_i v2 vc2 ls2 hp2
          obtain ⟨rfl, rfl⟩ := pureOp_same hp hp2
          split at h
          · rename_i ea va hr
            split at h'
            · rename_i eb vb hr2
              simp at h h'
              rw [← h.1, ← h'.1]
              exact runB_same hr hr2
            · simp at h'
          · simp at h
        · simp at h'
      · simp at h
    · rename_i hg
      rw [hg] at h'
      exact runB_same h h'
    · simp at h

/-! ### (1) -/
def QOPS (P : Program) (N : Nat) (ops : Array Oper) (C : World → Prop) (Q : Post) : List Oper → Env → Prop
  | [], e => ∀ w, C w → Q .normal e w
  | o :: r, e => ∀ a, Is N a e → dstOk N o.dst = true →
    if Region.wanted o (yielded ops a.tmps) then ∃ v, (∀ w, C w → o.quietAt P a C w v) ∧ QOPS P N ops C Q r (put e o.dst v) else QOPS P N ops C Q r (put e o.dst undef)

theorem QOPS.sound {P : Program} {N : Nat} {ops : Array Oper} {C : World → Prop} {Q : Post} : ∀ (l : List Oper) (e : Env) (a : Act), (l.all fun o => dstOk N o.dst) = true → Is N a e → QOPS P N ops C Q l e →
    wpQuiet P ops C (fun a' => ∀ w, C w → lift N Q .normal a' w) l a
  | [], e, a, _, ha, h => fun w hw => ⟨e, ha, h w hw⟩
  | o :: r, e, a, hl, ha, h => by
    simp only [List.all_cons, Bool.and_eq_true] at hl
    have h' := h a ha hl.1
    unfold wpQuiet
    split
    · rename_i hw
      rw [if_pos hw] at h'
      obtain ⟨v, hv, hn⟩ := h'
      exact ⟨v, hv, QOPS.sound r _ _ hl.2 (ha.put _ _ hl.1) hn⟩
    · rename_i hw
      rw [if_neg hw] at h'
      exact QOPS.sound r _ _ hl.2 (ha.put _ _ hl.1) h'

theorem WP.quiet {P : Program} {N : Nat} {Q : Post} {e : Env} {w : World} {id : Nat} {ops : Array Oper} (C : World → Prop)
    (hB : (P.follows .mixedOrders, Region.lexB .any ops, ops.toList.all fun o => dstOk N o.dst) = (true, true, true)) (hC : C w.drew) (h : QOPS P N ops C Q ops.toList e) : WP P N (.region id ops true) Q e w := by
  simp only [Prod.mk.injEq] at hB
  intro a ha
  exact wp_region_quiet hB.1 hB.2.1 hC (QOPS.sound _ _ _ hB.2.2 ha h)

section
variable {P : Program} {N : Nat} {ops : Array Oper} {C : World → Prop} {Q : Post} {e : Env} {r : List Oper}

def QB (P : Program) (w : World) (H : Hints) (ops : Array Oper) (N : Nat) (l : List Oper) (e : Env) (ls : List Value) (live : List Nat) (vs : List Value) : Prop :=
  ∃ vc, All vc ∧ batch P w H ops N l e ls live = some (vs, vc)
theorem QB.mk {w : World} {H : Hints} {l : List Oper} {ls : List Value} {live : List Nat} {vs : List Value} {vc : List Prop} (pf : Prf vc) (h : batch P w H ops N l e ls live = some (vs, vc)) : QB P w H ops N l e ls live vs := ⟨vc, pf.all, h⟩

theorem QOPS.val1 {o : Oper} {v : Value} (hg : guardB ops N e o = some true) (hr : ∀ w, C w → (execOp (ev e) { o with guard := none }).run P w = .ok (.value v) w) (h : QOPS P N ops C Q r (put e o.dst v)) : QOPS P N ops C Q (o :: r) e := by
  intro a ha hd
  have hx : execOp a.eval o = execOp (ev e) { o with guard := none } := by rw [ha.eval]; rfl
  have hw : Region.wanted o (yielded ops a.tmps) = true := wanted_of ha hg
  rw [if_pos hw]
  exact ⟨v, fun w hC => by unfold Oper.quietAt; rw [hx, hr w hC]; exact ⟨rfl, rfl⟩, h⟩
where
  wanted_of {N : Nat} {ops : Array Oper} {e : Env} {o : Oper} {a : Act} {b : Bool} (ha : Is N a e) (hg : guardB ops N e o = some b) : Region.wanted o (yielded ops a.tmps) = b := by
    unfold guardB at hg
    unfold Region.wanted
    split at hg
    · rename_i hn; rw [hn]; simpa using hg
    · rename_i j c hgd
      rw [hgd]
      split at hg
      · rename_i t ht
        split at hg
        · rename_i hN
          have hlt : t < a.tmps.size := by rw [ha.size]; simpa [Nat.blt_eq] using hN
          have hy : a.tmps[t]? = some (e t) := by
            have := ha.get t
            rw [Array.getD_eq_getD_getElem?, Array.getElem?_eq_getElem hlt] at this
            rw [Array.getElem?_eq_getElem hlt, ← this]; rfl
          split at hg
          · rename_i hb; simp at hg; subst hg; cases c <;> simp [yielded, ht, hy, hb]
          · rename_i hb; simp at hg; subst hg; rename_i b'; cases b <;> simp [yielded, ht, hy, hb]
          · rename_i hb; simp at hg; subst hg; simp [yielded, ht, hy, hb]
          · simp at hg
        · simp at hg
      · simp at hg
theorem QOPS.skip1 {o : Oper} (hg : guardB ops N e o = some false) (h : QOPS P N ops C Q r (put e o.dst undef)) : QOPS P N ops C Q (o :: r) e := by
  intro a ha hd
  have hw : Region.wanted o (yielded ops a.tmps) = false := QOPS.val1.wanted_of ha hg
  rw [if_neg (by rw [hw]; exact Bool.false_ne_true)]
  exact h

theorem QOPS.nil (h : ∀ w, C w → Q .normal e w) : QOPS P N ops C Q [] e := h
theorem QOPS.call {f : FuncId} {args : Array Operand} {ts : Array TypeId} {v : Value} {ty : TypeId} {pos : String} {af : Array Edge} {gd : Option (Nat × Bool)} (dst : Option Tmp) (vs : List Value) (hok : (guardB ops N e ⟨dst, .call ⟨.value (.func f), args, ts⟩, ty, pos, af, gd⟩, callOk P f, args.toList.map (ev e)) = (some true, true, vs))
    (hc : ∀ w, C w → Calls P f vs.toArray w (fun x w' => x = .returned v ∧ C w')) (h : QOPS P N ops C Q r (put e dst v)) :
    QOPS P N ops C Q (⟨dst, .call ⟨.value (.func f), args, ts⟩, ty, pos, af, gd⟩ :: r) e := by
  simp only [Prod.mk.injEq] at hok
  obtain ⟨hg, hok, hvs⟩ := hok
  unfold callOk at hok
  split at hok
  · rename_i fn hf
    simp at hok
    intro a ha hd
    have hw := QOPS.val1.wanted_of ha hg
    rw [if_pos hw]
    refine ⟨v, fun w hC => ?_, h⟩
    unfold Oper.quietAt
    have hm : args.map (ev e) = vs.toArray := by rw [← hvs]; apply Array.ext'; simp
    have hce := callFunc_enter (P := P) (w := w) (args := vs.toArray) hf (by simpa using hok.1) (by simpa using hok.2)
    have : (execOp a.eval ⟨dst, .call ⟨.value (.func f), args, ts⟩, ty, pos, af, gd⟩).run P w = .ok (.enter f vs.toArray) w := by
      rw [ha.eval]; simp [execOp, resolve, ev, Deferred.ofValue, hm, invoke, hce]
    rw [this]
    exact ⟨rfl, hc w hC⟩
  · simp at hok
theorem QOPS.callV {f : FuncId} {x : Operand} {cap : Array Value} {args : Array Operand} {ts : Array TypeId} {v : Value} {ty : TypeId} {pos : String} {af : Array Edge} {gd : Option (Nat × Bool)} (dst : Option Tmp) (vs : List Value) (hx : ev e x = .func (.func f) #[] cap)
    (hok : (guardB ops N e ⟨dst, .call ⟨.value x, args, ts⟩, ty, pos, af, gd⟩, callOk P f, args.toList.map (ev e) ++ cap.toList) = (some true, true, vs))
    (hc : ∀ w, C w → Calls P f vs.toArray w (fun x w' => x = .returned v ∧ C w')) (h : QOPS P N ops C Q r (put e dst v)) :
    QOPS P N ops C Q (⟨dst, .call ⟨.value x, args, ts⟩, ty, pos, af, gd⟩ :: r) e := by
  simp only [Prod.mk.injEq] at hok
  obtain ⟨hg, hok, hvs⟩ := hok
  unfold callOk at hok
  split at hok
  · rename_i fn hf
    simp at hok
    intro a ha hd
    have hw := QOPS.val1.wanted_of ha hg
    rw [if_pos hw]
    refine ⟨v, fun w hC => ?_, h⟩
    unfold Oper.quietAt
    have hm : args.map (ev e) ++ cap = vs.toArray := by rw [← hvs]; apply Array.ext'; simp
    have hce := callFunc_enter (P := P) (w := w) (args := vs.toArray) hf (by simpa using hok.1) (by simpa using hok.2)
    have : (execOp a.eval ⟨dst, .call ⟨.value x, args, ts⟩, ty, pos, af, gd⟩).run P w = .ok (.enter f vs.toArray) w := by
      rw [ha.eval]; simp only [execOp, resolve, hx, Deferred.ofValue]; simp [invoke, hm, hce]
    rw [this]
    exact ⟨rfl, hc w hC⟩
  · simp at hok

/-- The first operations in a batch, in every world of the class. -/
theorem QOPS.batch {l : List Oper} (k : Nat) (H : Hints) (ls : List Value) (live : List Nat) (vs : List Value) (hne : ∃ w, C w)
    (h : ∀ w, C w → QB P w H ops N (l.take k) e ls live vs) (next : ∀ base, QOPS P N ops C Q (l.drop k) (K.mk base live vs)) : QOPS P N ops C Q l e := by
  have key : ∀ (r l1 : List Oper) (e e' : Env) (ls : List Value), (∀ w, C w → ∃ vc, All vc ∧ runB P w H ops N l1 e ls = some (e', vc)) → QOPS P N ops C Q r e' → QOPS P N ops C Q (l1 ++ r) e := by
    intro r l1
    induction l1 with
    | nil =>
      intro e e' ls hh hr
      obtain ⟨w, hw⟩ := hne
      obtain ⟨vc, _, h2⟩ := hh w hw
      simp [runB] at h2
      rw [← h2.1] at hr
      exact hr
    | cons o l1 ih =>
      intro e e' ls hh hr
      obtain ⟨w0, hw0⟩ := hne
      obtain ⟨vc0, hv0, h0⟩ := hh w0 hw0
      unfold runB at h0
      split at h0
      · rename_i hg
        split at h0
        · rename_i v vc1 ls' hp
          have hall : ∀ w, C w → ∃ vc1 vc2, pureOp P w H e ls { o with guard := none } = some (v, vc1, ls') ∧ All vc1 ∧ All vc2 ∧ runB P w H ops N l1 (put e o.dst v) ls' = some (e', vc2) := by
            intro w hw
            obtain ⟨vc, hv, h1⟩ := hh w hw
            unfold runB at h1
            rw [hg] at h1
            simp only at h1
            split at h1
            · rename_i v' vc1' ls'' hp'
              have hsame := pureOp_same hp hp'
              obtain ⟨rfl, rfl⟩ := hsame
              split at h1
              · rename_i e'' vc2 hrun
                simp at h1; obtain ⟨rfl, rfl⟩ := h1
                have := All.append hv
                exact ⟨vc1', vc2, hp', this.1, this.2, hrun⟩
              · simp at h1
            · simp at h1
          refine QOPS.val1 (v := v) hg (fun w hw => ?_) (ih (put e o.dst v) e' ls' (fun w hw => ?_) hr)
          · obtain ⟨vc1, vc2, a1, a2, _, _⟩ := hall w hw
            exact run_pureOp a1 a2
          · obtain ⟨vc1, vc2, _, _, a3, a4⟩ := hall w hw
            exact ⟨vc2, a3, a4⟩
        · simp at h0
      · rename_i hg
        refine QOPS.skip1 hg (ih (put e o.dst undef) e' ls (fun w hw => ?_) hr)
        obtain ⟨vc, hv, h1⟩ := hh w hw
        unfold runB at h1
        rw [hg] at h1
        exact ⟨vc, hv, h1⟩
      · simp at h0
  obtain ⟨w0, hw0⟩ := hne
  obtain ⟨vc0, hv0, h0⟩ := h w0 hw0
  unfold K.batch at h0
  split at h0
  · rename_i e' vc' hr0
    simp at h0
    obtain ⟨hvs, rfl⟩ := h0
    have := key (l.drop k) (l.take k) e e' ls (fun w hw => ?_) (by have := next e'; rwa [mk_self hvs] at this)
    · rwa [List.take_append_drop] at this
    · obtain ⟨vc, hv, h1⟩ := h w hw
      unfold K.batch at h1
      split at h1
      · rename_i e2 vc2 hr2
        simp at h1
        obtain ⟨_, rfl⟩ := h1
        exact ⟨vc2, hv, by rw [hr2, runB_same hr0 hr2]⟩
      · simp at h1
  · simp at h0
end


/-! ### (2) -/
/-- Whatever comes up: and behind each operation that waits not for all that is quiet, S. -/
def wpAnyK (P : Program) (ops : Array Oper) (Q : Exit → Act → World → Prop) (S : World → Prop) (K : Nat → Bool) : Nat → Array Bool → Act → World → Prop
  | 0, listed, a, w => Region.ready .any ops listed = [] ∧ Q .normal a w
  | fuel + 1, listed, a, w =>
    (Region.ready .any ops listed = [] → Q .normal a w) ∧
    ∀ i ∈ Region.ready .any ops listed, wpOp P ops Q i (fun a' w' => (K i = true ∨ S w') ∧ wpAnyK P ops Q S K fuel (listed.setIfInBounds i true) a' w') a w
section
variable {P : Program} {ops : Array Oper} {Q : Exit → Act → World → Prop} {S : World → Prop} {K : Nat → Bool}
theorem wpAny_of_K : ∀ (fuel : Nat) (listed : Array Bool) (a : Act) (w : World), wpAnyK P ops Q S K fuel listed a w → wpAny P .any ops Q fuel listed a w
  | 0, _, _, _, h => h
  | fuel + 1, _, _, _, h => ⟨h.1, fun i hi => wpOp_mono (fun a' w' h' => wpAny_of_K fuel _ a' w' h'.2) (h.2 i hi)⟩
theorem ready_other {listed : Array Bool} {i j : Nat} (hj : j ∈ Region.ready .any ops listed) (hr : i ∈ Region.ready .any ops listed) {oj : Oper} (hoj : ops[j]? = some oj) :
    ∀ e ∈ oj.after, Region.binds .any e = true → e.on ≠ i := fun e he hb heq => by
  obtain ⟨_, oj', hoj', hall⟩ := mem_ready.1 hj
  rw [hoj] at hoj'; cases hoj'
  have h1 := hall e he hb
  have h0 := (mem_ready.1 hr).1
  rw [heq] at h1
  rcases Nat.lt_or_ge i listed.size with h' | h'
  · simp [h'] at h0 h1; rw [h0] at h1; cases h1
  · simp [Array.getElem?_eq_none h'] at h1
theorem wpAnyK_first {i : Nat} {oi : Oper} {v : Value} (hi : ops[i]? = some oi) (hsel : ∀ (j : Nat) (o : Oper) cs b, ops[j]? = some o → o.op ≠ .select cs b)
    (hQ : ∀ c a w, ¬ Q (.panic c) a w) (hK : ∀ j oj, ops[j]? = some oj → K j = true → ∃ e ∈ oj.after, Region.binds .any e = true ∧ e.on = i) :
    ∀ (fuel : Nat) (listed : Array Bool) (a : Act) (w : World),
      (∀ j oj, ops[j]? = some oj → j ≠ i → listed.getD j true = false → (∀ e ∈ oj.after, Region.binds .any e = true → e.on ≠ i) → oi.apart ops oj = true) →
      i ∈ Region.ready .any ops listed → YieldsIf P ops S oi v a → S w →
      wpAnyK P ops Q S K fuel (listed.setIfInBounds i true) (a.put oi.dst v) w → wpAnyK P ops Q S K (fuel + 1) listed a w := by
  intro fuel
  induction fuel with
  | zero =>
    intro listed a w _ hr hy hS H
    refine ⟨fun h => (by rw [h] at hr; cases hr), fun j hj => ?_⟩
    by_cases hji : j = i
    · subst hji; exact hy.wpOp hi hS ⟨.inr hS, H⟩
    · have := ready_mono hj hji
      rw [H.1] at this
      cases this
  | succ fuel ih =>
    intro listed a w hfree hr hy hS H
    refine ⟨fun h => (by rw [h] at hr; cases hr), fun j hj => ?_⟩
    by_cases hji : j = i
    · subst hji; exact hy.wpOp hi hS ⟨.inr hS, H⟩
    · have h1 := H.2 j (ready_mono hj hji)
      obtain ⟨hjun, oj, hoj, hall⟩ := mem_ready.1 hj
      have hnot := ready_other hj hr hoj
      have hKj : K j = false := by
        cases hk : K j with
        | false => rfl
        | true =>
          obtain ⟨e, he, hb, hon⟩ := hK j oj hoj hk
          exact absurd hon (hnot e he hb)
      have h2 := wpOp_putIf (S := S) hoj (hfree j oj hoj hji hjun hnot) (fun cs b => hsel i oi cs b hi) (fun cs b => hsel j oj cs b hoj) (fun c a w hq => (hQ c _ w hq).elim) hy h1
      have hfree' : ∀ k ok, ops[k]? = some ok → k ≠ i → (listed.setIfInBounds j true).getD k true = false →
          (∀ e ∈ ok.after, Region.binds .any e = true → e.on ≠ i) → oi.apart ops ok = true := fun k ok hk hki hun hno => by
        refine hfree k ok hk hki ?_ hno
        by_cases hjk : j = k
        · subst hjk; exact hjun
        · rw [getD_set_ne true hjk] at hun; exact hun
      refine wpOp_mono (fun a' w' h3 => ?_) h2
      have hS' : S w' := by rcases h3.2.1 with hk | hs; · rw [hKj] at hk; cases hk
                            · exact hs
      refine ⟨.inr hS', ih (listed.setIfInBounds j true) a' w' hfree' (ready_mono hr (Ne.symm hji)) h3.1 hS' ?_⟩
      rw [Array.setIfInBounds_comm _ _ hji]
      exact h3.2.2
end

/-- An order: numbers, and whether they are taken first. -/
def waitsB (ops : Array Oper) (j i : Nat) : Bool := match ops[j]? with
  | some o => o.after.any fun e => Region.binds .any e && e.on == i
  | none => true
def orderOk (ops : Array Oper) (ks : List Nat) : List (Nat × Bool) → Array Bool → Bool
  | [], listed => Region.ready .any ops listed == []
  | (i, true) :: r, listed => Region.free .any ops listed i && (Region.ready .any ops listed).contains i && ks.all (fun j => waitsB ops j i) && orderOk ops ks r (listed.setIfInBounds i true)
  | (i, false) :: r, listed => (Region.ready .any ops listed == [i]) && orderOk ops ks r (listed.setIfInBounds i true)

def HOPS (P : Program) (N : Nat) (ops : Array Oper) (Q : Post) (S : World → Prop) (ks : List Nat) : List (Nat × Bool) → Env → World → Prop
  | [], e, w => Q .normal e w
  | (i, true) :: r, e, w => ∀ o, ops[i]? = some o → S w ∧ ∃ b, guardB ops N e o = some b ∧
    if b then ∃ v, (∀ w', S w' → (execOp (ev e) { o with guard := none }).run P w' = .ok (.value v) w') ∧ HOPS P N ops Q S ks r (put e o.dst v) w else HOPS P N ops Q S ks r (put e o.dst undef) w
  | (i, false) :: r, e, w => ∀ o, ops[i]? = some o → opStep P N ops Q o (fun e' w' => (ks.contains i = true ∨ S w') ∧ HOPS P N ops Q S ks r e' w') e w

theorem HOPS.sound {P : Program} {N : Nat} {ops : Array Oper} {Q : Post} {S : World → Prop} {ks : List Nat} (hN : (ops.toList.all fun o => dstOk N o.dst) = true) (hs : Region.noSelect ops = true) (hQ : NoPanic Q) :
    ∀ (l : List (Nat × Bool)) (listed : Array Bool) (e : Env) (w : World) (a : Act), orderOk ops ks l listed = true → Is N a e → HOPS P N ops Q S ks l e w → wpAnyK P ops (lift N Q) S ks.contains l.length listed a w
  | [], listed, e, w, a, hok, ha, h => by
    simp only [orderOk, beq_iff_eq] at hok
    exact ⟨hok, e, ha, h⟩
  | (i, true) :: r, listed, e, w, a, hok, ha, h => by
    simp only [orderOk, Bool.and_eq_true] at hok
    obtain ⟨⟨⟨hf, hr⟩, hks⟩, hok'⟩ := hok
    have hr' : i ∈ Region.ready .any ops listed := by simpa using hr
    obtain ⟨_, oi, hoi, _⟩ := mem_ready.1 hr'
    obtain ⟨hS, b, hg, hb⟩ := h oi hoi
    have hw := QOPS.val1.wanted_of ha hg
    have hd : dstOk N oi.dst = true := by
      rw [List.all_eq_true] at hN
      exact hN oi (by have := Array.mem_of_getElem? hoi; simpa using this)
    have hx : execOp a.eval oi = execOp (ev e) { oi with guard := none } := by rw [ha.eval]; rfl
    have hKk : ∀ j oj, ops[j]? = some oj → ks.contains j = true → ∃ e ∈ oj.after, Region.binds .any e = true ∧ e.on = i := by
      intro j oj hoj hk
      have := List.all_eq_true.1 hks j (by simpa using hk)
      unfold waitsB at this
      rw [hoj] at this
      simp only [Array.any_eq_true, Bool.and_eq_true, beq_iff_eq] at this
      obtain ⟨k, hk, h1, h2⟩ := this
      exact ⟨_, Array.getElem_mem hk, h1, h2⟩
    have fin : ∀ v, YieldsIf P ops S oi v a → HOPS P N ops Q S ks r (put e oi.dst v) w → wpAnyK P ops (lift N Q) S ks.contains (r.length + 1) listed a w := fun v hy hn =>
      wpAnyK_first hoi (Region.noSelect_spec hs) (fun c a w ⟨e', _, hq⟩ => hQ c e' w hq) hKk r.length listed a w (Region.free_spec hoi hf) hr' hy hS
        (HOPS.sound hN hs hQ r _ _ w _ hok' (ha.put _ _ hd) hn)
    cases b with
    | true =>
      rw [if_pos rfl] at hb
      obtain ⟨v, hv, hn⟩ := hb
      exact fin v (.inl ⟨hw, fun w' hw' => by rw [hx]; exact hv w' hw'⟩) hn
    | false =>
      rw [if_neg (by simp)] at hb
      exact fin undef (.inr ⟨hw, rfl⟩) hb
  | (i, false) :: r, listed, e, w, a, hok, ha, h => by
    simp only [orderOk, Bool.and_eq_true, beq_iff_eq] at hok
    obtain ⟨hr, hok'⟩ := hok
    refine ⟨fun h0 => (by rw [h0] at hr; cases hr), fun j hj => ?_⟩
    rw [hr] at hj
    have hji : j = i := by simpa using hj
    subst hji
    have hr' : j ∈ Region.ready .any ops listed := by rw [hr]; simp
    obtain ⟨_, oi, hoi, _⟩ := mem_ready.1 hr'
    have hd : dstOk N oi.dst = true := by
      rw [List.all_eq_true] at hN
      exact hN oi (by have := Array.mem_of_getElem? hoi; simpa using this)
    have h' := h oi hoi a ha hd
    unfold wpOp
    simp only [hoi]
    split
    · rename_i hw
      rw [if_pos hw] at h'
      exact .inl (Oper.wp_mono (fun a' w' ⟨e', he', hn⟩ => ⟨hn.1, HOPS.sound hN hs hQ r _ e' w' a' hok' he' hn.2⟩) h')
    · rename_i hw
      rw [if_neg (by simpa using hw)] at h'
      obtain ⟨e', he', hn⟩ := h'
      exact ⟨hn.1, HOPS.sound hN hs hQ r _ e' w _ hok' he' hn.2⟩

theorem WP.held {P : Program} {N : Nat} {Q : Post} {e : Env} {w : World} {id : Nat} {ops : Array Oper} (S : World → Prop) (ks : List Nat) (ord : List (Nat × Bool)) (hQ : NoPanic Q)
    (hB : (P.follows .mixedOrders, Region.noSelect ops, ops.toList.all fun o => dstOk N o.dst, orderOk ops ks ord (Array.replicate ops.size false), Nat.beq ord.length ops.size) = (true, true, true, true, true))
    (h : HOPS P N ops Q S ks ord e w.drew) : WP P N (.region id ops true) Q e w := by
  simp only [Prod.mk.injEq] at hB
  obtain ⟨h1, h2, h3, h4, h5⟩ := hB
  intro a ha
  have h5' : ord.length = ops.size := Nat.eq_of_beq_eq_true h5
  refine wp_region_any h1 ?_
  rw [← h5']
  have := wpAny_of_K _ _ _ _ (HOPS.sound h3 h2 hQ ord _ e w.drew a h4 ha h)
  rw [← h5'] at this
  exact this

section
variable {P : Program} {N : Nat} {ops : Array Oper} {Q : Post} {S : World → Prop} {ks : List Nat} {e : Env} {w : World} {r : List (Nat × Bool)}
theorem HOPS.nil (h : Q .normal e w) : HOPS P N ops Q S ks [] e w := h
/-- One that comes up alone. -/
theorem HOPS.eff {i : Nat} (o : Oper) (ho : ops[i]? = some o) (h : opStep P N ops Q o (fun e' w' => (ks.contains i = true ∨ S w') ∧ HOPS P N ops Q S ks r e' w') e w) : HOPS P N ops Q S ks ((i, false) :: r) e w := by
  intro o' ho'
  rw [ho] at ho'; cases ho'
  exact h
/-- Those that are taken first, in a batch. -/
theorem HOPS.batch {l : List (Nat × Bool)} (k : Nat) (H : Hints) (ls : List Value) (live : List Nat) (vs : List Value) (lo : List Oper) (hlo : ((l.take k).map fun p => (ops[p.1]?, p.2)) = lo.map fun o => (some o, true)) (hS : S w)
    (h : ∀ w, S w → QB P w H ops N lo e ls live vs) (next : ∀ base, HOPS P N ops Q S ks (l.drop k) (K.mk base live vs) w) : HOPS P N ops Q S ks l e w := by
  have key : ∀ (r l1 : List (Nat × Bool)) (lo : List Oper) (e e' : Env) (ls : List Value), (l1.map fun p => (ops[p.1]?, p.2)) = lo.map (fun o => (some o, true)) → (∀ w, S w → ∃ vc, All vc ∧ runB P w H ops N lo e ls = some (e', vc)) →
      HOPS P N ops Q S ks r e' w → HOPS P N ops Q S ks (l1 ++ r) e w := by
    intro r l1
    induction l1 with
    | nil =>
      intro lo e e' ls hl hh hr
      cases lo with
      | nil =>
        obtain ⟨vc, _, h2⟩ := hh w hS
        simp [runB] at h2
        rw [← h2.1] at hr
        exact hr
      | cons o lo => simp at hl
    | cons p l1 ih =>
      intro lo e e' ls hl hh hr
      cases lo with
      | nil => simp at hl
      | cons o lo =>
        obtain ⟨i, b⟩ := p
        simp only [List.map_cons, List.cons.injEq, Prod.mk.injEq] at hl
        obtain ⟨⟨hoi, rfl⟩, hl'⟩ := hl
        intro o' ho'
        rw [hoi] at ho'; cases ho'
        obtain ⟨vc0, hv0, h0⟩ := hh w hS
        unfold runB at h0
        split at h0
        · rename_i hg
          split at h0
          · rename_i v vc1 ls' hp
            have hall : ∀ w, S w → ∃ vc1 vc2, pureOp P w H e ls { o with guard := none } = some (v, vc1, ls') ∧ All vc1 ∧ All vc2 ∧ runB P w H ops N lo (put e o.dst v) ls' = some (e', vc2) := by
              intro w hw
              obtain ⟨vc, hv, h1⟩ := hh w hw
              unfold runB at h1
              rw [hg] at h1
              simp only at h1
              split at h1
              · rename_i v' vc1' ls'' hp'
                obtain ⟨rfl, rfl⟩ := pureOp_same hp hp'
                split at h1
                · rename_i e'' vc2 hrun
                  simp at h1; obtain ⟨rfl, rfl⟩ := h1
                  have := All.append hv
                  exact ⟨vc1', vc2, hp', this.1, this.2, hrun⟩
                · simp at h1
              · simp at h1
            refine ⟨hS, true, hg, ?_⟩
            rw [if_pos rfl]
            refine ⟨v, fun w' hw' => ?_, ih lo (put e o.dst v) e' ls' hl' (fun w' hw' => ?_) hr⟩
            · obtain ⟨vc1, vc2, a1, a2, _, _⟩ := hall w' hw'
              exact run_pureOp a1 a2
            · obtain ⟨vc1, vc2, _, _, a3, a4⟩ := hall w' hw'
              exact ⟨vc2, a3, a4⟩
          · simp at h0
        · rename_i hg
          refine ⟨hS, false, hg, ?_⟩
          rw [if_neg (by simp)]
          refine ih lo (put e o.dst undef) e' ls hl' (fun w' hw' => ?_) hr
          obtain ⟨vc, hv, h1⟩ := hh w' hw'
          unfold runB at h1
          rw [hg] at h1
          exact ⟨vc, hv, h1⟩
        · simp at h0
  obtain ⟨vc0, hv0, h0⟩ := h w hS
  unfold K.batch at h0
  split at h0
  · rename_i e' vc' hr0
    simp at h0
    obtain ⟨hvs, rfl⟩ := h0
    have := key (l.drop k) (l.take k) lo e e' ls hlo (fun w' hw' => ?_) (by have := next e'; rwa [mk_self hvs] at this)
    · rwa [List.take_append_drop] at this
    · obtain ⟨vc, hv, h1⟩ := h w' hw'
      unfold K.batch at h1
      split at h1
      · rename_i e2 vc2 hr2
        simp at h1
        obtain ⟨_, rfl⟩ := h1
        exact ⟨vc2, hv, by rw [hr2, runB_same hr0 hr2]⟩
      · simp at h1
  · simp at h0

def pickOps (ops : Array Oper) (l : List (Nat × Bool)) : List Oper := l.filterMap fun p => ops[p.1]?
def pickOk (ops : Array Oper) (l : List (Nat × Bool)) : Bool := l.all fun p => p.2 && (ops[p.1]?).isSome
theorem pickOps_map {ops : Array Oper} : ∀ {l : List (Nat × Bool)}, pickOk ops l = true → (l.map fun p => (ops[p.1]?, p.2)) = (pickOps ops l).map fun o => (some o, true)
  | [], _ => rfl
  | (i, b) :: l, h => by
    simp only [pickOk, List.all_cons, Bool.and_eq_true] at h
    obtain ⟨⟨hb, hs⟩, hl⟩ := h
    obtain ⟨o, ho⟩ := Option.isSome_iff_exists.1 hs
    have ih := pickOps_map (ops := ops) (l := l) hl
    simp only [List.map_cons, pickOps, List.filterMap_cons, ho]
    rw [ih]
    have hb' : b = true := hb
    rw [hb']; rfl
theorem HOPS.take {l : List (Nat × Bool)} (k : Nat) (H : Hints) (ls : List Value) (live : List Nat) (vs : List Value) (hlo : pickOk ops (l.take k) = true) (hS : S w)
    (h : ∀ w, S w → QB P w H ops N (pickOps ops (l.take k)) e ls live vs) (next : ∀ base, HOPS P N ops Q S ks (l.drop k) (K.mk base live vs) w) : HOPS P N ops Q S ks l e w :=
  HOPS.batch k H ls live vs _ (pickOps_map hlo) hS h next
end

noncomputable def bo (p : Prop) : Bool := @decide p (Classical.propDecidable p)
theorem Bp.bo {p : Prop} : Bp (bo p) p := by unfold Bp K.bo; simp
theorem Bp.eq_bo {b : Bool} {p : Prop} (h : Bp b p) : b = K.bo p := by
  have h2 : Bp (K.bo p) p := Bp.bo
  unfold Bp at *
  rw [Bool.eq_iff_iff, h, h2]

theorem batch_one {P : Program} {N : Nat} {ops : Array Oper} {Q : Post} {e : Env} {w : World} {o : Oper} (H : Hints) (ls : List Value) (live : List Nat) (vs : List Value) {vc : List Prop} (pf : Prf vc) {next : Env → World → Prop}
    (h : batch P w H ops N [o] e ls live = some (vs, vc)) (hn : ∀ base, next (K.mk base live vs) w) : opStep P N ops Q o next e w := by
  unfold batch at h
  split at h
  · rename_i e' vc' hr
    simp at h
    obtain ⟨hvs, rfl⟩ := h
    have hn' := hn e'
    rw [mk_self hvs] at hn'
    have hv := pf.all
    clear pf
    unfold runB at hr
    split at hr
    · rename_i hg
      refine guard_step hg ?_
      rw [if_pos rfl]
      split at hr
      · rename_i v vc1 ls' hp
        split at hr
        · rename_i e'' vc2 hrun
          simp at hr; obtain ⟨rfl, rfl⟩ := hr
          simp [runB] at hrun
          obtain ⟨rfl, rfl⟩ := hrun
          exact opStep.val rfl (run_pureOp hp (All.append hv).1) hn'
        · simp at hr
      · simp at hr
    · rename_i hg
      refine guard_step hg ?_
      rw [if_neg (by simp)]
      simp [runB] at hr
      obtain ⟨rfl, rfl⟩ := hr
      exact hn'
    · simp at hr
  · simp at h
theorem HOPS.one {P : Program} {N : Nat} {ops : Array Oper} {Q : Post} {S : World → Prop} {ks : List Nat} {e : Env} {w : World} {r : List (Nat × Bool)} {i : Nat} (o : Oper) (ho : ops[i]? = some o) (H : Hints) (ls : List Value) (live : List Nat) (vs : List Value) {vc : List Prop} (pf : Prf vc)
    (h : K.batch P w H ops N [o] e ls live = some (vs, vc)) (hS : S w) (hn : ∀ base, HOPS P N ops Q S ks r (K.mk base live vs) w) : HOPS P N ops Q S ks ((i, false) :: r) e w :=
  HOPS.eff o ho (batch_one H ls live vs pf h fun base => ⟨.inr hS, hn base⟩)
theorem QOPS.re {P : Program} {N : Nat} {ops : Array Oper} {C : World → Prop} {Q : Post} {l : List Oper} {base : Env} {ks : List Nat} {vs : List Value} (vs' : List Value) (h : vs = vs') (k : QOPS P N ops C Q l (K.mk base ks vs')) : QOPS P N ops C Q l (K.mk base ks vs) := by rw [h]; exact k
end Go.Proofs.YtbpedjefoajegaaDoor.K
