/- Regions that draw, in which more than one effect may come up: every order. -/
import Derived.Test.YtbpedjefoajegaaDoorCoreO
namespace Go.Proofs.YtbpedjefoajegaaDoor.K
open Go Go.RowKit
set_option linter.unusedVariables false

def HT (P : Program) (N : Nat) (ops : Array Oper) (Q : Post) (S : World → Prop) (ks : List Nat) : Nat → Array Bool → Env → World → Prop
  | 0, listed, e, w => Region.ready .any ops listed = [] ∧ Q .normal e w
  | n + 1, listed, e, w =>
    (∃ i o, ops[i]? = some o ∧ Region.free .any ops listed i = true ∧ i ∈ Region.ready .any ops listed ∧ ks.all (fun j => waitsB ops j i) = true ∧ S w ∧ ∃ b, guardB ops N e o = some b ∧
      if b then ∃ v, (∀ w', S w' → (execOp (ev e) { o with guard := none }).run P w' = .ok (.value v) w') ∧ HT P N ops Q S ks n (listed.setIfInBounds i true) (put e o.dst v) w else HT P N ops Q S ks n (listed.setIfInBounds i true) (put e o.dst undef) w) ∨
    (Region.ready .any ops listed ≠ [] ∧ ∀ j ∈ Region.ready .any ops listed, ∀ o, ops[j]? = some o → opStep P N ops Q o (fun e' w' => (ks.contains j = true ∨ S w') ∧ HT P N ops Q S ks n (listed.setIfInBounds j true) e' w') e w)
theorem HT.sound {P : Program} {N : Nat} {ops : Array Oper} {Q : Post} {S : World → Prop} {ks : List Nat} (hN : (ops.toList.all fun o => dstOk N o.dst) = true) (hs : Region.noSelect ops = true) (hQ : NoPanic Q) :
    ∀ (n : Nat) (listed : Array Bool) (e : Env) (w : World) (a : Act), Is N a e → HT P N ops Q S ks n listed e w → wpAnyK P ops (lift N Q) S ks.contains n listed a w
  | 0, listed, e, w, a, ha, h => ⟨h.1, e, ha, h.2⟩
  | n + 1, listed, e, w, a, ha, .inl ⟨i, oi, hoi, hf, hr', hks, hS, b, hg, hb⟩ => by
    have hw := QOPS.val1.wanted_of ha hg
    have hd : dstOk N oi.dst = true := by
      rw [List.all_eq_true] at hN
      exact hN oi (by have := Array.mem_of_getElem? hoi; simpa using this)
    have hx : execOp a.eval oi = execOp (ev e) { oi with guard := none } := by rw [ha.eval]; rfl
    have hKk : ∀ j oj, ops[j]? = some oj → ks.contains j = true → ∃ e ∈ oj.after, Region.binds .any e = true ∧ e.on = i := by
      intro j oj hoj hk
      have := List.all_eq_true.1 hks j (by simpa using hk)
      unfold waitsB at this
      rw [hoj] at this
      simp only [Array.any_eq_true, Bool.and_eq_true, beq_iff_eq] at this
      obtain ⟨k, hk, h1, h2⟩ := this
      exact ⟨_, Array.getElem_mem hk, h1, h2⟩
    have fin : ∀ v, YieldsIf P ops S oi v a → HT P N ops Q S ks n (listed.setIfInBounds i true) (put e oi.dst v) w → wpAnyK P ops (lift N Q) S ks.contains (n + 1) listed a w := fun v hy hn =>
      wpAnyK_first hoi (Region.noSelect_spec hs) (fun c a w ⟨e', _, hq⟩ => hQ c e' w hq) hKk n listed a w (Region.free_spec hoi hf) hr' hy hS
        (HT.sound hN hs hQ n _ _ w _ (ha.put _ _ hd) hn)
    cases b with
    | true =>
      rw [if_pos rfl] at hb
      obtain ⟨v, hv, hn⟩ := hb
      exact fin v (.inl ⟨hw, fun w' hw' => by rw [hx]; exact hv w' hw'⟩) hn
    | false =>
      rw [if_neg (by simp)] at hb
      exact fin undef (.inr ⟨hw, rfl⟩) hb
  | n + 1, listed, e, w, a, ha, .inr ⟨h0, h⟩ => by
    refine ⟨fun h => absurd h h0, fun j hj => ?_⟩
    obtain ⟨_, oi, hoi, _⟩ := mem_ready.1 hj
    have hd : dstOk N oi.dst = true := by
      rw [List.all_eq_true] at hN
      exact hN oi (by have := Array.mem_of_getElem? hoi; simpa using this)
    have h' := h j hj oi hoi a ha hd
    unfold wpOp
    simp only [hoi]
    split
    · rename_i hw
      rw [if_pos hw] at h'
      exact .inl (Oper.wp_mono (fun a' w' ⟨e', he', hn⟩ => ⟨hn.1, HT.sound hN hs hQ n _ e' w' a' he' hn.2⟩) h')
    · rename_i hw
      rw [if_neg (by simpa using hw)] at h'
      obtain ⟨e', he', hn⟩ := h'
      exact ⟨hn.1, HT.sound hN hs hQ n _ e' w _ he' hn.2⟩
theorem WP.tree {P : Program} {N : Nat} {Q : Post} {e : Env} {w : World} {id : Nat} {ops : Array Oper} (S : World → Prop) (ks : List Nat) (n : Nat) (hQ : NoPanic Q)
    (hB : (P.follows .mixedOrders, Region.noSelect ops, ops.toList.all fun o => dstOk N o.dst, Nat.beq n ops.size) = (true, true, true, true))
    (h : HT P N ops Q S ks n (Array.replicate n false) e w.drew) : WP P N (.region id ops true) Q e w := by
  simp only [Prod.mk.injEq] at hB
  obtain ⟨h1, h2, h3, h5⟩ := hB
  intro a ha
  have h5' : n = ops.size := Nat.eq_of_beq_eq_true h5
  refine wp_region_any h1 ?_
  subst h5'
  exact wpAny_of_K _ _ _ _ (HT.sound h3 h2 hQ _ _ e w.drew a ha h)
def takeOk (ops : Array Oper) (ks : List Nat) : List (Nat × Bool) → Array Bool → Bool
  | [], _ => true
  | (i, b) :: r, listed => b && Region.free .any ops listed i && (Region.ready .any ops listed).contains i && ks.all (fun j => waitsB ops j i) && takeOk ops ks r (listed.setIfInBounds i true)
def listAll : List (Nat × Bool) → Array Bool → Array Bool
  | [], l => l
  | (i, _) :: r, l => listAll r (l.setIfInBounds i true)
def QN (K : Env → World → Prop) : Post := fun x e w => match x with | .normal => K e w | _ => False
theorem QN.n {K : Env → World → Prop} {e : Env} {w : World} (h : K e w) : QN K .normal e w := h
section
variable {P : Program} {N : Nat} {ops : Array Oper} {Q : Post} {S : World → Prop} {ks : List Nat} {e : Env} {w : World} {n : Nat}
theorem HT.pre {n : Nat} : ∀ {l : List (Nat × Bool)} {listed : Array Bool} {e : Env}, takeOk ops ks l listed = true → HOPS P N ops (QN fun e w => HT P N ops Q S ks n (listAll l listed) e w) S ks l e w → HT P N ops Q S ks (l.length + n) listed e w
  | [], listed, e, _, h => by rw [show ([] : List (Nat × Bool)).length + n = n from Nat.zero_add n]; exact h
  | (i, b) :: r, listed, e, hok, h => by
    simp only [takeOk, Bool.and_eq_true] at hok
    obtain ⟨⟨⟨⟨rfl, hf⟩, hr⟩, hks⟩, hok'⟩ := hok
    have hr' : i ∈ Region.ready .any ops listed := by simpa using hr
    obtain ⟨_, oi, hoi, _⟩ := mem_ready.1 hr'
    obtain ⟨hS, b, hg, hb⟩ := h oi hoi
    rw [show ((i, true) :: r).length + n = (r.length + n) + 1 from by simp; omega]
    refine .inl ⟨i, oi, hoi, hf, hr', hks, hS, b, hg, ?_⟩
    cases b with
    | true =>
      rw [if_pos rfl] at hb ⊢
      obtain ⟨v, hv, hn⟩ := hb
      exact ⟨v, hv, HT.pre hok' hn⟩
    | false =>
      rw [if_neg (by simp)] at hb ⊢
      exact HT.pre hok' hb
theorem HT.done {listed : Array Bool} (hr : Region.ready .any ops listed = []) (h : Q .normal e w) : HT P N ops Q S ks 0 listed e w := ⟨hr, h⟩
/-- For each of these. -/
def AllR (P : Program) (N : Nat) (ops : Array Oper) (Q : Post) (S : World → Prop) (ks : List Nat) (n : Nat) (listed : Array Bool) (e : Env) (w : World) (rs : List Nat) : Prop :=
  ∀ j ∈ rs, ∀ o, ops[j]? = some o → opStep P N ops Q o (fun e' w' => (ks.contains j = true ∨ S w') ∧ HT P N ops Q S ks n (listed.setIfInBounds j true) e' w') e w
theorem AllR.nil {listed : Array Bool} : AllR P N ops Q S ks n listed e w [] := fun j hj => by simp at hj
theorem AllR.cons {listed : Array Bool} {j : Nat} {rs : List Nat} (o : Oper) (ho : ops[j]? = some o) (h : opStep P N ops Q o (fun e' w' => (ks.contains j = true ∨ S w') ∧ HT P N ops Q S ks n (listed.setIfInBounds j true) e' w') e w) (k : AllR P N ops Q S ks n listed e w rs) : AllR P N ops Q S ks n listed e w (j :: rs) := by
  intro i hi o' ho'
  rcases List.mem_cons.1 hi with rfl | hi
  · rw [ho] at ho'; cases ho'; exact h
  · exact k i hi o' ho'
theorem HT.br {listed : Array Bool} (rs : List Nat) (hr : Region.ready .any ops listed = rs) (hne : rs ≠ []) (h : AllR P N ops Q S ks n listed e w rs) : HT P N ops Q S ks (n + 1) listed e w :=
  .inr ⟨by rw [hr]; exact hne, by rw [hr]; exact h⟩
end
end Go.Proofs.YtbpedjefoajegaaDoor.K
