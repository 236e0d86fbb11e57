/- A strings.Builder as a thing in memory. -/
import Derived.Test.YtbpedjefoajegaaDoorStr
import Derived.Test.YtbpedjefoajegaaDoorCoreQ
import Derived.Lib.Builder
namespace Go.Proofs.YtbpedjefoajegaaDoor.K
open Go Go.RowKit
set_option linter.unusedVariables false
def Res.bld (T e : TypeId) (b : Nat) (p v : Value) (bs : List Value) : Res :=
  ⟨fun k => k = b ∨ v.ownBlock = some k, fun w => w.heap[b]? = some (.cells #[p, v] T (0, 0)) ∧ w.ownsRow 0 e 1 v bs.length bs ∧ v.ownBlock ≠ some b ∧ (p = .pointer none ∨ p = .pointer (some ⟨b, 0, none⟩)), by
    rintro w w' h ⟨h1, h2, h3, h4⟩
    refine ⟨(h b (.inl rfl)).trans h1, ⟨h2.1, ?_⟩, h3, h4⟩
    rcases h2.2 with h2 | ⟨g, cap, cur, hv, hg, hh, r⟩
    · exact .inl h2
    · exact .inr ⟨g, cap, cur, hv, hg, by rw [h g (.inr (by rw [hv]; rfl))]; exact hh, r⟩⟩
theorem owns_up {w : World} {B : Nat} {e : TypeId} {v : Value} {n : Nat} {xs : List Value} (h : w.ownsRow 0 e 1 v n xs) (hB : ∀ k, v.ownBlock = some k → B ≤ k) : w.ownsRow B e 1 v n xs := by
  refine ⟨h.1, ?_⟩
  rcases h.2 with h2 | ⟨g, cap, cur, hv, hg, hh, r⟩
  · exact .inl h2
  · exact .inr ⟨g, cap, cur, hv, hB g (by rw [hv]; rfl), hh, r⟩
theorem owns_dn {w : World} {B : Nat} {e : TypeId} {v : Value} {n : Nat} {xs : List Value} (h : w.ownsRow B e 1 v n xs) : w.ownsRow 0 e 1 v n xs ∧ ∀ k, v.ownBlock = some k → B ≤ k ∧ k < w.heap.size := by
  refine ⟨⟨h.1, ?_⟩, fun k hk => ?_⟩
  · rcases h.2 with h2 | ⟨g, cap, cur, hv, hg, hh, r⟩
    · exact .inl h2
    · exact .inr ⟨g, cap, cur, hv, Nat.zero_le _, hh, r⟩
  · rcases h.2 with h2 | ⟨g, cap, cur, hv, hg, hh, r⟩
    · rw [h2.1] at hk; cases hk
    · rw [hv] at hk
      obtain rfl : g = k := by simpa [Value.ownBlock] using hk
      exact ⟨hg, (Array.getElem?_eq_some_iff.1 hh).1⟩
section
variable {w w0 w' : World} {L : List Res} {T e : TypeId} {b : Nat} {p v : Value} {bs : List Value}
/-- What the kit's contracts ask. -/
theorem Hp.isB (h : Hp w0 Non (Res.bld T e b p v bs :: L) w) : Lib.IsBuilder T e w0.heap.size b bs w := by
  obtain ⟨h1, h2, h3, h4⟩ := Hp.get (A := []) h
  have hf : ∀ k, (Res.bld T e b p v bs).foot k → w0.heap.size ≤ k := fun k hk => Hp.ge (A := []) h k hk
  rcases h4 with rfl | rfl
  · exact .inl ⟨hf b (.inl rfl), v, h1, owns_up h2 fun k hk => hf k (.inr hk), h3⟩
  · exact .inr ⟨hf b (.inl rfl), v, h1, owns_up h2 fun k hk => hf k (.inr hk), h3⟩
theorem Hp.le0 (h : Hp w0 Non L w) : w0.heap.size ≤ w.heap.size := h.fr.size
/-- What they leave. -/
theorem Hp.ofB {bs' : List Value} (h : Hp w0 Non (Res.bld T e b p v bs :: L) w) (k : Lib.BuilderAt T e w0.heap.size b (.pointer (some ⟨b, 0, none⟩)) bs' w') (hB : Below w0.heap.size w w') :
    ∃ v', Hp w0 Non [Res.bld T e b (.pointer (some ⟨b, 0, none⟩)) v' bs'] w' := by
  obtain ⟨k1, v', k2, k3, k4⟩ := k
  obtain ⟨o1, o2⟩ := owns_dn k3
  have hlt : b < w'.heap.size := (Array.getElem?_eq_some_iff.1 k2).1
  refine ⟨v', ⟨Fram.of_below (h.fr.below.trans hB), ?_, ?_, by simp⟩⟩
  · intro r hr; simp at hr; subst hr; exact ⟨k2, o1, k4, .inr rfl⟩
  · intro r hr j hj; simp at hr; subst hr
    rcases hj with rfl | hj
    · exact ⟨hlt, .inl k1⟩
    · exact ⟨(o2 j hj).2, .inl (o2 j hj).1⟩
/-- A new builder. -/
theorem Hp.newB {g : Nat} (h : Hp w0 Non (Res.row g [.pointer none, .slice none 0 0] T :: L) w) : Hp w0 Non (Res.bld T e g (.pointer none) (.slice none 0 0) [] :: L) w :=
  Hp.turn (A := []) h (Res.bld T e g (.pointer none) (.slice none 0 0) []) (fun q => ⟨q, World.ownsRow_nil _ _ _ _, by simp [Value.ownBlock], .inl rfl⟩) fun k hk => by
    rcases hk with hk | hk
    · exact hk
    · simp [Value.ownBlock] at hk
end
end Go.Proofs.YtbpedjefoajegaaDoor.K
