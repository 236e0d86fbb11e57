/- Calls whose values stand in blocks of their own, with one byte (7) behind each. -/
import Derived.Test.YthdkbbpiaeaojaaLinF
import Derived.Test.YthdkbbpiaeaojaaCoreZ
import Derived.Test.YthdkbbpiaeaojaaCoreT
namespace Go.Proofs.Ythdkbbpiaeaojaa.K
open Go Go.RowKit
set_option linter.unusedVariables false

def Res.vm (F : Nat → Prop) (cl : List GCall) (bs : List (List Int)) : Res :=
  ⟨F, fun w => cl.length = bs.length ∧ ∀ i, i < cl.length → F (adr cl[i]!.Value.a).block ∧ bs[i]!.length = cl[i]!.Value.n ∧ cl[i]!.Value.n + 1 ≤ cl[i]!.Value.c ∧ SlR w cl[i]!.Value.a (cl[i]!.Value.n + 1) ((bs[i]! ++ [7]).flatMap u8c), by
    rintro w w' h ⟨h1, h2⟩
    refine ⟨h1, fun i hi => ?_⟩
    obtain ⟨a, b, c, d⟩ := h2 i hi
    exact ⟨a, b, c, ⟨d.rd.keep fun _ => h _ a, d.some⟩⟩⟩
section
variable {w w0 : World} {M : Nat → Prop} {L : List Res} {F : Nat → Prop} {cl : List GCall} {bs : List (List Int)}
theorem Hp.vmNil (h : Hp w0 M L w) : Hp w0 M (Res.vm (fun _ => False) [] [] :: L) w :=
  h.new (Fram.refl _ _) _ ⟨rfl, fun i hi => by simp at hi⟩ fun b hb => by cases hb
theorem Hp.vmPush {E n c : Nat} {a : Option Addr} {ns : List Int} (x : GCall) (h : Hp w0 M (Res.own E 1 (.slice a (n + 1) c) (n + 1) ((ns ++ [7]).flatMap u8c) :: Res.vm F cl bs :: L) w) (hn : ns.length = n) (hx : x.Value = ⟨a, n, c⟩) :
    Hp w0 M (Res.vm (fun k => F k ∨ (Value.slice a (n + 1) c).ownBlock = some k) (cl ++ [x]) (bs ++ [ns]) :: L) w := by
  have hap := h.apart
  rw [List.pairwise_cons, List.pairwise_cons] at hap
  obtain ⟨h1, h2, h3⟩ := hap
  have hb : (Res.own E 1 (.slice a (n + 1) c) (n + 1) ((ns ++ [7]).flatMap u8c)).holds w := h.holds _ (by simp)
  have hv : (Res.vm F cl bs).holds w := h.holds (Res.vm F cl bs) (by simp)
  obtain ⟨v1, v2⟩ := hv
  have hblk : (Value.slice a (n + 1) c).ownBlock = some (adr a).block := by
    rcases hb.2 with ⟨q, q2⟩ | ⟨g, cap, cur, q, _⟩
    · omega
    · simp at q
      obtain ⟨rfl, rfl⟩ := q
      rfl
  refine ⟨h.fr, ?_, ?_, ?_⟩
  · intro r hr
    rcases List.mem_cons.1 hr with rfl | hr
    · refine ⟨by simp [v1], fun i hi => ?_⟩
      have hi' : i < cl.length + 1 := by simpa using hi
      rw [app_bang hi', app_bang (by omega), ← v1]
      by_cases hlt : i < cl.length
      · rw [if_pos hlt, if_pos hlt]
        obtain ⟨q1, q2⟩ := v2 i hlt
        exact ⟨.inl q1, q2⟩
      · rw [if_neg hlt, if_neg hlt, hx]
        exact ⟨.inr hblk, hn, own_cap hb, SlR.own hb⟩
    · exact h.holds r (by simp [hr])
  · intro r hr k hk
    rcases List.mem_cons.1 hr with rfl | hr
    · rcases hk with hk | hk
      · exact h.range (Res.vm F cl bs) (by simp) k hk
      · exact h.range (Res.own E 1 (.slice a (n + 1) c) (n + 1) ((ns ++ [7]).flatMap u8c)) (by simp) k hk
    · exact h.range r (by simp [hr]) k hk
  · rw [List.pairwise_cons]
    refine ⟨fun r hr k hk hk2 => ?_, h3⟩
    rcases hk with hk | hk
    · exact h2 r hr k hk hk2
    · exact h1 r (by simp [hr]) k hk hk2
theorem vm_vb (h : (Res.vm F cl bs).holds w) {i : Nat} (hi : i < cl.length) : VB w cl[i]!.Value ∧ valAt w cl[i]!.Value = strOf bs[i]! := by
  obtain ⟨_, b, _, d⟩ := h.2 i hi
  refine VB.mk ?_ b
  have := slr_take2 (f := u8c) (sz := 1) (k := cl[i]!.Value.n) (fun _ => rfl) d (by omega)
  rwa [List.take_left' b] at this
theorem vm_mem (h : (Res.vm F cl bs).holds w) : ∀ x ∈ cl, VB w x.Value := by
  intro x hx
  obtain ⟨i, hi⟩ := List.mem_iff_getElem?.1 hx
  have hlt : i < cl.length := (List.getElem?_eq_some_iff.1 hi).1
  have := (vm_vb h hlt).1
  rw [get_bang hlt] at hi
  cases hi
  exact this
end
end Go.Proofs.Ythdkbbpiaeaojaa.K
