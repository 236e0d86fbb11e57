/- Many things in memory as one. -/
import Derived.Test.YtbpedjefoajegaaDoorCoreS
namespace Go.Proofs.YtbpedjefoajegaaDoor.K
open Go Go.RowKit

section
variable {w w0 w' : World} {M : Nat → Prop} {A B L : List Res}
/-- All of a list, as one thing. -/
def Res.all (rs : List Res) : Res :=
  ⟨fun k => ∃ r ∈ rs, r.foot k, fun w => (∀ r ∈ rs, r.holds w) ∧ rs.Pairwise fun (r s : Res) => ∀ b : Nat, r.foot b → ¬ s.foot b, fun h hw => ⟨fun r hr => r.stable (fun b hb => h b ⟨r, hr, hb⟩) (hw.1 r hr), hw.2⟩⟩
theorem Hp.allNil (h : Hp w0 M L w) : Hp w0 M (Res.all [] :: L) w :=
  h.new (Fram.refl _ _) _ ⟨by simp, List.Pairwise.nil⟩ fun b hb => by obtain ⟨r, hr, _⟩ := hb; simp at hr
theorem Hp.allPush {rs : List Res} {r : Res} (h : Hp w0 M (r :: Res.all rs :: L) w) : Hp w0 M (Res.all (rs ++ [r]) :: L) w := by
  have hap := h.apart
  rw [List.pairwise_cons, List.pairwise_cons] at hap
  obtain ⟨h1, h2, h3⟩ := hap
  have hr : r.holds w := h.holds r (by simp)
  have hrs : (Res.all rs).holds w := h.holds _ (by simp)
  refine ⟨h.fr, ?_, ?_, ?_⟩
  · intro s hs
    rcases List.mem_cons.1 hs with rfl | hs
    · refine ⟨fun t ht => ?_, ?_⟩
      · rcases List.mem_append.1 ht with q | q
        · exact hrs.1 t q
        · simp at q; subst q; exact hr
      · rw [List.pairwise_append]
        refine ⟨hrs.2, by simp, fun u hu t ht b hb hb2 => ?_⟩
        simp at ht
        subst ht
        exact h1 (Res.all rs) (by simp) b hb2 ⟨u, hu, hb⟩
    · exact h.holds s (by simp [hs])
  · intro s hs b hb
    rcases List.mem_cons.1 hs with rfl | hs
    · obtain ⟨t, ht, hb⟩ := hb
      rcases List.mem_append.1 ht with q | q
      · exact h.range (Res.all rs) (by simp) b ⟨t, q, hb⟩
      · simp at q; subst q; exact h.range t (by simp) b hb
    · exact h.range s (by simp [hs]) b hb
  · rw [List.pairwise_cons]
    refine ⟨fun s hs b hb hb2 => ?_, h3⟩
    obtain ⟨t, ht, hb⟩ := hb
    rcases List.mem_append.1 ht with q | q
    · exact h2 s hs b ⟨t, q, hb⟩ hb2
    · simp at q; subst q; exact h1 s (by simp [hs]) b hb hb2
theorem Res.all_get {rs : List Res} {r : Res} (h : (Res.all rs).holds w) (hr : r ∈ rs) : r.holds w := h.1 r hr
/-- What a callee made is the caller's. -/
theorem Hp.made {r : Res} (h : Hp w0 M L w) (k : Hp w Non [r] w') : Hp w0 M (r :: L) w' :=
  h.new k.fr r (k.holds r (by simp)) fun b hb => by
    obtain ⟨h1, h2⟩ := k.range r (by simp) b hb
    rcases h2 with h2 | h2
    · exact ⟨h2, h1⟩
    · exact h2.elim
end
end Go.Proofs.YtbpedjefoajegaaDoor.K
