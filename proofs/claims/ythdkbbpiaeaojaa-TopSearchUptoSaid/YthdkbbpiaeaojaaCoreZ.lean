/- Calls and their values' bytes: what is written once and then read. -/
import Derived.Test.YthdkbbpiaeaojaaLinF
import Derived.Test.YthdkbbpiaeaojaaCoreY
namespace Go.Proofs.Ythdkbbpiaeaojaa.K
open Go Go.RowKit

theorem VB.keep {w w' : World} {s : SlH} (h : VB w s) (hb : 0 < s.n → w'.heap[(adr s.a).block]? = w.heap[(adr s.a).block]?) : VB w' s ∧ valAt w' s = valAt w s := by
  have hs : SlR w' s.a s.n ((bytesAt w s).flatMap u8c) := by
    refine ⟨?_, h.some⟩
    rcases Nat.eq_zero_or_pos s.n with h0 | h0
    · have : bytesAt w s = [] := List.eq_nil_of_length_eq_zero (by rw [bytesAt_len]; exact h0)
      rw [this]
      intro j u hu
      simp at hu
    · exact h.rd.keep fun _ => hb h0
  exact VB.mk hs (bytesAt_len w s)
/-- The calls' values, in blocks of F: their bytes are these. -/
def Res.vl (F : Nat → Prop) (cl : List GCall) (vs : List ByteArray) : Res :=
  ⟨F, fun w => cl.length = vs.length ∧ ∀ i, i < cl.length → (0 < cl[i]!.Value.n → F (adr cl[i]!.Value.a).block) ∧ VB w cl[i]!.Value ∧ valAt w cl[i]!.Value = vs[i]!, by
    rintro w w' h ⟨h1, h2⟩
    refine ⟨h1, fun i hi => ?_⟩
    obtain ⟨a, b, c⟩ := h2 i hi
    obtain ⟨d, e⟩ := b.keep (w' := w') fun h0 => h _ (a h0)
    exact ⟨a, d, e.trans c⟩⟩
section
variable {w w0 : World} {M : Nat → Prop} {L : List Res}
theorem Hp.vlNil (h : Hp w0 M L w) : Hp w0 M (Res.vl (fun _ => False) [] [] :: L) w :=
  h.new (Fram.refl _ _) _ ⟨rfl, fun i hi => by simp at hi⟩ fun b hb => by cases hb
theorem app_bang {α : Type} [Inhabited α] {l : List α} {x : α} {i : Nat} (h : i < l.length + 1) : (l ++ [x])[i]! = if i < l.length then l[i]! else x := by
  rw [List.getElem!_eq_getElem?_getD, List.getElem!_eq_getElem?_getD, List.getElem?_append]
  by_cases h1 : i < l.length
  · simp [h1]
  · obtain rfl : i = l.length := by omega
    simp
theorem Hp.vlPush {F : Nat → Prop} {cl : List GCall} {vs : List ByteArray} {b c : Nat} {s : ByteArray} (x : GCall) (h : Hp w0 M (Res.bs b s :: Res.vl F cl vs :: L) w) (hx : x.Value = ⟨some ⟨b, 0, none⟩, s.size, c⟩) :
    Hp w0 M (Res.vl (fun k => F k ∨ k = b) (cl ++ [x]) (vs ++ [s]) :: L) w := by
  have hap := h.apart
  rw [List.pairwise_cons, List.pairwise_cons] at hap
  obtain ⟨h1, h2, h3⟩ := hap
  have hb : (Res.bs b s).holds w := h.holds _ (by simp)
  have hv : (Res.vl F cl vs).holds w := h.holds (Res.vl F cl vs) (by simp)
  obtain ⟨v1, v2⟩ := hv
  have hbs := VB.bsr (c := c) hb
  refine ⟨h.fr, ?_, ?_, ?_⟩
  · intro r hr
    rcases List.mem_cons.1 hr with rfl | hr
    · refine ⟨by simp [v1], fun i hi => ?_⟩
      have hi' : i < cl.length + 1 := by simpa using hi
      rw [app_bang hi', app_bang (by omega), ← v1]
      by_cases hlt : i < cl.length
      · rw [if_pos hlt, if_pos hlt]
        obtain ⟨q1, q2, q3⟩ := v2 i hlt
        exact ⟨fun h0 => .inl (q1 h0), q2, q3⟩
      · rw [if_neg hlt, if_neg hlt, hx]
        exact ⟨fun _ => .inr rfl, hbs.1, hbs.2⟩
    · exact h.holds r (by simp [hr])
  · intro r hr k hk
    rcases List.mem_cons.1 hr with rfl | hr
    · rcases hk with hk | hk
      · exact h.range (Res.vl F cl vs) (by simp) k hk
      · exact h.range (Res.bs b s) (by simp) k hk
    · exact h.range r (by simp [hr]) k hk
  · rw [List.pairwise_cons]
    refine ⟨fun r hr k hk hk2 => ?_, h3⟩
    rcases hk with hk | hk
    · exact h2 r hr k hk hk2
    · exact h1 r (by simp [hr]) k hk hk2
theorem vl_vb {F : Nat → Prop} {cl : List GCall} {vs : List ByteArray} (h : (Res.vl F cl vs).holds w) : ∀ x ∈ cl, VB w x.Value := by
  intro x hx
  obtain ⟨i, hi⟩ := List.mem_iff_getElem?.1 hx
  have hlt : i < cl.length := (List.getElem?_eq_some_iff.1 hi).1
  have := (h.2 i hlt).2.1
  rw [get_bang hlt] at hi
  cases hi
  exact this
theorem vl_val {F : Nat → Prop} {cl : List GCall} {vs : List ByteArray} (h : (Res.vl F cl vs).holds w) {i : Nat} (hi : i < cl.length) : valAt w cl[i]!.Value = vs[i]! := (h.2 i hi).2.2
end
theorem Hp.madeL {w w0 w' : World} {M : Nat → Prop} {L L' : List Res} (h : Hp w0 M L w) (k : Hp w Non L' w') : Hp w0 M (L' ++ L) w' := by
  have h' := h.step k.fr
  refine ⟨h'.fr, ?_, ?_, ?_⟩
  · intro s hs
    rcases List.mem_append.1 hs with hs | hs
    · exact k.holds s hs
    · exact h'.holds s hs
  · intro s hs b hb
    rcases List.mem_append.1 hs with hs | hs
    · obtain ⟨q1, q2⟩ := k.range s hs b hb
      rcases q2 with q2 | q2
      · exact ⟨q1, .inl (Nat.le_trans h.fr.size q2)⟩
      · exact q2.elim
    · exact h'.range s hs b hb
  · rw [List.pairwise_append]
    refine ⟨k.apart, h.apart, fun r hr s hs b hb hb2 => ?_⟩
    have q1 := (h.range s hs b hb2).1
    obtain ⟨_, q2⟩ := k.range r hr b hb
    rcases q2 with q2 | q2
    · omega
    · exact q2.elim
/-- A place in a list of texts that is reckoned. -/
theorem str_row {l : List ByteArray} {i : Nat} (h : i < l.length) : (l.map Value.string)[0 + i]? = some (.string l[i]!) := by
  rw [Nat.zero_add, List.getElem?_map, get_bang h]; rfl
def modI (n k : Int) : Int := (n.tmod k + k).tmod k
theorem modI_bd (n : Int) {k : Int} (h : 0 < k) : 0 ≤ modI n k ∧ modI n k < k := by
  unfold modI
  have h2 := Int.tmod_lt_of_pos (-n) h
  rw [Int.neg_tmod] at h2
  exact ⟨Int.tmod_nonneg _ (by omega), Int.tmod_lt_of_pos _ h⟩
end Go.Proofs.Ythdkbbpiaeaojaa.K
