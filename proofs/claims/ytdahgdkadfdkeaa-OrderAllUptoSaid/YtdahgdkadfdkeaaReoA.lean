/- The document's Check: what it looks at is what order.Check looks at. -/
import Derived.Test.YtdahgdkadfdkeaaOrdW0
import Derived.Test.YtdahgdkadfdkeaaStbL
import Derived.Test.YtdahgdkadfdkeaaCoreY
namespace Go.Proofs.Ytdahgdkadfdkeaa.K
open Go Go.RowKit
set_option linter.unusedVariables false
theorem strOf_u8' {a : List Int} (ha : ∀ x ∈ a, 0 ≤ x ∧ x < 256) : strOf a = ⟨(a.map fun x => UInt8.ofNat x.toNat).toArray⟩ ∧ (a.map fun x => UInt8.ofNat x.toNat).map (fun b => (b.toNat : Int)) = a := by
  have h2 : (a.map fun x => UInt8.ofNat x.toNat).map (fun b => (b.toNat : Int)) = a := by
    rw [List.map_map]
    have : ∀ x ∈ a, ((fun b : UInt8 => (b.toNat : Int)) ∘ fun x : Int => UInt8.ofNat x.toNat) x = x := by
      intro x hx
      have := ha x hx
      simp only [Function.comp_apply, UInt8.toNat_ofNat']
      omega
    rw [List.map_congr_left this]
    simp
  exact ⟨by rw [← strOf_data, h2], h2⟩
theorem strOf_inj' {a b : List Int} (ha : ∀ x ∈ a, 0 ≤ x ∧ x < 256) (hb : ∀ x ∈ b, 0 ≤ x ∧ x < 256) (h : strOf a = strOf b) : a = b := by
  obtain ⟨h1, h2⟩ := strOf_u8' ha
  obtain ⟨h3, h4⟩ := strOf_u8' hb
  rw [h1, h3] at h
  have h5 : (a.map fun x => UInt8.ofNat x.toNat) = b.map fun x => UInt8.ofNat x.toNat := by
    have := congrArg (fun z : ByteArray => z.data.toList) h
    simpa using this
  rw [← h2, ← h4, h5]
def ByR (w : World) (l : List GCall) : Prop := ∀ x ∈ l, ∀ b ∈ bytesAt w x.Value, 0 ≤ b ∧ b < 256
theorem ByR.at {w w' : World} {l : List GCall} (h : ByR w l) (hv : ∀ y ∈ l, VB w y.Value) (hf : Fram Non w w') : ByR w' l := fun x hx b hb => h x hx b (by rwa [VB.fram (hv x hx) hf] at hb)
theorem bytes_val {w : World} {l : List GCall} (hr : ByR w l) {i j : Nat} (hi : i < l.length) (hj : j < l.length) : valAt w l[i]!.Value = valAt w l[j]!.Value ↔ bytesAt w l[i]!.Value = bytesAt w l[j]!.Value := by
  constructor
  · exact strOf_inj' (hr _ (List.mem_of_getElem? (get_bang hi))) (hr _ (List.mem_of_getElem? (get_bang hj)))
  · intro h; unfold valAt; rw [h]
theorem byr_of {w : World} {Bn : Nat} {s : SlH} {l : List Int} (h : SlD w u8c (fun y => Rng .u8 y) Bn s l) : ∀ b ∈ bytesAt w s, 0 ≤ b ∧ b < 256 := by
  intro b hb
  rw [bytesAt_of (ns := l) h.rd h.len.symm] at hb
  have := h.all b hb
  obtain ⟨h1, h2⟩ := this
  simp [IntKind.min, IntKind.max, IntKind.signed, IntKind.bits] at h1 h2
  omega
theorem due_to {l : List GCall} (h : fitP l) {i : Nat} (hi : i < l.length) (hd : dueP l[i]!) : 0 ≤ l[i]!.To ∧ ¬ l[i]!.Open = true := by
  obtain ⟨_, h1, h2, h3, h4⟩ := h i hi
  rcases hd with ⟨hp, ho⟩ | ⟨hp, ht, hs⟩
  · refine ⟨?_, ho⟩
    have : ¬ l[i]!.To = -1 := fun e => ho (h3.2 ⟨hp, .inl e⟩)
    omega
  · exact ⟨ht, fun ho => hp (h3.1 ho).1⟩
def abC (c : GCall) : Prop := ¬ c.Put = true ∧ dueP c ∧ c.Status = 76
theorem count_step {o : List Int} {k : Nat} {x : Int} (h : k < o.length) : (o.take (k + 1)).count x = (o.take k).count x + if o[k]! = x then 1 else 0 := by
  rw [takeI_snoc h, List.count_append, List.count_singleton]
  simp
theorem count_two {o : List Int} {i j : Nat} (hij : i < j) (hj : j < o.length) (h : o[i]! = o[j]!) : 2 ≤ o.count o[j]! := by
  have h1 : 1 ≤ (o.take j).count o[j]! := List.count_pos_iff.2 (by
    refine List.mem_of_getElem? (i := i) ?_
    rw [List.getElem?_take_of_lt hij, get_bang (by omega), h])
  have h2 := count_step (x := o[j]!) hj
  rw [if_pos rfl] at h2
  have h3 := (List.take_sublist (j + 1) o).count_le o[j]!
  omega
def okM (l : List GCall) (o : List Int) (j : Nat) : Prop := 0 ≤ o[j]! ∧ o[j]! < (l.length : Int) ∧ (dueP (atO l o j) ∨ (atO l o j).Open = true) ∧ o.count o[j]! = 1
theorem mem_whole {l : List GCall} {o : List Int} : ((∀ j, j < o.length → okM l o j) ∧ ∀ i : Nat, i < l.length → dueP l[i]! → o.count (i : Int) = 1) ↔ wholeP l o := by
  constructor
  · rintro ⟨h1, h2⟩
    refine ⟨fun j hj => ?_, fun i hi hd => ?_⟩
    · obtain ⟨a, b, c, d⟩ := h1 j hj
      exact ⟨a, b, c, fun i hi e => by have := count_two hi hj e; omega⟩
    · have hm : (i : Int) ∈ o := List.count_pos_iff.1 (by rw [h2 i hi hd]; omega)
      obtain ⟨j, hj⟩ := List.getElem?_of_mem hm
      have hjl := (List.getElem?_eq_some_iff.1 hj).1
      rw [get_bang hjl] at hj
      exact ⟨j, hjl, Option.some.inj hj⟩
  · rintro ⟨h1, h2⟩
    have hnd : o.Nodup := by
      rw [List.nodup_iff_pairwise_ne, List.pairwise_iff_getElem]
      intro i j hi hj hij e
      refine (h1 j hj).2.2.2 i hij ?_
      rw [bang_get hi, bang_get hj]; exact e
    refine ⟨fun j hj => ?_, fun i hi hd => ?_⟩
    · obtain ⟨a, b, c, d⟩ := h1 j hj
      exact ⟨a, b, c, by rw [hnd.count, if_pos (List.mem_of_getElem? (get_bang hj))]⟩
    · obtain ⟨j, hj, e⟩ := h2 i hi hd
      rw [hnd.count, if_pos (e ▸ List.mem_of_getElem? (get_bang hj))]
section
variable {w : World} {l : List GCall} {o : List Int} {k : Nat}
theorem ok_open (hf : fitP l) (h : okO l o k) (hp : ¬ (atO l o k).Put = true) : dueP (atO l o k) := by
  refine h.2.2.1.resolve_right fun ho => hp ?_
  exact ((hf _ (by have := h.1; have := h.2.1; omega : (o[k]! : Int).toNat < l.length)).2.2.2.1.1 ho).1
theorem tim_yes (hf : fitP l) (h : okO l o k) (q : ∀ m, m < k → ¬ (¬ (atO l o k).Open = true ∧ (atO l o k).To < (atO l o m).From)) : ¬ (¬ (atO l o k).Open = true ∧ (atO l o k).To < begF l o k) := by
  rintro ⟨h1, h2⟩
  have hz := due_to hf (by have := h.1; have := h.2.1; omega : (o[k]! : Int).toNat < l.length) (h.2.2.1.resolve_right h1)
  have hz : 0 ≤ (atO l o k).To := hz.1
  rcases begF_one' (l := l) (o := o) k with e | ⟨m, hm, e⟩
  · omega
  · exact q m hm ⟨h1, by omega⟩
theorem tim_no {m : Nat} (hm : m < k) (q : ¬ (atO l o k).Open = true ∧ (atO l o k).To < (atO l o m).From) : ¬ (atO l o k).Open = true ∧ (atO l o k).To < begF l o k :=
  ⟨q.1, by have := begF_ge' (l := l) (o := o) (j := m) k hm; omega⟩
theorem told_yes (hf : fitP l) (hr : ByR w l) (hin : ∀ j, j < o.length → 0 ≤ o[j]! ∧ o[j]! < (l.length : Int)) (hk : k < o.length) (h : okO l o k) (h1 : ¬ (abC (atO l o k) ∧ 0 ≤ lastF l o k)) (h2 : ¬ (rdC (atO l o k) ∧ (lastF l o k < 0 ∨ ¬ valAt w l[(lastF l o k).toNat]!.Value = valAt w (atO l o k).Value))) : toldC w l o k := fun hp => by
  have hd := ok_open hf h hp
  refine ⟨fun z => h1 ⟨⟨hp, hd, z.1⟩, z.2⟩, fun z => ?_⟩
  have h3 : ¬ lastF l o k < 0 := fun q => h2 ⟨⟨hp, hd, z⟩, .inl q⟩
  exact ⟨by omega, Classical.byContradiction fun q => h2 ⟨⟨hp, hd, z⟩, .inr fun e => q ((bytes_val hr (by have := lastF_in hin k (by omega); omega) (by have := hin k hk; omega)).1 e).symm⟩⟩
theorem told_no1 (h : toldC w l o k) : ¬ (abC (atO l o k) ∧ 0 ≤ lastF l o k) := fun z => (h z.1.1).1 ⟨z.1.2.2, z.2⟩
theorem told_no2 (h : toldC w l o k) : ¬ (rdC (atO l o k) ∧ (lastF l o k < 0 ∨ ¬ valAt w l[(lastF l o k).toNat]!.Value = valAt w (atO l o k).Value)) := fun z => by
  obtain ⟨a, b⟩ := (h z.1.1).2 z.1.2.2
  rcases z.2 with q | q
  · omega
  · exact q (by unfold valAt; rw [b])
theorem at_in (hin : ∀ j, j < o.length → 0 ≤ o[j]! ∧ o[j]! < (l.length : Int)) (hk : k < o.length) : (o[k]! : Int).toNat < l.length := by have := hin k hk; omega
end
/-! ### one more put in -/
def insL (s : List Int) (k : Nat) (x : Int) : List Int := s.take k ++ x :: s.drop k
section
variable {s : List Int} {k : Nat} {x : Int}
theorem ins_len (h : k ≤ s.length) : (insL s k x).length = s.length + 1 := by unfold insL; simp; omega
theorem ins_end : insL s s.length x = s ++ [x] := by unfold insL; simp
theorem ins_get0 (h : k ≤ s.length) : (insL s k x)[k]! = x := by
  unfold insL
  rw [List.getElem!_eq_getElem?_getD, List.getElem?_append_right (by simp; omega)]
  simp [Nat.min_eq_left h]
theorem ins_get1 (h0 : 0 < k) (h : k ≤ s.length) : (insL s k x)[k - 1]! = s[k - 1]! := by
  unfold insL
  rw [List.getElem!_eq_getElem?_getD, List.getElem!_eq_getElem?_getD, List.getElem?_append_left (by simp; omega), List.getElem?_take_of_lt (by omega)]
theorem ins_swap (h0 : 0 < k) (h : k ≤ s.length) : ((insL s k x).set k s[k - 1]!).set (k - 1) x = insL s (k - 1) x := by
  obtain ⟨j, rfl⟩ : ∃ j, k = j + 1 := ⟨k - 1, by omega⟩
  simp only [Nat.add_sub_cancel]
  have hl : (s.take j).length = j := by rw [List.length_take]; omega
  unfold insL
  rw [takeI_snoc (by omega), List.drop_eq_getElem_cons (show j < s.length by omega), ← bang_get (show j < s.length by omega)]
  rw [List.append_assoc, List.set_append_right _ _ (by omega), hl, show j + 1 - j = 1 from by omega, List.set_append_right _ _ (by omega), hl, Nat.sub_self]
  rfl
/-- Put in where it belongs. -/
theorem ins_up {lt : Int → Int → Prop} (hw : Wk lt) {p g : List Int} (hk1 : p.length ≤ k) (hk2 : k ≤ (p ++ g).length) (hg : g.Pairwise (stR lt)) (hx : ¬ x ∈ g) (h1 : ∀ j, k ≤ j → j < (p ++ g).length → stR lt x (p ++ g)[j]!) (h2 : k = p.length ∨ ¬ stR lt x (p ++ g)[k - 1]!) :
    ∃ g', insL (p ++ g) k x = p ++ g' ∧ g'.Perm (g ++ [x]) ∧ g'.Pairwise (stR lt) := by
  obtain ⟨m, rfl⟩ : ∃ m, k = p.length + m := ⟨k - p.length, by omega⟩
  rw [List.length_append] at hk2
  have hm : m ≤ g.length := by omega
  refine ⟨insL g m x, ?_, ?_, ?_⟩
  · unfold insL
    rw [List.take_append, List.drop_append, List.take_of_length_le (by omega), List.drop_of_length_le (by omega), show p.length + m - p.length = m from by omega, List.nil_append, List.append_assoc]
  · unfold insL
    refine List.perm_middle.trans ?_
    rw [List.take_append_drop]
    exact (List.perm_append_singleton x g).symm
  · have hgd : ∀ y ∈ g.drop m, stR lt x y := fun y hy => by
      obtain ⟨j, hj⟩ := List.getElem?_of_mem hy
      rw [List.getElem?_drop] at hj
      have hjl := (List.getElem?_eq_some_iff.1 hj).1
      have := h1 (p.length + (m + j)) (by omega) (by rw [List.length_append]; omega)
      rw [appI_get hjl] at this
      rw [get_bang hjl] at hj
      rw [← Option.some.inj hj]; exact this
    have hgt : ∀ y ∈ g.take m, stR lt y x := fun y hy => by
      obtain ⟨j, hj⟩ := List.getElem?_of_mem hy
      have hjl := (List.getElem?_eq_some_iff.1 hj).1
      rw [List.length_take] at hjl
      rw [List.getElem?_take_of_lt (by omega), get_bang (by omega)] at hj
      have hy' : y = g[j]! := (Option.some.inj hj).symm
      rcases h2 with h2 | h2
      · omega
      · rw [show p.length + m - 1 = p.length + (m - 1) from by omega, appI_get (by omega)] at h2
        have hne : ∀ a, a < g.length → ¬ g[a]! = x := fun a ha e => hx (e ▸ List.mem_of_getElem? (get_bang ha))
        have hlast : stR lt g[m - 1]! x := by
          unfold stR at h2 ⊢
          have hz := hne (m - 1) (by omega)
          by_cases c : lt g[m - 1]! x
          · exact .inl c
          · by_cases d : lt x g[m - 1]!
            · exact absurd (.inl d) h2
            · refine .inr ⟨d, ?_⟩
              have : ¬ x < g[m - 1]! := fun e => h2 (.inr ⟨c, e⟩)
              omega
        by_cases e : j = m - 1
        · rw [hy', e]; exact hlast
        · have := List.pairwise_iff_getElem.1 hg j (m - 1) (by omega) (by omega) (by omega)
          rw [← bang_get (show j < g.length by omega), ← bang_get (show m - 1 < g.length by omega)] at this
          rw [hy']; exact (hw.cm []).tr this hlast
    unfold insL
    rw [List.pairwise_append, List.pairwise_cons]
    refine ⟨hg.sublist (List.take_sublist _ _), ⟨hgd, hg.sublist (List.drop_sublist _ _)⟩, fun a ha b hb => ?_⟩
    rcases List.mem_cons.1 hb with rfl | hb
    · exact hgt a ha
    · exact (hw.cm []).tr (hgt a ha) (hgd b hb)
end
theorem pairwise_up {R : Int → Int → Prop} {q : List Int} (h : q.Pairwise R) : Up R q 0 q.length := fun i j _ hij hj => by
  rw [bang_get (by omega), bang_get hj]; exact List.pairwise_iff_getElem.1 h i j (by omega) hj hij
end Go.Proofs.Ytdahgdkadfdkeaa.K
