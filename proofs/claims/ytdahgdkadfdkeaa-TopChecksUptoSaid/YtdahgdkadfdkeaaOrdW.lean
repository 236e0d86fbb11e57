/- Calls copied with values of their own; the definition of what an order explains; what ByTags answers, place by place. -/
import Derived.Test.YtdahgdkadfdkeaaOrdV
import Derived.Test.YtdahgdkadfdkeaaOrdM
import Derived.Test.YtdahgdkadfdkeaaCoreY
namespace Go.Proofs.Ytdahgdkadfdkeaa.K
open Go Go.RowKit
set_option linter.unusedVariables false
theorem apC {α : Type} [Inhabited α] {l : List α} {x : α} {i : Nat} (h : i < l.length + 1) : (l ++ [x])[i]! = if i < l.length then l[i]! else x := by
  rw [List.getElem!_eq_getElem?_getD, List.getElem!_eq_getElem?_getD, List.getElem?_append]
  by_cases h1 : i < l.length
  · simp [h1]
  · obtain rfl : i = l.length := by omega
    simp
theorem own_maxW {w : World} {E : TypeId} {n c sz : Nat} {a : Option Addr} {xs : List Value} (h : (Res.own E sz (.slice a n c) n xs).holds w) : n ≤ 9223372036854775807 := by
  obtain ⟨_, h | ⟨g, cap, cur, hv, _, _, h1, h2, _⟩⟩ := h
  · omega
  · simp only [Value.slice.injEq] at hv
    have : cap ≤ maxLen := h2
    unfold maxLen at this
    omega
/-- The calls' values, in blocks of F: their bytes are these. -/
def Res.vc (F : Nat → Prop) (cl : List GCall) (bs : List (List Int)) : Res :=
  ⟨F, fun w => cl.length = bs.length ∧ ∀ i, i < cl.length → (0 < cl[i]!.Value.n → F (adr cl[i]!.Value.a).block) ∧ bs[i]!.length = cl[i]!.Value.n ∧ SlR w cl[i]!.Value.a cl[i]!.Value.n (bs[i]!.flatMap u8c), by
    rintro w w' h ⟨h1, h2⟩
    refine ⟨h1, fun i hi => ?_⟩
    obtain ⟨a, b, d⟩ := h2 i hi
    refine ⟨a, b, ?_, d.some⟩
    rcases Nat.eq_zero_or_pos cl[i]!.Value.n with h0 | h0
    · have : bs[i]! = [] := List.eq_nil_of_length_eq_zero (by omega)
      rw [this]
      intro j u hu
      simp at hu
    · exact d.rd.keep fun _ => h _ (a h0)⟩
section
variable {w w0 : World} {M : Nat → Prop} {L : List Res} {F : Nat → Prop} {cl : List GCall} {bs : List (List Int)}
theorem Hp.vcNil (h : Hp w0 M L w) : Hp w0 M (Res.vc (fun _ => False) [] [] :: L) w :=
  h.new (Fram.refl _ _) _ ⟨rfl, fun i hi => by simp at hi⟩ fun b hb => by cases hb
theorem Hp.vcPush {E n c : Nat} {a : Option Addr} {ns : List Int} (x : GCall) (h : Hp w0 M (Res.own E 1 (.slice a n c) n (ns.flatMap u8c) :: Res.vc F cl bs :: L) w) (hn : ns.length = n) (hx : x.Value = ⟨a, n, c⟩) :
    Hp w0 M (Res.vc (fun k => F k ∨ (Value.slice a n c).ownBlock = some k) (cl ++ [x]) (bs ++ [ns]) :: L) w := by
  have hap := h.apart
  rw [List.pairwise_cons, List.pairwise_cons] at hap
  obtain ⟨h1, h2, h3⟩ := hap
  have hb : (Res.own E 1 (.slice a n c) n (ns.flatMap u8c)).holds w := h.holds _ (by simp)
  have hv : (Res.vc F cl bs).holds w := h.holds (Res.vc F cl bs) (by simp)
  obtain ⟨v1, v2⟩ := hv
  have hblk : 0 < n → (Value.slice a n c).ownBlock = some (adr a).block := by
    intro h0
    rcases hb.2 with ⟨q, q2⟩ | ⟨g, cap, cur, q, _⟩
    · omega
    · simp at q
      obtain ⟨rfl, rfl⟩ := q
      rfl
  refine ⟨h.fr, ?_, ?_, ?_⟩
  · intro r hr
    rcases List.mem_cons.1 hr with rfl | hr
    · refine ⟨by simp [v1], fun i hi => ?_⟩
      have hi' : i < cl.length + 1 := by simpa using hi
      rw [apC hi', apC (by omega), ← v1]
      by_cases hlt : i < cl.length
      · rw [if_pos hlt, if_pos hlt]
        obtain ⟨q1, q2⟩ := v2 i hlt
        exact ⟨fun h0 => .inl (q1 h0), q2⟩
      · rw [if_neg hlt, if_neg hlt, hx]
        exact ⟨fun h0 => .inr (hblk h0), hn, SlR.own hb⟩
    · exact h.holds r (by simp [hr])
  · intro r hr k hk
    rcases List.mem_cons.1 hr with rfl | hr
    · rcases hk with hk | hk
      · exact h.range (Res.vc F cl bs) (by simp) k hk
      · exact h.range (Res.own E 1 (.slice a n c) n (ns.flatMap u8c)) (by simp) k hk
    · exact h.range r (by simp [hr]) k hk
  · rw [List.pairwise_cons]
    refine ⟨fun r hr k hk hk2 => ?_, h3⟩
    rcases hk with hk | hk
    · exact h2 r hr k hk hk2
    · exact h1 r (by simp [hr]) k hk hk2
theorem vc_vb (h : (Res.vc F cl bs).holds w) {i : Nat} (hi : i < cl.length) : VB w cl[i]!.Value ∧ bytesAt w cl[i]!.Value = bs[i]! := by
  obtain ⟨_, b, d⟩ := h.2 i hi
  exact ⟨(VB.mk d b).1, bytesAt_of d b⟩
theorem vc_mem (h : (Res.vc F cl bs).holds w) : ∀ x ∈ cl, VB w x.Value := by
  intro x hx
  obtain ⟨i, hi⟩ := List.mem_iff_getElem?.1 hx
  have hlt : i < cl.length := (List.getElem?_eq_some_iff.1 hi).1
  have := (vc_vb h hlt).1
  rw [get_bang hlt] at hi
  cases hi
  exact this
end
/-- The same call with another value. -/
def withW (c : GCall) (h : SlH) : GCall := ⟨c.Client, c.Op, c.Put, c.Key, h, c.Status, c.From, c.To, c.Open, c.Tag⟩
def cpC (w0 : World) (l cl : List GCall) (bs : List (List Int)) (k : Nat) : Prop := cl.length = k ∧ bs.length = k ∧ ∀ i, i < k → (∃ h : SlH, cl[i]! = withW l[i]! h) ∧ bs[i]! = bytesAt w0 l[i]!.Value
theorem cpC_step {w0 : World} {l cl : List GCall} {bs : List (List Int)} {k : Nat} {x : GCall} {ns : List Int} (h : cpC w0 l cl bs k) (h1 : ∃ h : SlH, x = withW l[k]! h) (h2 : ns = bytesAt w0 l[k]!.Value) : cpC w0 l (cl ++ [x]) (bs ++ [ns]) (k + 1) := by
  obtain ⟨a, b, c⟩ := h
  refine ⟨by simp [a], by simp [b], fun i hi => ?_⟩
  rw [apC (by omega), apC (by omega)]
  by_cases hlt : i < k
  · rw [if_pos (by omega), if_pos (by omega)]; exact c i hlt
  · obtain rfl : i = k := by omega
    rw [if_neg (by omega), if_neg (by omega)]; exact ⟨h1, h2⟩
/-- The same calls but for the values. -/
def Sm (l cl : List GCall) : Prop := cl.length = l.length ∧ ∀ i : Nat, ∃ h : SlH, cl[i]! = withW l[i]! h
theorem cpC.sm {w0 : World} {l cl : List GCall} {bs : List (List Int)} (h : cpC w0 l cl bs l.length) : Sm l cl := by
  refine ⟨h.1, fun i => ?_⟩
  by_cases hi : i < l.length
  · exact (h.2.2 i hi).1
  · have e1 : cl[i]! = default := by rw [List.getElem!_eq_getElem?_getD, List.getElem?_eq_none (by have := h.1; omega)]; rfl
    have e2 : l[i]! = default := by rw [List.getElem!_eq_getElem?_getD, List.getElem?_eq_none (by omega)]; rfl
    rw [e1, e2]; exact ⟨(default : GCall).Value, rfl⟩
/-! ### the definition -/
open Classical in
noncomputable def partI (c : GCall) : Int := if c.Put = true then (if c.Open = true then 1 else 2) else if 0 ≤ c.To ∧ (c.Status = 0 ∨ c.Status = 76) then 2 else 0
theorem part_due {c : GCall} : partI c = 2 ↔ dueP c := by
  unfold partI dueP
  by_cases h1 : c.Put = true
  · by_cases h2 : c.Open = true <;> simp [h1, h2]
  · by_cases h2 : 0 ≤ c.To ∧ (c.Status = 0 ∨ c.Status = 76) <;> simp [h1, h2]
theorem part_pos {c : GCall} : ¬ partI c = 0 ↔ dueP c ∨ (c.Put = true ∧ c.Open = true) := by
  unfold partI dueP
  by_cases h1 : c.Put = true
  · by_cases h2 : c.Open = true <;> simp [h1, h2]
  · by_cases h2 : 0 ≤ c.To ∧ (c.Status = 0 ∨ c.Status = 76) <;> simp [h1, h2]
theorem part_bd (c : GCall) : 0 ≤ partI c ∧ partI c ≤ 2 := by
  unfold partI
  split
  · split <;> omega
  · split <;> omega
def aheadP (a b : GCall) : Prop := 0 < partI a ∧ 0 < partI b ∧ ¬ (a.Put = true ∧ a.Open = true) ∧ 0 ≤ a.To ∧ a.To < b.From
def fnC (w : World) (l : List GCall) (la : Int) (i : Nat) : Prop := l[i]!.Put = true ∨ (¬ l[i]!.Put = true ∧ l[i]!.Status = 76 ∧ la < 0) ∨ (¬ l[i]!.Put = true ∧ ¬ l[i]!.Status = 76 ∧ 0 ≤ la ∧ bytesAt w l[(la : Int).toNat]!.Value = bytesAt w l[i]!.Value)
def okX (l : List GCall) (o : List Int) (k : Nat) : Prop := 0 ≤ o[k]! ∧ o[k]! < (l.length : Int) ∧ ¬ partI (atO l o k) = 0 ∧ ∀ j, j < k → ¬ o[j]! = o[k]!
def atQ (l : List GCall) (o : List Int) (k : Nat) (al : List Int) : Prop := al.length = l.length ∧ ∀ i : Nat, i < l.length → (al[i]! = 0 ∧ ∀ j, j < k → ¬ o[j]! = (i : Int)) ∨ ∃ j : Nat, j < k ∧ o[j]! = (i : Int) ∧ al[i]! = (j : Int) + 1
def exP (w : World) (l : List GCall) (o : List Int) : Prop := (∀ k, k < o.length → okX l o k) ∧ (∀ k, k < o.length → (∀ m, k < m → m < o.length → ¬ (partI (atO l o m) = 2 ∧ aheadP (atO l o m) (atO l o k))) ∧ fnC w l (lastF l o k) (o[k]!).toNat) ∧ ∀ i, i < l.length → partI l[i]! = 2 → ∃ j, j < o.length ∧ o[j]! = (i : Int)
theorem setI_get {l : List Int} {i j : Nat} {x : Int} (h : i < l.length) (hj : j < l.length) : (l.set i x)[j]! = if i = j then x else l[j]! := by
  rw [List.getElem!_eq_getElem?_getD, List.getElem!_eq_getElem?_getD, List.getElem?_set]
  by_cases e : i = j
  · subst e; simp [h]
  · simp [e]
section
variable {w : World} {l : List GCall} {o : List Int}
theorem atQ_start (n : Nat) (hn : n = l.length) : atQ l o 0 (List.replicate n 0) := by
  subst hn
  refine ⟨by simp, fun i hi => .inl ⟨?_, fun j hj => by omega⟩⟩
  rw [bang_get (by simpa using hi), List.getElem_replicate]
theorem atQ_step {k : Nat} {al : List Int} (h : atQ l o k al) (h1 : 0 ≤ o[k]!) (h2 : o[k]! < (l.length : Int)) (h3 : ¬ 0 < al[(o[k]! : Int).toNat]!) (h4 : ¬ partI l[(o[k]! : Int).toNat]! = 0) (h5 : ∀ j, j < k → okX l o j) : atQ l o (k + 1) (al.set (o[k]! : Int).toNat ((k : Int) + 1)) ∧ ∀ j, j < k + 1 → okX l o j := by
  obtain ⟨a, b⟩ := h
  have hno : ∀ j, j < k → ¬ o[j]! = o[k]! := fun j hj e => by
    rcases b (o[k]!).toNat (by omega) with ⟨_, q⟩ | ⟨m, _, _, q⟩
    · exact q j hj (by omega)
    · omega
  refine ⟨⟨by rw [List.length_set]; exact a, fun i hi => ?_⟩, fun j hj => ?_⟩
  · rw [setI_get (by omega) (by omega)]
    by_cases e : (o[k]!).toNat = i
    · rw [if_pos e]; exact .inr ⟨k, by omega, by omega, rfl⟩
    · rw [if_neg e]
      rcases b i hi with ⟨q1, q2⟩ | ⟨m, m1, m2, m3⟩
      · refine .inl ⟨q1, fun j hj => ?_⟩
        by_cases ej : j = k
        · subst ej; omega
        · exact q2 j (by omega)
      · exact .inr ⟨m, by omega, m2, m3⟩
  · by_cases e : j = k
    · subst e; exact ⟨h1, h2, h4, hno⟩
    · exact h5 j (by omega)
theorem ex_no1 {k : Nat} {al : List Int} (q : exP w l o) (h : atQ l o k al) (hk : k < o.length) : 0 ≤ o[k]! ∧ o[k]! < (l.length : Int) ∧ ¬ 0 < al[(o[k]! : Int).toNat]! ∧ ¬ partI l[(o[k]! : Int).toNat]! = 0 := by
  obtain ⟨a, b, c, d⟩ := q.1 k hk
  refine ⟨a, b, fun e => ?_, c⟩
  rcases h.2 (o[k]!).toNat (by omega) with ⟨q, _⟩ | ⟨m, m1, m2, _⟩
  · omega
  · exact d m m1 (by omega)
theorem at_pos {k : Nat} {al : List Int} (h : atQ l o o.length al) (hk : k < o.length) (ok : ∀ j, j < o.length → okX l o j) : al[(o[k]! : Int).toNat]! = (k : Int) + 1 := by
  obtain ⟨a, b, c, d⟩ := ok k hk
  rcases h.2 (o[k]!).toNat (by omega) with ⟨_, q⟩ | ⟨m, m1, m2, m3⟩
  · exact absurd (by omega) (q k hk)
  · by_cases e : m = k
    · subst e; exact m3
    · rcases Nat.lt_or_ge m k with g | g
      · exact absurd (by omega) (d m g)
      · exact absurd (by omega) ((ok m m1).2.2.2 k (by omega))
theorem ex_no2 {k j : Nat} {al : List Int} (q : exP w l o) (h : atQ l o o.length al) (hk : k < o.length) (hj : j < l.length) : ¬ (partI l[j]! = 2 ∧ aheadP l[j]! l[(o[k]! : Int).toNat]! ∧ al[(o[k]! : Int).toNat]! < al[j]!) := by
  rintro ⟨h1, h2, h3⟩
  have e := at_pos h hk q.1
  rcases h.2 j hj with ⟨q1, _⟩ | ⟨m, m1, m2, m3⟩
  · omega
  · refine (q.2.1 k hk).1 m (by omega) m1 ?_
    unfold atO
    rw [m2]
    exact ⟨h1, h2⟩
theorem ex_no4 {i : Nat} {al : List Int} (q : exP w l o) (h : atQ l o o.length al) (hi : i < l.length) : ¬ (partI l[i]! = 2 ∧ al[i]! = 0) := by
  rintro ⟨h1, h2⟩
  obtain ⟨j, a, b⟩ := q.2.2 i hi h1
  rcases h.2 i hi with ⟨_, q⟩ | ⟨m, m1, m2, m3⟩
  · exact q j a b
  · omega
theorem ex_yes {al : List Int} (h : atQ l o o.length al) (ok : ∀ j, j < o.length → okX l o j) (h2 : ∀ k, k < o.length → (∀ j, j < l.length → ¬ (partI l[j]! = 2 ∧ aheadP l[j]! l[(o[k]! : Int).toNat]! ∧ al[(o[k]! : Int).toNat]! < al[j]!)) ∧ fnC w l (lastF l o k) (o[k]!).toNat) (h3 : ∀ i, i < l.length → ¬ (partI l[i]! = 2 ∧ al[i]! = 0)) : exP w l o := by
  refine ⟨ok, fun k hk => ⟨fun m hm hm2 q => ?_, (h2 k hk).2⟩, fun i hi hd => ?_⟩
  · obtain ⟨a, b, _, _⟩ := ok m hm2
    refine (h2 k hk).1 (o[m]!).toNat (by omega) ⟨q.1, q.2, ?_⟩
    rw [at_pos h hk ok, at_pos h hm2 ok]; omega
  · rcases h.2 i hi with ⟨q, _⟩ | ⟨j, a, b, _⟩
    · exact absurd ⟨hd, q⟩ (h3 i hi)
    · exact ⟨j, a, b⟩
theorem begF_ge' {j : Nat} : ∀ k, j < k → (atO l o j).From ≤ begF l o k
  | 0, h => by omega
  | k + 1, h => by
    unfold begF
    by_cases e : j = k
    · subst e; omega
    · have := begF_ge' k (by omega : j < k); omega
/-- The definition is what order.Check looks at. -/
theorem ex_chk (hf : fitP l) : exP w l o ↔ chkO w l o = 0 := by
  have hopen : ∀ i : Nat, i < l.length → l[i]!.Open = true → l[i]!.Put = true := fun i hi ho => ((hf i hi).2.2.2.1.1 ho).1
  have hto : ∀ i : Nat, i < l.length → dueP l[i]! → 0 ≤ l[i]!.To ∧ ¬ l[i]!.Open = true := fun i hi hd => by
    obtain ⟨_, h1, h2, h3, h4⟩ := hf i hi
    rcases hd with ⟨hp, ho⟩ | ⟨hp, ht, hs⟩
    · refine ⟨?_, ho⟩
      have : ¬ l[i]!.To = -1 := fun e => ho (h3.2 ⟨hp, .inl e⟩)
      omega
    · exact ⟨ht, fun ho => hp (h3.1 ho).1⟩
  constructor
  · rintro ⟨h1, h2, h3⟩
    refine chkO_0 hf ⟨fun j hj => ?_, fun i hi hd => h3 i hi (part_due.2 hd)⟩ (fun j hj => ?_) (fun j hj => ?_)
    · obtain ⟨a, b, c, d⟩ := h1 j hj
      exact ⟨a, b, (part_pos.1 c).imp id (fun q => q.2), d⟩
    · rintro ⟨ho, ht⟩
      obtain ⟨a, b, c, d⟩ := h1 j hj
      have hd : dueP (atO l o j) := (part_pos.1 c).resolve_right fun q => ho q.2
      have hz := hto _ (by omega) hd
      change 0 ≤ (atO l o j).To ∧ _ at hz
      rcases begF_one' (l := l) (o := o) j with e | ⟨k, hk, e⟩
      · omega
      · have e2 := part_due.2 hd
        have e3 := part_bd (atO l o k)
        have e4 := (h1 k (by omega)).2.2.1
        exact (h2 k (by omega)).1 j hk hj ⟨e2, by omega, by omega, fun q => ho q.2, hz.1, by omega⟩
    · intro hp
      obtain ⟨a, b, c, d⟩ := h1 j hj
      rcases (h2 j hj).2 with q | ⟨_, q1, q2⟩ | ⟨_, q1, q2, q3⟩
      · exact absurd q hp
      · exact ⟨fun z => by omega, fun z => by have : (atO l o j).Status = 76 := q1; omega⟩
      · exact ⟨fun z => q1 z.1, fun z => ⟨q2, q3.symm⟩⟩
  · intro h
    have hall : wholeP l o ∧ timelyP l o ∧ toldP w l o := Classical.byContradiction fun q => by rw [chkO_81 hf q] at h; cases h
    obtain ⟨⟨h1, h1'⟩, h2, h3⟩ := hall
    refine ⟨fun k hk => ?_, fun k hk => ⟨fun m hm hm2 q => ?_, ?_⟩, fun i hi hd => h1' i hi (part_due.1 hd)⟩
    · obtain ⟨a, b, c, d⟩ := h1 k hk
      exact ⟨a, b, part_pos.2 (c.imp id fun ho => ⟨hopen _ (by omega) ho, ho⟩), d⟩
    · obtain ⟨q1, _, _, _, _, q2⟩ := q
      have hd := part_due.1 q1
      obtain ⟨a, b, c, d⟩ := h1 m hm2
      have hz := hto _ (by omega) hd
      have := begF_ge' (l := l) (o := o) (j := k) m hm
      exact h2 m hm2 ⟨hz.2, by omega⟩
    · obtain ⟨a, b, c, d⟩ := h1 k hk
      unfold fnC
      by_cases hp : l[(o[k]!).toNat]!.Put = true
      · exact .inl hp
      · obtain ⟨t1, t2⟩ := h3 k hk hp
        have hd : dueP (atO l o k) := c.resolve_right fun ho => hp (hopen _ (by omega) ho)
        rcases hd with ⟨z, _⟩ | ⟨_, _, z | z⟩
        · exact absurd z hp
        · obtain ⟨t3, t4⟩ := t2 z
          refine .inr (.inr ⟨hp, ?_, t3, t4.symm⟩)
          intro e
          have z' : l[(o[k]!).toNat]!.Status = 0 := z
          omega
        · refine .inr (.inl ⟨hp, z, ?_⟩)
          have := fun q => t1 ⟨z, q⟩
          omega
theorem chk_any (hf : fitP l) : chkO w l o = 0 ∨ chkO w l o = 81 := by
  by_cases q : wholeP l o ∧ timelyP l o ∧ toldP w l o
  · exact .inl (chkO_0 hf q.1 q.2.1 q.2.2)
  · exact .inr (chkO_81 hf q)
end
theorem fnC_fram {w w' : World} {l : List GCall} {la : Int} {i : Nat} (hf : Fram Non w w') (hv : ∀ y ∈ l, VB w y.Value) (hla : 0 ≤ la → la < (l.length : Int)) (hi : i < l.length) : fnC w' l la i ↔ fnC w l la i := by
  unfold fnC
  refine or_congr Iff.rfl (or_congr Iff.rfl (and_congr_right fun _ => and_congr_right fun _ => and_congr_right fun h => ?_))
  rw [VB.fram (hv _ (List.mem_of_getElem? (get_bang (show la.toNat < l.length by omega)))) hf, VB.fram (hv _ (List.mem_of_getElem? (get_bang hi))) hf]
/-! ### the copies -/
section
variable {w w0 : World} {l cl : List GCall} {o : List Int}
theorem Sm.fit (s : Sm l cl) : fitP cl ↔ fitP l := by
  unfold fitP; rw [s.1]
  refine forall_congr' fun i => imp_congr_right fun hi => ?_
  obtain ⟨h0, e0⟩ := s.2 0
  obtain ⟨h, e⟩ := s.2 i
  rw [e0, e]; exact Iff.rfl
theorem Sm.at (s : Sm l cl) (j : Nat) : ∃ h : SlH, atO cl o j = withW (atO l o j) h := s.2 _
theorem Sm.due (s : Sm l cl) (i : Nat) : dueP cl[i]! ↔ dueP l[i]! := by obtain ⟨h, e⟩ := s.2 i; rw [e]; exact Iff.rfl
theorem Sm.beg (s : Sm l cl) : ∀ k, begF cl o k = begF l o k
  | 0 => rfl
  | k + 1 => by obtain ⟨h, e⟩ := s.at (o := o) k; unfold begF; rw [s.beg k, e]; rfl
theorem Sm.last (s : Sm l cl) : ∀ k, lastF cl o k = lastF l o k
  | 0 => rfl
  | k + 1 => by obtain ⟨h, e⟩ := s.at (o := o) k; unfold lastF; rw [s.last k, e]; rfl
theorem Sm.whole (s : Sm l cl) : wholeP cl o ↔ wholeP l o := by
  unfold wholeP
  refine and_congr (forall_congr' fun j => imp_congr_right fun hj => ?_) ?_
  · obtain ⟨h, e⟩ := s.at (o := o) j; unfold okO; rw [s.1, e]; exact Iff.rfl
  · rw [s.1]; exact forall_congr' fun i => imp_congr_right fun hi => imp_congr (s.due i) Iff.rfl
theorem Sm.timely (s : Sm l cl) : timelyP cl o ↔ timelyP l o := by
  unfold timelyP
  refine forall_congr' fun j => imp_congr_right fun hj => ?_
  obtain ⟨h, e⟩ := s.at (o := o) j; rw [s.beg, e]; exact Iff.rfl
theorem Sm.told (s : Sm l cl) (hb : ∀ i, i < l.length → bytesAt w cl[i]!.Value = bytesAt w0 l[i]!.Value) (hin : ∀ j, j < o.length → 0 ≤ o[j]! ∧ o[j]! < (l.length : Int)) : toldP w cl o ↔ toldP w0 l o := by
  unfold toldP
  refine forall_congr' fun j => imp_congr_right fun hj => ?_
  obtain ⟨h, e⟩ := s.at (o := o) j
  have h1 := hin j hj
  have h2 := lastF_in hin j (by omega)
  have e1 : bytesAt w (atO cl o j).Value = bytesAt w0 (atO l o j).Value := hb _ (by omega)
  have e2 : 0 ≤ lastF l o j → bytesAt w cl[(lastF l o j).toNat]!.Value = bytesAt w0 l[(lastF l o j).toNat]!.Value := fun q => hb _ (by omega)
  have p1 : (atO cl o j).Put = (atO l o j).Put := by rw [e]; rfl
  have p2 : (atO cl o j).Status = (atO l o j).Status := by rw [e]; rfl
  unfold toldC
  rw [s.last, e1, p1, p2]
  refine imp_congr_right fun _ => and_congr_right fun _ => imp_congr_right fun _ => and_congr_right fun q => ?_
  rw [e2 q]
theorem Sm.chk (s : Sm l cl) (hb : ∀ i, i < l.length → bytesAt w cl[i]!.Value = bytesAt w0 l[i]!.Value) : chkO w cl o = chkO w0 l o := by
  by_cases hf : fitP l
  · by_cases hw : wholeP l o
    · have ht := s.told (o := o) hb fun j hj => ⟨(hw.1 j hj).1, (hw.1 j hj).2.1⟩
      by_cases hq : wholeP l o ∧ timelyP l o ∧ toldP w0 l o
      · rw [chkO_0 hf hq.1 hq.2.1 hq.2.2, chkO_0 (s.fit.2 hf) (s.whole.2 hq.1) (s.timely.2 hq.2.1) (ht.2 hq.2.2)]
      · rw [chkO_81 hf hq, chkO_81 (s.fit.2 hf) fun z => hq ⟨hw, s.timely.1 z.2.1, ht.1 z.2.2⟩]
    · rw [chkO_81 hf fun z => hw z.1, chkO_81 (s.fit.2 hf) fun z => hw (s.whole.1 z.1)]
  · rw [chkO_1 hf, chkO_1 fun z => hf (s.fit.1 z)]
end
/-! ### what ByTags answers, place by place -/
def plcOk (l : List GCall) (la x : Int) : Prop := ∃ i : Nat, x = (i : Int) ∧ i < l.length ∧ ¬ partI l[i]! = 0 ∧
  (l[i]!.Put = true → 0 ≤ la → ¬ l[(la : Int).toNat]!.Open = true → ¬ l[i]!.Open = true → tagCmp l[(la : Int).toNat]!.Tag l[i]!.Tag < 0) ∧
  (¬ l[i]!.Put = true → l[i]!.Status = 76 → la < 0) ∧
  (¬ l[i]!.Put = true → ¬ l[i]!.Status = 76 → 0 ≤ la ∧ (¬ l[(la : Int).toNat]!.Open = true → l[(la : Int).toNat]!.Tag = l[i]!.Tag) ∧ (l[(la : Int).toNat]!.Open = true → l[(la : Int).toNat]!.Tag = tag0 ∨ l[(la : Int).toNat]!.Tag = l[i]!.Tag))
def byQ (l : List GCall) (q : List Int) (e : Int) : Prop := (¬ fitP l ∧ e = 1 ∧ q = []) ∨ (fitP l ∧ e = 81 ∧ q = []) ∨
  (fitP l ∧ e = 0 ∧ (∀ k, k < q.length → plcOk l (lastF l q k) q[k]! ∧ ∀ j, j < k → ¬ q[j]! = q[k]!) ∧ ∀ i, i < l.length → dueP l[i]! → ∃ j, j < q.length ∧ q[j]! = (i : Int))
theorem plc_tag {l : List GCall} {i : Nat} {t : GTag} (h : TkP l i t) : (¬ l[i]!.Open = true → t = l[i]!.Tag) ∧ (l[i]!.Open = true → l[i]!.Tag = tag0 ∨ t = l[i]!.Tag) := by
  rcases h with ⟨_, _, e, _⟩ | h
  · exact ⟨fun _ => e, fun _ => .inr e⟩
  · obtain ⟨j, e1, e2, e3, _⟩ := asg_at h
    have : i = j := by omega
    subst this
    refine ⟨fun q => absurd e3.1 q, fun _ => .inl ?_⟩
    exact tag_ext e3.2.1.1 e3.2.1.2
theorem byR_byQ {l : List GCall} {q : List Int} {e : Int} (h : byR l q e) : byQ l q e := by
  rcases byR_spec h with h | ⟨h1, _, h2⟩ | ⟨hf, G, he, m, p, B, hl⟩
  · exact .inl h
  · exact .inr (.inl ⟨h1, h2⟩)
  · have hnd := byL_nodup hf B (Nat.le_refl _) hl
    refine .inr (.inr ⟨hf, he, fun k hk => ⟨?_, fun j hj e2 => ?_⟩, fun i hi hd => ?_⟩)
    · obtain ⟨i, ei, hi, hp⟩ := byL_part hf B (Nat.le_refl _) hl (List.mem_of_getElem? (get_bang hk))
      have hpos := (byL_pos B hf hl (Nat.le_refl _)).1 k hk
      rw [lastF_lfL l q k (by omega)]
      have hpi : ¬ partI l[i]! = 0 := part_pos.2 (hp.imp id fun ho => ⟨((hf i hi).2.2.2.1.1 ho).1, ho⟩)
      refine ⟨i, ei, hi, hpi, ?_⟩
      rw [ei] at hpos
      rcases hpos with ⟨⟨j, e1, _, e2, _, e3⟩, e4⟩ | ⟨a, ha, ⟨e1, e2⟩ | ⟨⟨j, e1, _, e2, _, e3, e4⟩, e5⟩⟩
      · have : i = j := by omega
        subst this
        rw [e4]
        unfold absW at e3
        exact ⟨fun q => absurd q e2, fun _ _ => by omega, fun _ q => absurd e3 q⟩
      · obtain ⟨j, t, f1, f2, f3, f4, f5⟩ := B.put hf ha
        have : i = j := by omega
        subst this
        rw [f1] at f5
        have f5 : l[i]!.Put = true := f5
        refine ⟨fun _ h0 h1 h2 => ?_, fun q => absurd f5 q, fun q => absurd f5 q⟩
        have ha0 : ¬ a = 0 := fun z => by rw [e2] at h0; unfold lastQ at h0; rw [if_pos z] at h0; omega
        have e2' : lfL l (q.take k) = p[a - 1]! := by rw [e2]; unfold lastQ; rw [if_neg ha0]
        obtain ⟨j', t', g1, g2, g3, g4, g5⟩ := B.put hf (show a - 1 < p.length by omega)
        have hup := B.up (a - 1) a (by omega) ha
        rw [f4, g4] at hup
        rw [e2', g1] at h1 ⊢
        have h1 : ¬ l[j']!.Open = true := h1
        show tagCmp l[j']!.Tag l[i]!.Tag < 0
        rw [← (plc_tag g3).1 h1, ← (plc_tag f3).1 h2]; exact hup
      · have : i = j := by omega
        subst this
        obtain ⟨j', t', g1, g2, g3, g4, g5⟩ := B.put hf ha
        rw [e5, g1]
        rw [g4] at e4
        have e4 : t' = l[i]!.Tag := (tag_ext e4.1 e4.2).symm
        refine ⟨fun q => absurd q e2, fun _ q => by omega, fun _ _ => ⟨by omega, fun ho => ?_, fun ho => ?_⟩⟩
        · show l[j']!.Tag = l[i]!.Tag
          rw [← (plc_tag g3).1 ho, e4]
        · rcases (plc_tag g3).2 ho with z | z
          · exact .inl z
          · exact .inr (by show l[j']!.Tag = _; rw [← z, e4])
    · rw [bang_get (by omega), bang_get hk] at e2
      exact List.pairwise_iff_getElem.1 (List.nodup_iff_pairwise_ne.1 hnd) j k (by omega) hk hj e2
    · obtain ⟨j, hj⟩ := List.getElem?_of_mem (byL_due hf G B hl hi hd)
      have hjl := (List.getElem?_eq_some_iff.1 hj).1
      rw [get_bang hjl] at hj
      exact ⟨j, hjl, Option.some.inj hj⟩
theorem Sm.part {l cl : List GCall} (s : Sm l cl) (i : Nat) : partI cl[i]! = partI l[i]! := by obtain ⟨h, e⟩ := s.2 i; rw [e]; rfl
theorem Sm.plc {l cl : List GCall} (s : Sm l cl) {la x : Int} (h : plcOk cl la x) : plcOk l la x := by
  obtain ⟨i, e, hi, h1, h2⟩ := h
  obtain ⟨v, ev⟩ := s.2 i
  obtain ⟨u, eu⟩ := s.2 la.toNat
  rw [s.part] at h1
  rw [ev, eu] at h2
  exact ⟨i, e, by have := s.1; omega, h1, h2⟩
theorem Sm.byQ {l cl : List GCall} (s : Sm l cl) {q : List Int} {e : Int} (h : byQ cl q e) : byQ l q e := by
  rcases h with ⟨h1, h2⟩ | ⟨h1, h2⟩ | ⟨h1, h2, h3, h4⟩
  · exact .inl ⟨fun z => h1 (s.fit.2 z), h2⟩
  · exact .inr (.inl ⟨s.fit.1 h1, h2⟩)
  · refine .inr (.inr ⟨s.fit.1 h1, h2, fun k hk => ⟨?_, (h3 k hk).2⟩, fun i hi hd => h4 i (by have := s.1; omega) ((s.due i).2 hd)⟩)
    have := s.plc (h3 k hk).1
    rwa [s.last] at this
/-- Which calls the order has, so far. -/
def seenS (l : List GCall) (o : List Int) (k : Nat) (sl : List Bool) : Prop := sl.length = l.length ∧ ∀ i : Nat, i < l.length → (sl[i]! = true ↔ ∃ j, j < k ∧ o[j]! = (i : Int))
theorem seenS_start {l : List GCall} {o : List Int} (n : Nat) (hn : n = l.length) : seenS l o 0 (List.replicate n false) := by
  subst hn
  refine ⟨by simp, fun i hi => ?_⟩
  rw [getElem!_pos (List.replicate l.length false) i (by simpa using hi), List.getElem_replicate]
  exact ⟨fun h => (by cases h), fun ⟨j, hj, _⟩ => by omega⟩
theorem seenS_step {l : List GCall} {o : List Int} {k : Nat} {sl : List Bool} (h : seenS l o k sl) (h1 : 0 ≤ o[k]!) (h2 : o[k]! < (l.length : Int)) : seenS l o (k + 1) (sl.set (o[k]! : Int).toNat true) := by
  obtain ⟨a, b⟩ := h
  refine ⟨by rw [List.length_set]; exact a, fun i hi => ?_⟩
  rw [setB_get (by omega)]
  by_cases e : i = (o[k]! : Int).toNat
  · rw [if_pos e]; exact ⟨fun _ => ⟨k, by omega, by omega⟩, fun _ => rfl⟩
  · rw [if_neg e, b i hi]
    constructor
    · rintro ⟨j, a, b⟩; exact ⟨j, by omega, b⟩
    · rintro ⟨j, a, b⟩
      by_cases ej : j = k
      · subst ej; omega
      · exact ⟨j, by omega, b⟩
/-- What the law looks at, at one place. -/
theorem plc_at {l : List GCall} {q : List Int} {k : Nat} {sl : List Bool} (h : seenS l q k sl) (hk : k < q.length) (h3 : ∀ k, k < q.length → plcOk l (lastF l q k) q[k]! ∧ ∀ j, j < k → ¬ q[j]! = q[k]!) {la : Int} (hl : la = lastF l q k) : 0 ≤ q[k]! ∧ q[k]! < (l.length : Int) ∧ ¬ sl[(q[k]! : Int).toNat]! = true ∧ ¬ partI l[(q[k]! : Int).toNat]! = 0 ∧
  (l[(q[k]! : Int).toNat]!.Put = true → 0 ≤ la → ¬ l[(la : Int).toNat]!.Open = true → ¬ l[(q[k]! : Int).toNat]!.Open = true → tagCmp l[(la : Int).toNat]!.Tag l[(q[k]! : Int).toNat]!.Tag < 0) ∧
  (¬ l[(q[k]! : Int).toNat]!.Put = true → l[(q[k]! : Int).toNat]!.Status = 76 → la < 0) ∧
  (¬ l[(q[k]! : Int).toNat]!.Put = true → ¬ l[(q[k]! : Int).toNat]!.Status = 76 → 0 ≤ la ∧ (¬ l[(la : Int).toNat]!.Open = true → l[(la : Int).toNat]!.Tag = l[(q[k]! : Int).toNat]!.Tag) ∧ (l[(la : Int).toNat]!.Open = true → l[(la : Int).toNat]!.Tag = tag0 ∨ l[(la : Int).toNat]!.Tag = l[(q[k]! : Int).toNat]!.Tag)) := by
  obtain ⟨⟨i, e, hi, h4⟩, h5⟩ := h3 k hk
  subst hl
  rw [e]
  refine ⟨by omega, by omega, fun z => ?_, h4⟩
  obtain ⟨j, a, b⟩ := (h.2 i hi).1 z
  exact h5 j a (by omega)
theorem plc_due {l : List GCall} {q : List Int} {sl : List Bool} {i k : Nat} (h : seenS l q k sl) (hk : q.length ≤ k) (hi : i < l.length) (h4 : ∀ i, i < l.length → dueP l[i]! → ∃ j, j < q.length ∧ q[j]! = (i : Int)) : ¬ (partI l[i]! = 2 ∧ ¬ sl[i]! = true) := fun z => by
  obtain ⟨j, a, b⟩ := h4 i hi (part_due.1 z.1)
  exact z.2 ((h.2 i hi).2 ⟨j, by omega, b⟩)
theorem plc_last {l : List GCall} {q : List Int} (h3 : ∀ k, k < q.length → plcOk l (lastF l q k) q[k]! ∧ ∀ j, j < k → ¬ q[j]! = q[k]!) {k : Nat} (hk : k ≤ q.length) : -1 ≤ lastF l q k ∧ (0 ≤ lastF l q k → lastF l q k < (l.length : Int)) :=
  lastF_in (fun j hj => by obtain ⟨i, e, hi, _⟩ := (h3 j hj).1; omega) k hk
theorem byQ_no {l : List GCall} {q : List Int} {e : Int} (h : byQ l q e) (hf : ¬ fitP l) : e = 1 ∧ q.length = 0 := by
  rcases h with ⟨_, a, rfl⟩ | ⟨z, _⟩ | ⟨z, _⟩
  · exact ⟨a, rfl⟩
  · exact absurd z hf
  · exact absurd z hf
theorem byQ_81 {l : List GCall} {q : List Int} {e : Int} (h : byQ l q e) (hf : fitP l) (he : ¬ e = 0) : e = 81 ∧ q.length = 0 := by
  rcases h with ⟨z, _⟩ | ⟨_, a, rfl⟩ | ⟨_, z, _⟩
  · exact absurd hf z
  · exact ⟨a, rfl⟩
  · exact absurd z he
theorem byQ_0 {l : List GCall} {q : List Int} {e : Int} (h : byQ l q e) (hf : fitP l) (he : e = 0) : (∀ k, k < q.length → plcOk l (lastF l q k) q[k]! ∧ ∀ j, j < k → ¬ q[j]! = q[k]!) ∧ ∀ i, i < l.length → dueP l[i]! → ∃ j, j < q.length ∧ q[j]! = (i : Int) := by
  rcases h with ⟨z, _⟩ | ⟨_, a, _⟩ | ⟨_, _, a, b⟩
  · exact absurd hf z
  · omega
  · exact ⟨a, b⟩
theorem vc_hvn {w w0 : World} {F : Nat → Prop} {l cl : List GCall} {bs : List (List Int)} {B : Nat} (h : (Res.vc F cl bs).holds w) (hc : cpC w0 l cl bs l.length) (hvn : ∀ x ∈ l, x.Value.n ≤ B) : ∀ x ∈ cl, x.Value.n ≤ B := by
  intro x hx
  obtain ⟨i, hi⟩ := List.mem_iff_getElem?.1 hx
  have hlt : i < cl.length := (List.getElem?_eq_some_iff.1 hi).1
  rw [get_bang hlt] at hi
  cases hi
  have hl : i < l.length := by have := hc.1; omega
  have e := (h.2 i hlt).2.1
  rw [(hc.2.2 i hl).2, bytesAt_len] at e
  have := hvn _ (List.mem_of_getElem? (get_bang hl))
  omega
theorem vc_bytes {w w0 : World} {F : Nat → Prop} {l cl : List GCall} {bs : List (List Int)} (h : (Res.vc F cl bs).holds w) (hc : cpC w0 l cl bs l.length) : ∀ i, i < l.length → bytesAt w cl[i]!.Value = bytesAt w0 l[i]!.Value := fun i hi => by
  rw [(vc_vb h (by have := hc.1; omega)).2, (hc.2.2 i hi).2]
theorem cpC_base {w0 w : World} {l cl : List GCall} {bs : List (List Int)} {k : Nat} (hk : k ≤ l.length) (h : cpC w l cl bs k) (hf : Fram Non w0 w) (hv : ∀ x ∈ l, VB w0 x.Value) : cpC w0 l cl bs k := by
  refine ⟨h.1, h.2.1, fun i hi => ⟨(h.2.2 i hi).1, ?_⟩⟩
  rw [(h.2.2 i hi).2, VB.fram (hv _ (List.mem_of_getElem? (get_bang (show i < l.length by omega)))) hf]
theorem onW_vb {w : World} {b t c : Nat} (h : (Res.row b [.int .u8 1] t).holds w) : VB w ⟨some ⟨b, 0, none⟩, 1, c⟩ ∧ bytesAt w ⟨some ⟨b, 0, none⟩, 1, c⟩ = [1] := by
  have hs : SlR w (some ⟨b, 0, none⟩) 1 (([1] : List Int).flatMap u8c) := SlR.row (n := 1) h rfl
  exact ⟨(VB.mk (s := ⟨some ⟨b, 0, none⟩, 1, c⟩) hs rfl).1, bytesAt_of (s := ⟨some ⟨b, 0, none⟩, 1, c⟩) hs rfl⟩
/-! ### the document's first example -/
def onW (v1 v2 : SlH) : List GCall := [⟨0, 0, true, ⟨#[]⟩, v1, 0, 0, 1, false, ⟨1, 1⟩⟩, ⟨0, 0, false, ⟨#[]⟩, v2, 0, 2, 3, false, ⟨1, 1⟩⟩]
theorem onW_fit (v1 v2 : SlH) : fitP (onW v1 v2) := by
  intro i hi
  have : i = 0 ∨ i = 1 := by simp [onW] at hi; omega
  rcases this with rfl | rfl <;> simp [fitC, openP, onW]
theorem onW_d0 (v1 v2 : SlH) : dueP (onW v1 v2)[0]! := .inl ⟨rfl, by simp [onW]⟩
theorem onW_d1 (v1 v2 : SlH) : dueP (onW v1 v2)[1]! := .inr ⟨by simp [onW], by simp [onW], .inl rfl⟩
theorem onW_01 {w : World} {v1 v2 : SlH} (hv : bytesAt w v2 = bytesAt w v1) : chkO w (onW v1 v2) [0, 1] = 0 := by
  refine chkO_0 (onW_fit _ _) ⟨fun j hj => ?_, fun i hi _ => ?_⟩ (fun j hj => ?_) (fun j hj => ?_)
  · have : j = 0 ∨ j = 1 := by simp at hj; omega
    rcases this with rfl | rfl
    · exact ⟨by decide, (by show (0 : Int) < 2; decide), .inl (onW_d0 _ _), fun i hi => by omega⟩
    · exact ⟨by decide, (by show (1 : Int) < 2; decide), .inl (onW_d1 _ _), fun i hi => by obtain rfl : i = 0 := (by omega); show ¬ (0 : Int) = 1; decide⟩
  · have : i = 0 ∨ i = 1 := by simp [onW] at hi; omega
    rcases this with rfl | rfl
    · exact ⟨0, by decide, by decide⟩
    · exact ⟨1, by decide, by decide⟩
  · have : j = 0 ∨ j = 1 := by simp at hj; omega
    rcases this with rfl | rfl <;> (simp [begF, atO, onW]; try omega)
  · have : j = 0 ∨ j = 1 := by simp at hj; omega
    rcases this with rfl | rfl
    · intro h; exact absurd rfl h
    · intro _
      refine ⟨fun h => ?_, fun _ => ⟨by simp [lastF, atO, onW], ?_⟩⟩
      · exact absurd h.1 (by simp [atO, onW])
      · exact hv
theorem onW_all {w : World} {v1 v2 : SlH} (h1 : VB w v1) (h2 : VB w v2) : ∀ y ∈ onW v1 v2, VB w y.Value := by
  intro y hy
  rcases List.mem_cons.1 hy with rfl | hy
  · exact h1
  · rw [List.mem_singleton.1 hy]; exact h2
theorem onW_n {v1 v2 : SlH} (h1 : v1.n = 1) (h2 : v2.n = 1) : ∀ y ∈ onW v1 v2, y.Value.n ≤ 8796093022207000 := by
  intro y hy
  rcases List.mem_cons.1 hy with rfl | hy
  · show v1.n ≤ _; omega
  · rw [List.mem_singleton.1 hy]; show v2.n ≤ _; omega
theorem onW_10 {w : World} {v1 v2 : SlH} : chkO w (onW v1 v2) [1, 0] = 81 := chkO_81 (onW_fit _ _) fun q => by
  have := q.2.1 1 (by decide)
  simp [begF, atO, onW] at this
  omega
end Go.Proofs.Ytdahgdkadfdkeaa.K
