/- Drafts' calls: one more, one less, one longer; calls that nothing explains. -/
import Derived.Test.YthdkbbpiaeaojaaLinJ
namespace Go.Proofs.Ythdkbbpiaeaojaa.K
open Go Go.RowKit
set_option linter.unusedVariables false

def unseenB : ByteArray := ⟨#[117, 110, 115, 101, 101, 110]⟩
theorem eabcV_cases (z : Int) : eabcV z = ⟨#[]⟩ ∨ eabcV z = ⟨#[97]⟩ ∨ eabcV z = ⟨#[98]⟩ ∨ eabcV z = ⟨#[99]⟩ := by
  have h := modI_bd z (k := 4) (by omega)
  unfold eabcV
  have : (modI z 4).toNat = 0 ∨ (modI z 4).toNat = 1 ∨ (modI z 4).toNat = 2 ∨ (modI z 4).toNat = 3 := by omega
  rcases this with h | h | h | h
  · rw [h]; exact .inl rfl
  · rw [h]; exact .inr (.inl rfl)
  · rw [h]; exact .inr (.inr (.inl rfl))
  · rw [h]; exact .inr (.inr (.inr rfl))
theorem abcV_cases (z : Int) : abcV z = ⟨#[97]⟩ ∨ abcV z = ⟨#[98]⟩ ∨ abcV z = ⟨#[99]⟩ := by
  have h := modI_bd z (k := 3) (by omega)
  unfold abcV
  have : (modI z 3).toNat = 0 ∨ (modI z 3).toNat = 1 ∨ (modI z 3).toNat = 2 := by omega
  rcases this with h | h | h
  · rw [h]; exact .inl rfl
  · rw [h]; exact .inr (.inl rfl)
  · rw [h]; exact .inr (.inr rfl)
def plainV (v : ByteArray) : Prop := v = ⟨#[]⟩ ∨ v = ⟨#[97]⟩ ∨ v = ⟨#[98]⟩ ∨ v = ⟨#[99]⟩
theorem plain_ne {v u : ByteArray} (h : plainV v) (hu : u ≠ ⟨#[]⟩ ∧ u ≠ ⟨#[97]⟩ ∧ u ≠ ⟨#[98]⟩ ∧ u ≠ ⟨#[99]⟩) : v ≠ u := by
  rcases h with rfl | rfl | rfl | rfl
  · exact hu.1.symm
  · exact hu.2.1.symm
  · exact hu.2.2.1.symm
  · exact hu.2.2.2.symm
section
variable {ts : List Gsherdlaw20_Draft} {cl : List GCall} {vs : List ByteArray} {k : Nat} {val val' : SlH → ByteArray}
theorem dr_plain (h : drB ts cl vs k) {i : Nat} (hi : i < k) : plainV vs[i]! := by
  obtain ⟨_, _, q⟩ := dr_at h hi
  rcases q with ⟨_, _, _, _, e⟩ | ⟨_, _, _, _, e⟩
  · rw [e]; exact .inr (abcV_cases _)
  · rw [e]; exact eabcV_cases _
theorem app_lt {cl : List GCall} {x : GCall} {i : Nat} (h : i < cl.length) : (cl ++ [x])[i]! = cl[i]! := by rw [app_bang (by omega), if_pos h]
theorem app_at (cl : List GCall) (x : GCall) : (cl ++ [x])[cl.length]! = x := by rw [app_bang (by omega), if_neg (by omega)]
theorem more_to {x : GCall} (h : drB ts cl vs k) (hx : coreC x = (true, true, x.From, -1, 0)) (hv : ∀ i, i < k → val cl[i]!.Value = vs[i]!) (hv' : ∀ i, i < k → val' cl[i]!.Value = vs[i]!) : Ex val cl → Ex val' (cl ++ [x]) := by
  have hl := h.1
  simp only [coreC, Prod.mk.injEq] at hx
  obtain ⟨x1, x2, _, x4, x5⟩ := hx
  refine Tr.ex (p := fun _ => true) (g := id) ⟨?_, ?_, ?_, ?_, ?_, ?_, ?_, ?_, ?_⟩
  · intro i hi _; simp; omega
  · intro i j _ _ _ _ e; exact e
  · intro j hj hm
    simp at hj
    by_cases hlt : j < cl.length
    · rw [app_lt hlt] at hm; exact ⟨j, hlt, rfl, rfl, hm⟩
    · obtain rfl : j = cl.length := by omega
      rw [app_at] at hm
      rcases hm with ⟨_, q⟩ | ⟨q, _⟩
      · exact absurd x2 q
      · exact absurd x1 q
  · intro i hi _; rw [id, app_lt hi]
  · intro i hi _ q; rw [id, app_lt hi]; exact q
  · intro i j hi hj _ _ q1 q2 _; rw [id, id, app_lt hi, app_lt hj] at q1; rw [id, app_lt hj] at q2; exact ⟨q1, q2⟩
  · intro i hi _; rw [id, app_lt hi]
  · intro i j hi hj _ _ q; rw [id, id, app_lt hi, app_lt hj, hv' i (by omega), hv' j (by omega), ← hv i (by omega), ← hv j (by omega)]; exact q
  · intro i j _ _ q; exact absurd rfl q
theorem more_from {x : GCall} (h : drB ts cl vs k) (hx : coreC x = (true, true, x.From, -1, 0)) (hv : ∀ i, i < k → val cl[i]!.Value = vs[i]!) (hv' : ∀ i, i < k → val' cl[i]!.Value = vs[i]!) (hu : val' x.Value = unseenB) : Ex val' (cl ++ [x]) → Ex val cl := by
  have hl := h.1
  simp only [coreC, Prod.mk.injEq] at hx
  obtain ⟨x1, x2, _, x4, x5⟩ := hx
  have hne : ∀ i, i < (cl ++ [x]).length → decide (i ≠ cl.length) = true → i < cl.length := by
    intro i hi q
    simp at hi q
    omega
  refine Tr.ex (p := fun i => decide (i ≠ cl.length)) (g := id) ⟨?_, ?_, ?_, ?_, ?_, ?_, ?_, ?_, ?_⟩
  · intro i hi q; exact hne i hi q
  · intro i j _ _ _ _ e; exact e
  · intro j hj hm; exact ⟨j, by simp; omega, by simp; omega, rfl, by rw [app_lt hj]; exact hm⟩
  · intro i hi q; rw [id, app_lt (hne i hi q)]
  · intro i hi q r; rw [id]; rw [app_lt (hne i hi q)] at r; exact r
  · intro i j hi hj q r q1 q2 _; rw [app_lt (hne i hi q), app_lt (hne j hj r)]; exact ⟨q1, q2⟩
  · intro i hi q; rw [id, app_lt (hne i hi q)]
  · intro i j hi hj q r e
    have a := hne i hi q
    have b := hne j hj r
    rw [app_lt a, app_lt b, hv' i (by omega), hv' j (by omega)] at e
    rw [id, id, hv i (by omega), hv j (by omega)]; exact e
  · intro i j hi hj q hp r hg he
    simp at hi q
    have b := hne j hj r
    unfold explP at he
    split at he
    · omega
    · obtain ⟨_, y, hy, hz⟩ := he
      rw [show ((i : Int).toNat) = cl.length from by omega, get_bang (by simp), app_at] at hy
      obtain rfl := Option.some.inj hy
      rw [hu, app_lt b, hv' j (by omega)] at hz
      exact plain_ne (u := unseenB) (dr_plain h (by omega)) (by decide) hz.symm
theorem less_at {cl : List GCall} {i j : Nat} (hi : i < cl.length) (hj : j + 1 < cl.length) : (cl.take i ++ cl.drop (i + 1))[j]! = if j < i then cl[j]! else cl[j + 1]! := by
  rw [List.getElem!_eq_getElem?_getD, List.getElem?_append, List.length_take]
  by_cases h : j < i
  · rw [if_pos (by omega), if_pos h, List.getElem?_take, if_pos h, List.getElem!_eq_getElem?_getD]
  · rw [if_neg (by omega), if_neg h, List.getElem?_drop, List.getElem!_eq_getElem?_getD, show i + 1 + (j - min i cl.length) = j + 1 from by omega]
theorem less_ex {i : Nat} (h : drB ts cl vs k) (hi : i < k) (hg : ¬ cl[i]!.Put = true) (hv : ∀ i, i < k → val cl[i]!.Value = vs[i]!) (hv' : ∀ i, i < k → val' cl[i]!.Value = vs[i]!) : Ex val cl → Ex val' (cl.take i ++ cl.drop (i + 1)) := by
  have hl := h.1
  have hlen : (cl.take i ++ cl.drop (i + 1)).length = k - 1 := by simp; omega
  have key : ∀ m, m < cl.length → decide (m ≠ i) = true → (cl.take i ++ cl.drop (i + 1))[if m < i then m else m - 1]! = cl[m]! := by
    intro m hm q
    have q : m ≠ i := of_decide_eq_true q
    by_cases hlt : m < i
    · rw [if_pos hlt, less_at (by omega) (by omega), if_pos hlt]
    · rw [if_neg hlt, less_at (by omega) (by omega), if_neg (by omega), show m - 1 + 1 = m from by omega]
  refine Tr.ex (p := fun m => decide (m ≠ i)) (g := fun m => if m < i then m else m - 1) ⟨?_, ?_, ?_, ?_, ?_, ?_, ?_, ?_, ?_⟩
  · intro m hm q
    have q : m ≠ i := of_decide_eq_true q
    rw [hlen]
    show (if m < i then m else m - 1) < k - 1
    split <;> omega
  · intro a b _ _ q r e
    have q : a ≠ i := of_decide_eq_true q
    have r : b ≠ i := of_decide_eq_true r
    have e : (if a < i then a else a - 1) = (if b < i then b else b - 1) := e
    split at e <;> split at e <;> omega
  · intro j hj hm
    rw [hlen] at hj
    refine ⟨if j < i then j else j + 1, by split <;> omega, ?_, ?_, ?_⟩
    · show decide ((if j < i then j else j + 1) ≠ i) = true
      exact decide_eq_true (by split <;> omega)
    · show (if (if j < i then j else j + 1) < i then (if j < i then j else j + 1) else (if j < i then j else j + 1) - 1) = j
      by_cases c : j < i
      · rw [if_pos c, if_pos c]
      · rw [if_neg c, if_neg (by omega)]; omega
    · rw [less_at (by omega) (by omega)] at hm
      by_cases c : j < i
      · rw [if_pos c] at hm ⊢; exact hm
      · rw [if_neg c] at hm ⊢; exact hm
  · intro m hm q; exact congrArg GCall.Put (key m hm q)
  · intro m hm q r; rw [key m hm q]; exact r
  · intro a b ha hb q r q1 q2 _; rw [key a ha q, key b hb r] at q1; rw [key b hb r] at q2; exact ⟨q1, q2⟩
  · intro m hm q; exact congrArg GCall.Status (key m hm q)
  · intro a b ha hb q r e
    rw [key a ha q, key b hb r, hv' a (by omega), hv' b (by omega), ← hv a (by omega), ← hv b (by omega)]; exact e
  · intro a b _ _ q hp
    have q : a = i := Classical.byContradiction fun hn => q (decide_eq_true hn)
    subst q
    exact absurd hp hg
theorem later_ex {i : Nat} {c : GCall} (h : drB ts cl vs k) (hi : i < k) (h0 : 0 ≤ cl[i]!.To) (hc : c.Put = cl[i]!.Put ∧ c.Open = cl[i]!.Open ∧ c.Status = cl[i]!.Status ∧ c.From = cl[i]!.From ∧ c.Value = cl[i]!.Value) (ht : cl[i]!.To ≤ c.To) (hv : ∀ i, i < k → val cl[i]!.Value = vs[i]!) (hv' : ∀ i, i < k → val' cl[i]!.Value = vs[i]!) : Ex val cl → Ex val' (cl.set i c) := by
  have hl := h.1
  obtain ⟨c1, c2, c3, c4, c5⟩ := hc
  have key : ∀ j : Nat, (cl.set i c)[j]!.Put = cl[j]!.Put ∧ (cl.set i c)[j]!.Open = cl[j]!.Open ∧ (cl.set i c)[j]!.Status = cl[j]!.Status ∧ (cl.set i c)[j]!.From = cl[j]!.From ∧ (cl.set i c)[j]!.Value = cl[j]!.Value ∧ ((cl.set i c)[j]!.To = cl[j]!.To ∨ (0 ≤ cl[j]!.To ∧ cl[j]!.To ≤ (cl.set i c)[j]!.To)) := by
    intro j
    rw [set_get (by omega)]
    split
    · rename_i e; subst e; exact ⟨c1, c2, c3, c4, c5, .inr ⟨h0, ht⟩⟩
    · exact ⟨rfl, rfl, rfl, rfl, rfl, .inl rfl⟩
  have hm : ∀ j : Nat, mustC (cl.set i c)[j]! ↔ mustC cl[j]! := by
    intro j
    obtain ⟨k1, k2, k3, k4, k5, k6⟩ := key j
    unfold mustC
    rw [k1, k2, k3]
    constructor
    · rintro (q | ⟨q1, q2, q3⟩)
      · exact .inl q
      · exact .inr ⟨q1, by omega, q3⟩
    · rintro (q | ⟨q1, q2, q3⟩)
      · exact .inl q
      · exact .inr ⟨q1, by omega, q3⟩
  refine Tr.ex (p := fun _ => true) (g := id) ⟨?_, ?_, ?_, ?_, ?_, ?_, ?_, ?_, ?_⟩
  · intro j hj _; rw [List.length_set]; exact hj
  · intro a b _ _ _ _ e; exact e
  · intro j hj q; rw [List.length_set] at hj; exact ⟨j, hj, rfl, rfl, (hm j).1 q⟩
  · intro j hj _; exact (key j).1
  · intro j hj _ q
    unfold partC at *
    rw [id, hm j, (key j).1]; exact q
  · intro a b ha hb _ _ q1 q2 _
    obtain ⟨k1, k2, k3, k4, k5, k6⟩ := key b
    have := (key a).2.2.2.1
    simp only [id] at q1 q2
    omega
  · intro j hj _; exact (key j).2.2.1
  · intro a b ha hb _ _ q
    rw [id, id, (key a).2.2.2.2.1, (key b).2.2.2.2.1, hv' a (by omega), hv' b (by omega), ← hv a (by omega), ← hv b (by omega)]; exact q
  · intro a b _ _ q; exact absurd rfl q
end
theorem app_head {cl t : List GCall} {i : Nat} (h : i < cl.length) : (cl ++ t)[i]! = cl[i]! := by
  rw [List.getElem!_eq_getElem?_getD, List.getElem!_eq_getElem?_getD, List.getElem?_append, if_pos h]
theorem app_tail (cl t : List GCall) (d : Nat) : (cl ++ t)[cl.length + d]! = t[d]! := by
  rw [List.getElem!_eq_getElem?_getD, List.getElem!_eq_getElem?_getD, List.getElem?_append, if_neg (by omega), Nat.add_sub_cancel_left]
section
variable {val : SlH → ByteArray} {cl : List GCall}
theorem expl_val {l : List GCall} {c : GCall} {last : Int} (h : explP val l c last) (hs : c.Status = 0) : ∃ i, last = ((i : Nat) : Int) ∧ i < l.length ∧ val l[i]!.Value = val c.Value := by
  unfold explP at h
  rw [if_neg (by rw [hs]; omega)] at h
  obtain ⟨h0, y, hy, hz⟩ := h
  have hl := (List.getElem?_eq_some_iff.1 hy).1
  rw [get_bang hl] at hy
  obtain rfl := Option.some.inj hy
  exact ⟨last.toNat, by omega, hl, hz⟩
theorem wrong0 {x : GCall} (hp : ∀ i, i < cl.length → plainV (val cl[i]!.Value)) (hx : coreC x = (false, false, 50, 300, 0)) (hu : ¬ plainV (val x.Value)) : ¬ Ex val (cl ++ [x]) := by
  intro h
  simp only [coreC, Prod.mk.injEq] at hx
  obtain ⟨x1, x2, x3, x4, x5⟩ := hx
  have e : (cl ++ [x])[cl.length]! = x := app_tail cl [x] 0
  obtain ⟨pre, a, b, c⟩ := ex_get h (x := cl.length) (by simp) (by rw [e]; exact .inr ⟨by rw [x1]; simp, by omega, .inl x5⟩) (by rw [e, x1]; simp)
  rw [e] at b
  obtain ⟨i, i1, i2, i3⟩ := expl_val b x5
  rcases last_put (cl ++ [x]) pre with ⟨q, _⟩ | ⟨j, _, q2, q3⟩
  · omega
  · have : j = i := by omega
    subst this
    by_cases hlt : j < cl.length
    · rw [app_head hlt] at i3; rw [← i3] at hu; exact hu (hp j hlt)
    · have : j = cl.length := by simp at i2; omega
      rw [this, e, x1] at q2; cases q2
theorem wrong1 {x y : GCall} (hx : coreC x = (true, false, 0, 1, 0)) (hy : coreC y = (false, false, 2, 300, 76)) : ¬ Ex val (cl ++ [x, y]) := by
  intro h
  simp only [coreC, Prod.mk.injEq] at hx hy
  obtain ⟨x1, x2, x3, x4, x5⟩ := hx
  obtain ⟨y1, y2, y3, y4, y5⟩ := hy
  have ex : (cl ++ [x, y])[cl.length]! = x := app_tail cl [x, y] 0
  have ey : (cl ++ [x, y])[cl.length + 1]! = y := app_tail cl [x, y] 1
  obtain ⟨pre, a, b, c⟩ := ex_get h (x := cl.length + 1) (by simp) (by rw [ey]; exact .inr ⟨by rw [y1]; simp, by omega, .inr y5⟩) (by rw [ey, y1]; simp)
  have hx := c cl.length (by simp) ⟨by rw [ex]; exact .inl ⟨x1, by rw [x2]; simp⟩, by rw [ex]; omega, by rw [ex, ey]; omega, by omega⟩
  rw [ey] at b
  unfold explP at b
  rw [if_pos y5] at b
  rcases last_put (cl ++ [x, y]) pre with ⟨_, q⟩ | ⟨j, _, _, q3⟩
  · exact q _ hx (by rw [ex]; exact x1)
  · omega
theorem wrong2 {x y z : GCall} (hp : ∀ i, i < cl.length → plainV (val cl[i]!.Value)) (hx : coreC x = (true, false, 0, 1, 0)) (hy : coreC y = (true, false, 2, 3, 0)) (hz : coreC z = (false, false, 4, 300, 0)) (hu : ¬ plainV (val z.Value)) (hyz : val y.Value ≠ val z.Value) : ¬ Ex val (cl ++ [x, y, z]) := by
  intro h
  simp only [coreC, Prod.mk.injEq] at hx hy hz
  obtain ⟨x1, x2, x3, x4, x5⟩ := hx
  obtain ⟨y1, y2, y3, y4, y5⟩ := hy
  obtain ⟨z1, z2, z3, z4, z5⟩ := hz
  have ex : (cl ++ [x, y, z])[cl.length]! = x := app_tail cl [x, y, z] 0
  have ey : (cl ++ [x, y, z])[cl.length + 1]! = y := app_tail cl [x, y, z] 1
  have ez : (cl ++ [x, y, z])[cl.length + 2]! = z := app_tail cl [x, y, z] 2
  obtain ⟨pre, a, b, c⟩ := ex_get h (x := cl.length + 2) (by simp) (by rw [ez]; exact .inr ⟨by rw [z1]; simp, by omega, .inl z5⟩) (by rw [ez, z1]; simp)
  have hx := c cl.length (by simp) ⟨by rw [ex]; exact .inl ⟨x1, by rw [x2]; simp⟩, by rw [ex]; omega, by rw [ex, ez]; omega, by omega⟩
  have hy := c (cl.length + 1) (by simp) ⟨by rw [ey]; exact .inl ⟨y1, by rw [y2]; simp⟩, by rw [ey]; omega, by rw [ey, ez]; omega, by omega⟩
  rw [ez] at b
  obtain ⟨i, i1, i2, i3⟩ := expl_val b z5
  rcases last_put (cl ++ [x, y, z]) pre with ⟨q, _⟩ | ⟨j, _, q2, q3⟩
  · omega
  · have : j = i := by omega
    subst this
    simp at i2
    by_cases hlt : j < cl.length
    · rw [app_head hlt] at i3; rw [← i3] at hu; exact hu (hp j hlt)
    · have : j = cl.length ∨ j = cl.length + 1 ∨ j = cl.length + 2 := by omega
      rcases this with e | e | e
      · refine last_ahead (x := cl.length) (y := cl.length + 1) pre (by simp) ⟨by rw [ex]; exact .inl ⟨x1, by rw [x2]; simp⟩, by rw [ex]; omega, by rw [ex, ey]; omega, by omega⟩ (by rw [ey]; exact y1) a hy ?_
        rw [i1, e]
      · rw [e, ey] at i3; exact hyz i3
      · rw [e, ez, z1] at q2; cases q2
end
end Go.Proofs.Ythdkbbpiaeaojaa.K
