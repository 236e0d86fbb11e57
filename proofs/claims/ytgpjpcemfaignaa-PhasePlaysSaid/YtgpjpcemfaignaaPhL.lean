/- Phases of three types tell the same: the plain law. -/
import Derived.Test.YtgpjpcemfaignaaPhaA
namespace Go.Proofs.Ytgpjpcemfaignaa.K
open Go Go.RowKit
def cN (n : Nat) : GConfig := ⟨(n : Int), 1, 0⟩
def vm {ν : Type} (f : Int → ν) (l : List (Int × Int)) : List (Int × ν) := l.map fun p => (p.1, f p.2)
theorem vm_len {ν : Type} (f : Int → ν) (l : List (Int × Int)) : (vm f l).length = l.length := by simp [vm]
theorem vm_get {ν : Type} (f : Int → ν) (l : List (Int × Int)) (k : Int) : mapV (vm f l) k = (mapV l k).map f := by
  induction l with
  | nil => rfl
  | cons p l ih =>
    show mapV ((p.1, f p.2) :: vm f l) k = _
    rw [mapV_cons, mapV_cons, ih]
    by_cases h : k = p.1 <;> simp [h]
theorem vm_some {ν : Type} (f : Int → ν) (l : List (Int × Int)) (k : Int) : (mapV (vm f l) k).isSome = (mapV l k).isSome := by rw [vm_get]; cases mapV l k <;> rfl
theorem put_cons {κ ν : Type} [DecidableEq κ] (p : κ × ν) (l : List (κ × ν)) (k : κ) (v : ν) : mapPut (p :: l) k v = if k = p.1 then (k, v) :: l else p :: mapPut l k v := by
  unfold mapPut
  rw [List.findIdx?_cons]
  by_cases h : k = p.1
  · simp [h]
  · simp only [h, decide_false, Bool.false_eq_true, if_false]
    cases hf : l.findIdx? (fun p => decide (k = p.1)) <;> simp
theorem vm_put {ν : Type} (f : Int → ν) (l : List (Int × Int)) (k v : Int) : mapPut (vm f l) k (f v) = vm f (mapPut l k v) := by
  induction l with
  | nil => rfl
  | cons p l ih =>
    show mapPut ((p.1, f p.2) :: vm f l) k (f v) = _
    rw [put_cons, put_cons, ih]
    by_cases h : k = p.1 <;> simp [h, vm]
theorem vm_ans {ν : Type} (f : Int → ν) (c : GConfig) (l : List (Int × Int)) (k v : Int) : ansP c (vm f l) k (f v) = vm f (ansP c l k v) := by
  unfold ansP
  by_cases h : inP c k
  · rw [if_pos h, if_pos h, vm_put]
  · rw [if_neg h, if_neg h]
theorem vm_miss {ν : Type} (f : Int → ν) (l : List (Int × Int)) (n : Nat) : missP (vm f l) n = missP l n := by
  unfold missP
  congr 1
  funext i
  rw [vm_some]
theorem put_len {l : List (Int × Int)} {k v : Int} : (mapPut l k v).length = if (mapV l k).isSome = true then l.length else l.length + 1 := by
  induction l with
  | nil => rfl
  | cons p l ih =>
    rw [put_cons, mapV_cons]
    by_cases h : k = p.1
    · simp [h]
    · rw [if_neg h, if_neg h, List.length_cons, ih, List.length_cons]
      split <;> rfl
theorem miss_some {l : List (Int × Int)} {k : Nat} (h : (mapV l (k : Int)).isSome = true) : (missP l (k + 1)).length = (missP l k).length := by
  have := (missP_succ (l := l) (k := k) rfl).2 h
  rw [← this]
theorem miss_none {l : List (Int × Int)} {k : Nat} (h : (mapV l (k : Int)).isSome = false) : (missP l (k + 1)).length = (missP l k).length + 1 := by
  have := (missP_succ (l := l) (k := k) rfl).1 (by rw [h]; simp)
  rw [← this]; simp
theorem miss_put {l : List (Int × Int)} {s v : Int} (h0 : 0 ≤ s) : ∀ n : Nat, ((s < (n : Int) ∧ (mapV l s).isSome = false) → (missP (mapPut l s v) n).length + 1 = (missP l n).length) ∧ (¬ (s < (n : Int) ∧ (mapV l s).isSome = false) → (missP (mapPut l s v) n).length = (missP l n).length)
  | 0 => ⟨fun h => by omega, fun _ => rfl⟩
  | n + 1 => by
    obtain ⟨i1, i2⟩ := miss_put h0 (l := l) (v := v) n
    have hp := mapV_put (l := l) (k := s) (j := (n : Int)) (v := v)
    by_cases e : (n : Int) = s
    · rw [if_pos e] at hp
      have m1 : (missP (mapPut l s v) (n + 1)).length = (missP (mapPut l s v) n).length := miss_some (by rw [hp]; rfl)
      have i3 := i2 (by omega)
      rw [m1, i3]
      cases q : (mapV l s).isSome
      · have m2 : (missP l (n + 1)).length = (missP l n).length + 1 := miss_none (by rw [e]; exact q)
        exact ⟨fun _ => m2.symm, fun h => absurd ⟨by omega, rfl⟩ h⟩
      · have m2 : (missP l (n + 1)).length = (missP l n).length := miss_some (by rw [e]; exact q)
        exact ⟨fun h => (by cases h.2), fun _ => m2.symm⟩
    · rw [if_neg e] at hp
      have m : ∃ d, (missP (mapPut l s v) (n + 1)).length = (missP (mapPut l s v) n).length + d ∧ (missP l (n + 1)).length = (missP l n).length + d := by
        cases q : (mapV l (n : Int)).isSome
        · exact ⟨1, miss_none (by rw [hp]; exact q), miss_none q⟩
        · exact ⟨0, miss_some (by rw [hp]; exact q), miss_some q⟩
      obtain ⟨d, m1, m2⟩ := m
      rw [m1, m2]
      exact ⟨fun h => by have := i1 ⟨by omega, h.2⟩; omega, fun h => by have := i2 (fun g => h ⟨by omega, g.2⟩); omega⟩
structure OkL (n : Nat) (la : List (Int × Int)) (cs : List Bool) (ls : List Int) : Prop where
  c : cs.length = n
  s : ls.length = n
  m : (missP la n).length + la.length = n
  v : ∀ i, i < n → mapV la (i : Int) = if cs[i]! = true then some ls[i]! else none
  r : ∀ i, i < n → -9223372036854775808 ≤ ls[i]! ∧ ls[i]! ≤ 9223372036854775807
theorem OkL.nil (n : Nat) : OkL n [] (List.replicate n false) (List.replicate n 0) := by
  refine ⟨by simp, by simp, ?_, fun i hi => ?_, fun i hi => ?_⟩
  · unfold missP
    rw [List.filter_eq_self.2 (fun a _ => by rfl)]; simp
  · rw [show (List.replicate n false)[i]! = false from by simp [hi]]; rfl
  · rw [show (List.replicate n (0 : Int))[i]! = 0 from by simp [hi]]; omega
theorem cnt_eq {b : Bool} {n m : Nat} {x cnt : Int} (hl : m = if b = true then n else n + 1) (hd : (x = cnt + 1 ∧ (¬ (b = true)) ∧ True) ∨ (x = cnt ∧ (b = true) ∧ True)) (pc : cnt = (n : Int)) : ((m : Nat) : Int) = x := by
  rcases hd with ⟨h1, h2, _⟩ | ⟨h1, h2, _⟩
  · rw [if_neg h2] at hl; omega
  · rw [if_pos h2] at hl; omega
theorem inP_cN {n : Nat} {s : Int} : inP (cN n) s ↔ 0 ≤ s ∧ s < (n : Int) := Iff.rfl
theorem OkL.out {n : Nat} {la : List (Int × Int)} {s v : Int} (h : s < 0 ∨ (n : Int) ≤ s) : ansP (cN n) la s v = la := by
  unfold ansP; rw [if_neg (by rw [inP_cN]; omega)]
theorem OkL.some {n : Nat} {la : List (Int × Int)} {cs : List Bool} {ls : List Int} (h : OkL n la cs ls) {s : Int} (h0 : 0 ≤ s) (h1 : s < (n : Int)) : (mapV la s).isSome = cs[s.toNat]! := by
  have := h.v s.toNat (by omega)
  rw [show ((s.toNat : Nat) : Int) = s from by omega] at this
  rw [this]; cases cs[s.toNat]! <;> rfl
theorem set_bang {α : Type} [Inhabited α] {l : List α} {i j : Nat} {x : α} (h : i < l.length) : (l.set i x)[j]! = if j = i then x else l[j]! := by
  rw [List.getElem!_eq_getElem?_getD, List.getElem!_eq_getElem?_getD, List.getElem?_set]
  by_cases e : i = j
  · subst e; simp [h]
  · rw [if_neg e, if_neg (fun q => e q.symm)]
theorem OkL.put {n : Nat} {la : List (Int × Int)} {cs : List Bool} {ls : List Int} (h : OkL n la cs ls) {s v : Int} (h0 : 0 ≤ s) (h1 : s < (n : Int)) (r0 : -9223372036854775808 ≤ v) (r1 : v ≤ 9223372036854775807) :
    OkL n (ansP (cN n) la s v) (cs.set s.toNat true) (ls.set s.toNat v) ∧ (ansP (cN n) la s v).length = (if cs[s.toNat]! = true then la.length else la.length + 1) := by
  have ha : ansP (cN n) la s v = mapPut la s v := by unfold ansP; rw [if_pos (inP_cN.2 ⟨h0, h1⟩)]
  have hs := h.some h0 h1
  have hm := miss_put (l := la) (v := v) h0 n
  have hl := put_len (l := la) (k := s) (v := v)
  have hm0 := h.m
  have hc := h.c
  have hls := h.s
  rw [ha]
  rw [hs] at hm hl
  refine ⟨⟨by simp [h.c], by simp [h.s], ?_, fun i hi => ?_, fun i hi => ?_⟩, hl⟩
  · cases q : cs[s.toNat]!
    · rw [q] at hl hm; have := hm.1 ⟨h1, rfl⟩; simp only [Bool.false_eq_true, if_false] at hl; omega
    · rw [q] at hl hm; have := hm.2 (fun g => by cases g.2); simp only [if_true] at hl; omega
  · rw [mapV_put, set_bang (by omega), set_bang (by omega)]
    by_cases e : i = s.toNat
    · rw [if_pos (by omega), if_pos e, if_pos e, if_pos rfl]
    · rw [if_neg (by omega), if_neg e, if_neg e]; exact h.v i hi
  · rw [set_bang (by omega)]
    by_cases e : i = s.toNat
    · rw [if_pos e]; exact ⟨r0, r1⟩
    · rw [if_neg e]; exact h.r i hi
end Go.Proofs.Ytgpjpcemfaignaa.K
