/- A sorted list of tags and a list of the same tags in no order. -/
import Derived.Test.YtoeholipggkcaaaSetF
namespace Go.Proofs.Ytoeholipggkcaaa.K
open Go Go.RowKit
set_option linter.unusedVariables false
def Eqv (ys rs : List GTag) : Prop := Srt ys ∧ rs.Nodup ∧ ∀ u, u ∈ ys ↔ u ∈ rs
theorem srt_nodup {ys : List GTag} (h : Srt ys) : ys.Nodup := by
  rw [List.nodup_iff_pairwise_ne]
  refine (srt_pw.1 h).imp fun {a b} q e => ?_
  rw [e, cmpL] at q; omega
section
variable {ys rs : List GTag} {t : GTag}
theorem Eqv.perm (h : Eqv ys rs) : ys.Perm rs := (List.perm_ext_iff_of_nodup (srt_nodup h.1) h.2.1).2 h.2.2
theorem Eqv.len (h : Eqv ys rs) : ys.length = rs.length := h.perm.length_eq
theorem blw_perm (h : ys.Perm rs) : blw ys t = blw rs t := by unfold blw; exact h.countP_eq _
theorem blw_low {k : Nat} (hk : k ≤ ys.length) (h1 : ∀ i, i < k → tagCmp ys[i]! t < 0) (h2 : ∀ i, k ≤ i → i < ys.length → ¬ tagCmp ys[i]! t < 0) : blw ys t = k := by
  have e : blw ys t = blw (ys.take k) t + blw (ys.drop k) t := by
    unfold blw
    rw [← List.countP_append, List.take_append_drop]
  have a : blw (ys.take k) t = k := by
    unfold blw
    rw [List.countP_eq_length.2, List.length_take, Nat.min_eq_left hk]
    intro x hx
    obtain ⟨i, hi⟩ := List.getElem?_of_mem hx
    have hil := (List.getElem?_eq_some_iff.1 hi).1
    rw [List.length_take] at hil
    rw [List.getElem?_take_of_lt (by omega), List.getElem?_eq_getElem (by omega)] at hi
    have := h1 i (by omega)
    rw [getElem!_pos ys i (by omega), Option.some.inj hi] at this
    simpa using this
  have b : blw (ys.drop k) t = 0 := by
    unfold blw
    rw [List.countP_eq_zero]
    intro x hx
    obtain ⟨i, hi⟩ := List.getElem?_of_mem hx
    rw [List.getElem?_drop] at hi
    have hil := (List.getElem?_eq_some_iff.1 hi).1
    rw [List.getElem?_eq_getElem hil] at hi
    have := h2 (k + i) (by omega) hil
    rw [getElem!_pos ys (k + i) hil, Option.some.inj hi] at this
    simpa using this
  omega
theorem blw_fnd {k : Nat} {b : Bool} (hs : Srt ys) (h : fndR ys t k b) : blw ys t = k := blw_low h.1 (fnd_low hs h).1 (fnd_low hs h).2
theorem blw_at {i : Nat} (hs : Srt ys) (hi : i < ys.length) : blw ys ys[i]! = i := by
  refine blw_low (by omega) (fun j hj => hs j i hj hi) fun j hj hl q => ?_
  by_cases e : j = i
  · subst e; rw [cmpL] at q; omega
  · have := hs i j (by omega) hl
    rw [cmpL] at *; omega
theorem Eqv.at (h : Eqv ys rs) {j n : Nat} (hj : j < rs.length) (hn : n < ys.length) : blw rs rs[j]! = n ↔ rs[j]! = ys[n]! := by
  have hm : rs[j]! ∈ ys := (h.2.2 _).2 (by rw [getElem!_pos rs j hj]; exact List.getElem_mem _)
  obtain ⟨i, hi⟩ := List.getElem?_of_mem hm
  have hil := (List.getElem?_eq_some_iff.1 hi).1
  have e : ys[i]! = rs[j]! := by rw [List.getElem?_eq_getElem hil] at hi; rw [getElem!_pos ys i hil]; exact Option.some.inj hi
  have hb : blw rs rs[j]! = i := by rw [← blw_perm h.perm, ← e]; exact blw_at h.1 hil
  rw [hb]
  constructor
  · rintro rfl; exact e.symm
  · intro q
    have := blw_at h.1 hn
    rw [← q, ← e, blw_at h.1 hil] at this; exact this
theorem Eqv.has (h : Eqv ys rs) {n : Nat} (hn : n < ys.length) : ∃ m, m < rs.length ∧ rs[m]! = ys[n]! := by
  have hm : ys[n]! ∈ rs := (h.2.2 _).1 (by rw [getElem!_pos ys n hn]; exact List.getElem_mem _)
  obtain ⟨i, hi⟩ := List.getElem?_of_mem hm
  have hil := (List.getElem?_eq_some_iff.1 hi).1
  exact ⟨i, hil, by rw [List.getElem?_eq_getElem hil] at hi; rw [getElem!_pos rs i hil]; exact Option.some.inj hi⟩
theorem Eqv.one (h : Eqv ys rs) {i j : Nat} (hi : i < rs.length) (hj : j < rs.length) (e : rs[i]! = rs[j]!) : i = j := by
  rw [getElem!_pos rs i hi, getElem!_pos rs j hj] at e
  have hp := List.pairwise_iff_getElem.1 (List.nodup_iff_pairwise_ne.1 h.2.1)
  rcases Nat.lt_trichotomy i j with g | g | g
  · exact absurd e (hp i j hi hj g)
  · exact g
  · exact absurd e.symm (hp j i hj hi g)
theorem blw_le : blw rs t ≤ rs.length := by unfold blw; exact List.countP_le_length
/-- What is gathered so far, of the tags with so many below. -/
def frI (ys rs out base : List GTag) (n j : Nat) : Prop := (out = base ∧ ∀ m, m < j → ¬ rs[m]! = ys[n]!) ∨ (out = base ++ [ys[n]!] ∧ ∃ m, m < j ∧ rs[m]! = ys[n]!)
theorem frI_no {out base : List GTag} {n j : Nat} (h : frI ys rs out base n j) (hq : ¬ rs[j]! = ys[n]!) : frI ys rs out base n (j + 1) := by
  rcases h with ⟨a, b⟩ | ⟨a, m, b, c⟩
  · refine .inl ⟨a, fun m hm => ?_⟩
    by_cases e : m = j
    · subst e; exact hq
    · exact b m (by omega)
  · exact .inr ⟨a, m, by omega, c⟩
theorem frI_yes {out base : List GTag} {n j : Nat} (E : Eqv ys rs) (hj : j < rs.length) (h : frI ys rs out base n j) (hq : rs[j]! = ys[n]!) : frI ys rs (out ++ [rs[j]!]) base n (j + 1) := by
  rcases h with ⟨a, b⟩ | ⟨a, m, b, c⟩
  · exact .inr ⟨by rw [a, hq], j, by omega, hq⟩
  · have := E.one (by omega) hj (c.trans hq.symm); omega
theorem frI_len {out base : List GTag} {n j : Nat} (h : frI ys rs out base n j) : out.length ≤ base.length + 1 := by
  rcases h with ⟨a, _⟩ | ⟨a, _⟩ <;> rw [a] <;> simp
theorem frI_end {out : List GTag} {n k : Nat} (E : Eqv ys rs) (hn : n < ys.length) (hk : k ≤ n) (h : frI ys rs out ((ys.drop k).take (n - k)) n rs.length) : out = (ys.drop k).take (n + 1 - k) := by
  rcases h with ⟨_, b⟩ | ⟨a, _⟩
  · obtain ⟨m, h1, h2⟩ := E.has hn
    exact absurd h2 (b m h1)
  · rw [a, show n + 1 - k = (n - k) + 1 from by omega, List.take_succ_eq_append_getElem (by rw [List.length_drop]; omega), List.getElem_drop, getElem!_pos ys n hn]
    congr 3; omega
end
theorem slr_given {w : World} {a : Option Addr} {n : Nat} {l : List GTag} {m : GTag} (hn : n = l.length) (h : SlR w a (n + 1) (List.flatMap GTag.cells (l ++ [m]))) : SlR w a n (List.flatMap GTag.cells l) := by
  subst hn
  have := slr_take2 (sz := 2) (k := l.length) (fun _ => rfl) h (by omega)
  rwa [List.take_left'] at this
  rfl
end Go.Proofs.Ytoeholipggkcaaa.K
