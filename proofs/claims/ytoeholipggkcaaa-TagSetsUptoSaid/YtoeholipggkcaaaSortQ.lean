/- A list of one's own, sorted by another: what stands there then. -/
import Derived.Test.YtoeholipggkcaaaCoreP
import Derived.Sort.Row
import Derived.Sort.Grow
namespace Go.Proofs.Ytoeholipggkcaaa.K
open Go Go.RowKit Go.Sort
theorem flat_one {α : Type} (f : α → Value) (l : List α) : List.flatMap (fun y => [f y]) l = l.map f := by
  induction l with
  | nil => rfl
  | cons x l ih => rw [List.flatMap_cons, ih]; rfl
section
variable {α : Type} [Inhabited α] {w : World} {E : TypeId} {n c : Nat} {a : Option Addr} {enc : α → Value} {l : List α}
theorem own_holds (h : (Res.own E 1 (.slice a n c) n (List.flatMap (fun y => [enc y]) l)).holds w) (hn : 0 < n) :
    ∃ g, a = some ⟨g, 0, none⟩ ∧ Holds enc w g 0 l.toArray ∧ g < w.heap.size ∧ l.length = n := by
  have hlen : l.length = n := own_flat (sz := 1) (fun _ => rfl) (by decide) h
  obtain ⟨hl, h | ⟨g, cap, cur, hv, hg, hh, hn2, hcap, hsz, hx⟩⟩ := h
  · omega
  · simp only [Value.slice.injEq] at hv
    obtain ⟨rfl, _, rfl⟩ := hv
    refine ⟨g, rfl, fun j hj => ?_, ?_, hlen⟩
    · have hj' : j < l.length := by simpa using hj
      rw [flat_one] at hx
      have hc : cur[j]? = some (enc l[j]) := by
        have := congrArg (fun q => q[j]?) hx
        simp only [List.getElem?_map, List.getElem?_eq_getElem hj', Option.map_some] at this
        rw [List.getElem?_take_of_lt (by omega), Array.getElem?_toList] at this
        exact this
      constructor
      · unfold World.cell?
        simp only [hh, Nat.zero_add, Option.isSome_none, Bool.false_eq_true, if_false, hc]
        rw [getElem!_pos l.toArray j (by simpa using hj')]; simp
      · unfold World.frozen?
        simp only [hh]; simp
    · exact (Array.getElem?_eq_some_iff.1 hh).1
theorem own_sorted {l' : List α} {g : Nat} {k : Nat} {os : Array Obj} (h : (Res.own E 1 (.slice (some ⟨g, 0, none⟩) n c) n (List.flatMap (fun y => [enc y]) l)).holds w) (hl : l'.length = l.length) :
    (Res.own E 1 (.slice (some ⟨g, 0, none⟩) n c) n (List.flatMap (fun y => [enc y]) l')).holds (grow (putRow enc (Sort.ahead w k) g 0 l'.toArray) os) ∧ Fram (fun x => x = g) w (grow (putRow enc (Sort.ahead w k) g 0 l'.toArray) os) := by
  have hlen : l.length = n := own_flat (sz := 1) (fun _ => rfl) (by decide) h
  obtain ⟨hl0, h | ⟨g', cap, cur, hv, hg, hh, hn2, hcap, hsz, hx⟩⟩ := h
  · obtain ⟨h, _⟩ := h; simp at h
  · simp only [Value.slice.injEq, Option.some.injEq, Addr.mk.injEq] at hv
    obtain ⟨⟨rfl, _, _⟩, _, rfl⟩ := hv
    have hgs := (Array.getElem?_eq_some_iff.1 hh).1
    have hb : (grow (putRow enc (Sort.ahead w k) g 0 l'.toArray) os).heap[g]? = some (.cells (putCells enc 0 l'.toArray cur) E (0, 0)) := by
      show ((w.heap.modify g (onCells (putCells enc 0 l'.toArray))) ++ os)[g]? = _
      rw [Array.getElem?_append_left (by simpa using hgs), Array.getElem?_modify, if_pos rfl, hh]; rfl
    refine ⟨⟨by rw [flat_one, List.length_map]; omega, .inr ⟨g, c, putCells enc 0 l'.toArray cur, rfl, hg, hb, hn2, hcap, ?_, ?_⟩⟩, rfl, rfl, rfl, ?_, fun j hj hne => ?_⟩
    · unfold putCells; rw [Array.size_mapIdx]; exact hsz
    · rw [flat_one]
      apply List.ext_getElem?
      intro i
      by_cases hi : i < n
      · have hi2 : i < l'.length := by omega
        have hc : i < cur.size := by omega
        rw [List.getElem?_take_of_lt (by omega), Array.getElem?_toList, List.getElem?_map, List.getElem?_eq_getElem hi2]
        unfold putCells
        rw [Array.getElem?_mapIdx, Array.getElem?_eq_getElem hc]
        simp only [Option.map_some, Nat.zero_le, Nat.zero_add, true_and, Nat.sub_zero]
        rw [if_pos (by simpa using hi2), getElem!_pos l'.toArray i (by simpa using hi2)]; simp
      · rw [List.getElem?_eq_none (by rw [List.length_take]; omega), List.getElem?_eq_none (by rw [List.length_map]; omega)]
    · show w.heap.size ≤ ((w.heap.modify g _) ++ os).size
      simp
    · show ((w.heap.modify g (onCells (putCells enc 0 l'.toArray))) ++ os)[j]? = _
      rw [Array.getElem?_append_left (by simpa using hj), Array.getElem?_modify, if_neg (fun e => hne e.symm)]
end
end Go.Proofs.Ytoeholipggkcaaa.K
