/- A table of structs of one-cell fields, as a row lists it: what its cells are. -/
import Derived.Test.YtbpedjefoajegaaDoorOpen
import Derived.Lib.LaidTab
namespace Go.Proofs.YtbpedjefoajegaaDoor.K
open Go Go.RowKit
set_option linter.unusedVariables false
def litV {H : Type} : DataW H → Value
  | .lit (.int k n) => .int k n
  | .lit (.bool b) => .bool b
  | .lit (.string s) => .string ⟨s.toArray⟩
  | _ => .nilIface
def partsD {H : Type} : DataW H → List (DataW H)
  | .agg ds => ds
  | _ => []
section
variable {H : Type} {enc : TypeId × Value → H} {P : Program} {w : World} {base : Nat} {sp : Nat → Bool} {held : Bool} {fuel : Nat} {t e : TypeId} {cs : List Value} {p : List MemPlace}
theorem one_lit {x : DataW H × List MemPlace} (ht : (match P.underlying t with | some (.int _) | some .bool | some .string => true | _ => false) = true) (h : DataW.trod enc P w base sp held fuel t cs = some x) : cs = [litV x.1] := by
  cases hu : P.underlying t with
  | none => rw [hu] at ht; cases ht
  | some d =>
    rw [hu] at ht
    cases d <;> simp at ht
    · obtain ⟨b, rfl, rfl⟩ := DataW.trod_bool hu h; rfl
    · obtain ⟨n, rfl, rfl, _⟩ := DataW.trod_int hu h; rfl
    · obtain ⟨s, rfl, rfl, _⟩ := DataW.trod_string hu h
      show [Value.string s] = [Value.string ⟨s.data.toList.toArray⟩]
      simp
theorem chunks {α : Type} {f : α → List Value} {sz : Nat} : ∀ (ds : List α) (cs : List Value), cs.length = ds.length * sz → (∀ (i : Nat) (d : α), ds[i]? = some d → (cs.drop (i * sz)).take sz = f d) → cs = ds.flatMap f
  | [], cs, h, _ => by simpa using h
  | d :: ds, cs, h, hf => by
    have h0 := hf 0 d rfl
    rw [Nat.zero_mul, List.drop_zero] at h0
    have ih := chunks (f := f) (sz := sz) ds (cs.drop sz) (by rw [List.length_drop, h, List.length_cons, Nat.add_mul]; omega) fun i x hx => by
      have := hf (i + 1) x (by simpa using hx)
      rw [List.drop_drop, show sz + i * sz = (i + 1) * sz from by rw [Nat.add_mul]; omega]; exact this
    rw [List.flatMap_cons, ← h0, ← ih, List.take_append_drop]
theorem str_cells {fs : Array Field} {x : DataW H × List MemPlace} (hu : P.underlying e = some (.struct fs)) (h1 : (fs.toList.all fun f => P.cellsOf f.type == 1 && (match P.underlying f.type with | some (.int _) | some .bool | some .string => true | _ => false)) = true) (h2 : fs.toList.map (·.offset) = List.range fs.size) (h3 : P.cellsOf e = fs.size)
    (h : DataW.trod enc P w base sp held fuel e cs = some x) : cs = (partsD x.1).map litV := by
  cases fuel with
  | zero => simp [DataW.trod] at h
  | succ fuel =>
    simp only [DataW.trod, hu] at h
    split at h
    · rename_i hl
      cases hm : fs.toList.mapM (fun f => DataW.trod enc P w base sp held fuel f.type ((cs.drop f.offset).take (P.cellsOf f.type))) with
      | none => simp [hm] at h
      | some xs =>
        simp [hm] at h
        subst h
        obtain ⟨q1, q2⟩ := mapM_get hm
        show cs = (xs.map (·.1)).map litV
        apply List.ext_getElem?
        intro j
        by_cases hj : j < fs.size
        · have hf : fs.toList[j]? = some fs[j] := by simp [hj]
          obtain ⟨z, hz, hz2⟩ := q2 j fs[j] hf
          have ha := List.all_eq_true.1 h1 fs[j] (by simp)
          simp only [Bool.and_eq_true, beq_iff_eq] at ha
          have ho : fs[j].offset = j := by
            have := congrArg (·[j]?) h2
            simp [hj] at this; exact this
          rw [ha.1, ho] at hz2
          have := one_lit ha.2 hz2
          have hc : cs[j]? = some (litV z.1) := by
            have h5 := congrArg (·[0]?) this
            simpa [List.getElem?_take, List.getElem?_drop] using h5
          rw [hc]; simp [hz]
        · have e1 : cs.length ≤ j := by omega
          have e2 : xs.length ≤ j := by rw [q1]; simp; omega
          rw [List.getElem?_eq_none e1, List.getElem?_eq_none (by simpa using e2)]
    · simp at h
theorem arr_cells {n : Nat} {fs : Array Field} {x : DataW H × List MemPlace} (ht : P.underlying t = some (.array n e)) (hu : P.underlying e = some (.struct fs)) (h1 : (fs.toList.all fun f => P.cellsOf f.type == 1 && (match P.underlying f.type with | some (.int _) | some .bool | some .string => true | _ => false)) = true) (h2 : fs.toList.map (·.offset) = List.range fs.size) (h3 : P.cellsOf e = fs.size) (h4 : P.cellsOf t = n * fs.size)
    (h : DataW.trod enc P w base sp held fuel t cs = some x) : cs = (partsD x.1).flatMap fun d => (partsD d).map litV := by
  cases fuel with
  | zero => simp [DataW.trod] at h
  | succ fuel =>
    simp only [DataW.trod, ht] at h
    split at h
    · rename_i hl
      obtain ⟨xs, hm, hx⟩ := Option.map_eq_some_iff.1 h
      subst hx
      obtain ⟨q1, q2⟩ := mapM_get hm
      simp at q1
      show cs = (xs.map (·.1)).flatMap fun d => (partsD d).map litV
      refine chunks (sz := fs.size) _ _ (by rw [List.length_map, q1, hl, h4]) fun i d hd => ?_
      have hi : i < n := by
        have := (List.getElem?_eq_some_iff.1 hd).1
        rw [List.length_map] at this; omega
      obtain ⟨z, hz, hz2⟩ := q2 i i (by simp [hi])
      have e1 : d = z.1 := by
        rw [List.getElem?_map, hz] at hd
        exact (Option.some.inj hd).symm
      rw [e1, ← str_cells hu h1 h2 h3 hz2, h3]
    · cases h
end
end Go.Proofs.YtbpedjefoajegaaDoor.K
