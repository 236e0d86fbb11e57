/- What linear.One answers, as a function; it asks of the values only which are alike. -/
import Derived.Test.YthdkbbpiaeaojaaLinR
namespace Go.Proofs.Ythdkbbpiaeaojaa.K
open Go Go.RowKit

def explB (val : SlH → ByteArray) (l : List GCall) (c : GCall) (last : Int) : Bool := if c.Status = 76 then decide (last < 0) else decide (0 ≤ last) && (match l[last.toNat]? with | some y => decide (val y.Value = val c.Value) | none => false)
def mayB (val : SlH → ByteArray) (l : List GCall) (pre : List Nat) (i : Nat) : Bool :=
  decide (i < l.length) && (decide (partC l[i]!) && (!pre.contains i && ((List.range l.length).all (fun j => !decide (befC l i j) || pre.contains j) && (l[i]!.Put || explB val l l[i]! (lastOf l pre)))))
def doneB (l : List GCall) (pre : List Nat) : Bool := (List.range l.length).all fun i => !decide (mustC l[i]!) || pre.contains i
theorem explB_iff {val : SlH → ByteArray} {l : List GCall} {c : GCall} {last : Int} : explB val l c last = true ↔ explP val l c last := by
  unfold explB explP
  split
  · simp
  · rw [Bool.and_eq_true, decide_eq_true_iff]
    cases l[last.toNat]? <;> simp
theorem mayB_iff {val : SlH → ByteArray} {l : List GCall} {pre : List Nat} {i : Nat} : mayB val l pre i = true ↔ mayA val l pre i := by
  unfold mayB mayA
  simp only [Bool.and_eq_true, decide_eq_true_iff, Bool.not_eq_true', List.all_eq_true, List.mem_range, Bool.or_eq_true, explB_iff, List.contains_iff_mem]
  have h1 : (pre.contains i = false) ↔ ¬ i ∈ pre := by rw [← List.contains_iff_mem]; simp
  have h2 : (∀ x, x < l.length → decide (befC l i x) = false ∨ x ∈ pre) ↔ ∀ j, j < l.length → befC l i j → j ∈ pre := by
    constructor
    · intro h j hj hb
      rcases h j hj with h | h
      · simp [hb] at h
      · exact h
    · intro h j hj
      by_cases hb : befC l i j
      · exact .inr (h j hj hb)
      · exact .inl (by simp [hb])
  rw [h1, h2]
theorem doneB_iff {l : List GCall} {pre : List Nat} : doneB l pre = true ↔ doneA l pre := by
  unfold doneB doneA
  simp only [List.all_eq_true, List.mem_range, Bool.or_eq_true, Bool.not_eq_true', List.contains_iff_mem]
  constructor
  · intro h j hj hb
    rcases h j hj with h | h
    · rw [decide_eq_true hb] at h; cases h
    · exact h
  · intro h j hj
    by_cases hb : mustC l[j]!
    · exact .inr (h j hj hb)
    · exact .inl (decide_eq_false hb)
def findA (val : SlH → ByteArray) (l : List GCall) : Nat → List Nat → Option (List Nat)
  | 0, pre => if doneB l pre then some [] else none
  | f + 1, pre => if doneB l pre then some [] else (List.range l.length).findSome? fun j => if mayB val l pre j then (findA val l f (pre ++ [j])).map (j :: ·) else none
theorem range_split {n a : Nat} {l1 l2 : List Nat} (h : List.range n = l1 ++ a :: l2) : a < n ∧ ∀ j, j < a → j ∈ l1 := by
  have hp : (List.range n).Pairwise (· < ·) := List.pairwise_lt_range
  have ha : a ∈ List.range n := by rw [h]; simp
  rw [h, List.pairwise_append, List.pairwise_cons] at hp
  have han : a < n := by simpa using ha
  refine ⟨han, fun j hj => ?_⟩
  have hm : j ∈ List.range n := by simp; omega
  rw [h] at hm
  rcases List.mem_append.1 hm with q | q
  · exact q
  · rcases List.mem_cons.1 q with q | q
    · omega
    · have := hp.2.1.1 j q; omega
theorem findA_spec (val : SlH → ByteArray) (l : List GCall) : ∀ (f : Nat) (pre : List Nat),
    (∀ p, findA val l f pre = some p → PathA val l pre p ∧ ∀ q, PathA val l pre q → q.length ≤ f → lexle p q) ∧ (findA val l f pre = none → ∀ q, PathA val l pre q → ¬ q.length ≤ f)
  | 0, pre => by
    unfold findA
    by_cases hd : doneB l pre = true
    · rw [if_pos hd]
      have hd' := doneB_iff.1 hd
      exact ⟨fun p hp => by cases hp; exact ⟨hd', fun _ _ _ => trivial⟩, fun h => by cases h⟩
    · rw [if_neg hd]
      refine ⟨fun p hp => (by cases hp), fun _ q hq hl => ?_⟩
      cases q with
      | nil => exact hd (doneB_iff.2 hq)
      | cons i q => simp at hl
  | f + 1, pre => by
    unfold findA
    by_cases hd : doneB l pre = true
    · rw [if_pos hd]
      have hd' := doneB_iff.1 hd
      exact ⟨fun p hp => by cases hp; exact ⟨hd', fun _ _ _ => trivial⟩, fun h => by cases h⟩
    · rw [if_neg hd]
      have hd' : ¬ doneA l pre := fun h => hd (doneB_iff.2 h)
      constructor
      · intro p hp
        obtain ⟨l1, a, l2, hr, hfa, hn⟩ := List.findSome?_eq_some_iff.1 hp
        obtain ⟨ha, hlt⟩ := range_split hr
        split at hfa
        · rename_i hm
          cases hx : findA val l f (pre ++ [a]) with
          | none => rw [hx] at hfa; simp at hfa
          | some p' =>
            rw [hx] at hfa
            simp at hfa
            subst hfa
            obtain ⟨h1, h2⟩ := (findA_spec val l f (pre ++ [a])).1 p' hx
            refine ⟨⟨hd', mayB_iff.1 hm, h1⟩, fun q hq hl => ?_⟩
            cases q with
            | nil => exact absurd hq hd'
            | cons j q =>
              simp at hl
              rcases Nat.lt_trichotomy j a with k | k | k
              · have := hn j (hlt j k)
                rw [if_pos (mayB_iff.2 hq.2.1)] at this
                cases hy : findA val l f (pre ++ [j]) with
                | none => exact absurd hl ((findA_spec val l f (pre ++ [j])).2 hy q hq.2.2)
                | some p2 => rw [hy] at this; simp at this
              · subst k
                exact .inr ⟨rfl, h2 q hq.2.2 hl⟩
              · exact .inl k
        · simp at hfa
      · intro hp q hq hl
        rw [List.findSome?_eq_none_iff] at hp
        cases q with
        | nil => exact hd' hq
        | cons j q =>
          simp at hl
          have := hp j (by simp; exact hq.2.1.1)
          rw [if_pos (mayB_iff.2 hq.2.1)] at this
          cases hy : findA val l f (pre ++ [j]) with
          | none => exact absurd hl ((findA_spec val l f (pre ++ [j])).2 hy q hq.2.2)
          | some p2 => rw [hy] at this; simp at this
theorem nodup_le : ∀ (n : Nat) (p : List Nat), p.Nodup → (∀ x ∈ p, x < n) → p.length ≤ n
  | 0, p, _, h => by
    cases p with
    | nil => simp
    | cons x p => have := h x (by simp); omega
  | n + 1, p, hn, h => by
    by_cases hm : n ∈ p
    · have h1 := List.length_erase_of_mem hm
      have h2 := nodup_le n (p.erase n) (hn.erase n) (fun x hx => by
        have h3 := (hn.mem_erase_iff).1 hx
        have := h x h3.2
        have := h3.1
        omega)
      omega
    · have := nodup_le n p hn (fun x hx => by
        have h3 := h x hx
        have : x ≠ n := fun e => hm (e ▸ hx)
        omega)
      omega
theorem pathA_len {val : SlH → ByteArray} {l : List GCall} : ∀ {q pre : List Nat}, PathA val l pre q → pre.Nodup → (∀ x ∈ pre, x < l.length) → pre.length + q.length ≤ l.length
  | [], pre, _, hn, hb => by
    have := nodup_le l.length pre hn hb
    simpa using this
  | j :: q, pre, h, hn, hb => by
    have hm := h.2.1
    have := pathA_len h.2.2 (by rw [List.nodup_append]; refine ⟨hn, by simp, ?_⟩; intro a ha b hb2 e; simp at hb2; subst e hb2; exact hm.2.2.1 ha) (by
      intro x hx
      rcases List.mem_append.1 hx with q | q
      · exact hb x q
      · simp at q; subst q; exact hm.1)
    simp at this ⊢
    omega
/-- What One answers. -/
def oneF (val : SlH → ByteArray) (l : List GCall) : List Nat × Bool × Int :=
  if (List.range l.length).any (fun j => decide (l[j]!.From < 0 ∨ (¬ l[j]!.To = -1 ∧ l[j]!.To ≤ l[j]!.From))) then ([], false, 1) else
  if 24 < cntN l l.length then ([], false, 4) else
  match findA val l l.length [] with
  | some p => (p, true, 0)
  | none => ([], false, 0)
theorem lexle_anti : ∀ {p q : List Nat}, lexle p q → lexle q p → p = q
  | [], [], _, _ => rfl
  | [], _ :: _, _, h => by simp [lexle] at h
  | _ :: _, [], h, _ => by simp [lexle] at h
  | a :: p, b :: q, h, k => by
    simp only [lexle] at h k
    have h1 : a = b := by omega
    subst h1
    rcases h with h | h
    · omega
    · rcases k with k | k
      · omega
      · rw [lexle_anti h.2 k.2]
theorem oneA_F {val : SlH → ByteArray} {l : List GCall} {xs : List Nat} {ok : Bool} {e : Int} (h : oneA val l xs ok e) : (xs, ok, e) = oneF val l := by
  have hany : ((List.range l.length).any (fun j => decide (l[j]!.From < 0 ∨ (¬ l[j]!.To = -1 ∧ l[j]!.To ≤ l[j]!.From)))) = true ↔ ∃ j, j < l.length ∧ ¬ okArg l[j]! := by
    simp only [List.any_eq_true, List.mem_range, decide_eq_true_iff, okArg, Classical.not_not]
  have hpl : ∀ q, PathA val l [] q → q.length ≤ l.length := fun q hq => by have := pathA_len hq List.nodup_nil (by simp); simpa using this
  unfold oneF
  rcases h with ⟨h1, rfl, rfl, rfl⟩ | ⟨h1, h2, rfl, rfl, rfl⟩ | ⟨h1, h2, rfl, h3⟩
  · rw [if_pos (hany.2 h1)]
  · rw [if_neg (fun hh => by obtain ⟨j, a, b⟩ := hany.1 hh; exact b (h1 j a)), if_pos h2]
  · rw [if_neg (fun hh => by obtain ⟨j, a, b⟩ := hany.1 hh; exact b (h1 j a)), if_neg (by omega)]
    cases hf : findA val l l.length [] with
    | none =>
      have hn := (findA_spec val l l.length []).2 hf
      rcases h3 with ⟨rfl, hb⟩ | ⟨rfl, rfl, _⟩
      · exact absurd (hpl _ hb.1) (hn _ hb.1)
      · rfl
    | some p =>
      obtain ⟨hp1, hp2⟩ := (findA_spec val l l.length []).1 p hf
      rcases h3 with ⟨rfl, hb⟩ | ⟨rfl, rfl, hb⟩
      · have : xs = p := lexle_anti (hb.2 p hp1) (hp2 xs hb.1 (hpl _ hb.1))
        rw [this]
      · exact absurd hp1 (hb p)
/-- Calls that are alike but for where their values stand. -/
structure SimC (val : SlH → ByteArray) (l : List GCall) (val' : SlH → ByteArray) (l' : List GCall) : Prop where
  len : l.length = l'.length
  put : ∀ i, i < l.length → l[i]!.Put = l'[i]!.Put
  opn : ∀ i, i < l.length → l[i]!.Open = l'[i]!.Open
  frm : ∀ i, i < l.length → l[i]!.From = l'[i]!.From
  to : ∀ i, i < l.length → l[i]!.To = l'[i]!.To
  status : ∀ i, i < l.length → l[i]!.Status = l'[i]!.Status
  vals : ∀ i j, i < l.length → j < l.length → (val l[i]!.Value = val l[j]!.Value ↔ val' l'[i]!.Value = val' l'[j]!.Value)
section
variable {val val' : SlH → ByteArray} {l l' : List GCall} (s : SimC val l val' l')
include s
theorem SimC.must {i : Nat} (h : i < l.length) : mustC l[i]! ↔ mustC l'[i]! := by unfold mustC; rw [s.put i h, s.opn i h, s.to i h, s.status i h]
theorem SimC.part {i : Nat} (h : i < l.length) : partC l[i]! ↔ partC l'[i]! := by unfold partC; rw [s.must h, s.put i h]
theorem SimC.bef {i j : Nat} (hi : i < l.length) (hj : j < l.length) : befC l i j ↔ befC l' i j := by unfold befC; rw [s.must hj, s.to j hj, s.frm i hi]
theorem SimC.done {pre : List Nat} : doneA l pre ↔ doneA l' pre := by
  unfold doneA
  rw [← s.len]
  exact forall_congr' fun i => forall_congr' fun hi => by rw [s.must hi]
theorem SimC.last {pre : List Nat} (h : ∀ x ∈ pre, x < l.length) : lastOf l pre = lastOf l' pre := by
  unfold lastOf
  generalize (-1 : Int) = a
  induction pre generalizing a with
  | nil => rfl
  | cons x pre ih =>
    rw [List.foldl_cons, List.foldl_cons, s.put x (h x (by simp))]
    exact ih (fun y hy => h y (by simp [hy])) _
theorem SimC.expl {i : Nat} {k : Int} (hi : i < l.length) (hk : k < (l.length : Int)) : explP val l l[i]! k ↔ explP val' l' l'[i]! k := by
  unfold explP
  rw [s.status i hi]
  split
  · exact Iff.rfl
  · by_cases h0 : 0 ≤ k
    · have hlt : k.toNat < l.length := by omega
      rw [get_bang hlt, get_bang (by rw [← s.len]; exact hlt)]
      have := s.vals k.toNat i hlt hi
      simp only [h0, true_and, Option.some.injEq, exists_eq_left']
      exact this
    · simp [h0]
theorem SimC.may {pre : List Nat} {i : Nat} (h : ∀ x ∈ pre, x < l.length) : mayA val l pre i ↔ mayA val' l' pre i := by
  unfold mayA
  rw [← s.len]
  by_cases hi : i < l.length
  · rw [s.part hi, s.put i hi, ← s.last h, s.expl hi (lastOf_lt h)]
    have : (∀ j, j < l.length → befC l i j → j ∈ pre) ↔ ∀ j, j < l.length → befC l' i j → j ∈ pre := forall_congr' fun j => forall_congr' fun hj => by rw [s.bef hi hj]
    rw [this]
  · simp [hi]
theorem SimC.path : ∀ {q pre : List Nat}, (∀ x ∈ pre, x < l.length) → (PathA val l pre q ↔ PathA val' l' pre q)
  | [], pre, _ => s.done
  | j :: q, pre, h => by
    simp only [PathA]
    rw [s.done, s.may h]
    by_cases hm : mayA val' l' pre j
    · rw [SimC.path (q := q) (pre := pre ++ [j]) (by
        intro x hx
        rcases List.mem_append.1 hx with k | k
        · exact h x k
        · simp at k; subst k; rw [s.len]; exact hm.1)]
    · simp [hm]
theorem SimC.cnt : ∀ {k : Nat}, k ≤ l.length → cntN l k = cntN l' k
  | 0, _ => rfl
  | k + 1, h => by
    simp only [cntN]
    rw [SimC.cnt (k := k) (by omega)]
    by_cases hp : partC l[k]!
    · rw [if_pos hp, if_pos ((s.part (by omega)).1 hp)]
    · rw [if_neg hp, if_neg (fun q => hp ((s.part (by omega)).2 q))]
theorem SimC.one {xs : List Nat} {ok : Bool} {e : Int} (h : oneA val l xs ok e) : oneA val' l' xs ok e := by
  have hk : ∀ j, j < l.length → (okArg l[j]! ↔ okArg l'[j]!) := fun j hj => by unfold okArg; rw [s.frm j hj, s.to j hj]
  have hp : ∀ q, PathA val l [] q ↔ PathA val' l' [] q := fun q => s.path (by simp)
  have hc := s.cnt (Nat.le_refl _)
  have hl := s.len
  unfold oneA at *
  rw [← hl, ← hc]
  rcases h with ⟨⟨j, a, b⟩, h⟩ | ⟨h1, h⟩ | ⟨h1, h2, h3, h⟩
  · exact .inl ⟨⟨j, a, fun q => b ((hk j a).2 q)⟩, h⟩
  · exact .inr (.inl ⟨fun j hj => (hk j hj).1 (h1 j hj), h⟩)
  · refine .inr (.inr ⟨fun j hj => (hk j hj).1 (h1 j hj), h2, h3, ?_⟩)
    rcases h with ⟨a, b1, b2⟩ | ⟨a, b, c⟩
    · exact .inl ⟨a, (hp _).1 b1, fun q hq => b2 q ((hp q).2 hq)⟩
    · exact .inr ⟨a, b, fun q hq => c q ((hp q).2 hq)⟩
end
end Go.Proofs.Ythdkbbpiaeaojaa.K
