/- Calls of which some are left out, put in, or longer; calls that nothing explains. -/
import Derived.Test.YthdkbbpiaeaojaaLinI
namespace Go.Proofs.Ythdkbbpiaeaojaa.K
open Go Go.RowKit

def Ex (val : SlH → ByteArray) (l : List GCall) : Prop := ∃ p, PathA val l [] p
theorem ex_iff {val : SlH → ByteArray} {l : List GCall} : Ex val l ↔ ∃ os, SeqOk val l os ∧ doneA l os := by
  constructor
  · rintro ⟨p, hp⟩
    exact ⟨p, expl_seq (path_expl hp), (path_expl hp).all⟩
  · rintro ⟨os, h1, h2⟩
    exact expl_path (seq_expl h1 h2)
theorem ex_one {val : SlH → ByteArray} {l : List GCall} (hk : ∀ j, j < l.length → okArg l[j]!) (hc : l.length ≤ 24) {xs : List Nat} {ok : Bool} {e : Int} (ho : oneA val l xs ok e) : e = 0 ∧ (ok = true ↔ Ex val l) ∧ (ok = false → xs = []) := by
  rcases ho with ⟨⟨j, a, b⟩, _⟩ | ⟨_, b, _⟩ | ⟨_, _, e0, ⟨r, q⟩ | ⟨r, q, s⟩⟩
  · exact absurd (hk j a) b
  · have := cntN_le3 l l.length; omega
  · exact ⟨e0, ⟨fun _ => ⟨xs, q.1⟩, fun _ => r⟩, fun h => absurd (r.symm.trans h) (by decide)⟩
  · exact ⟨e0, ⟨fun h => absurd (r.symm.trans h) (by decide), fun ⟨p, hp⟩ => absurd hp (s p)⟩, fun _ => q⟩
theorem seq_pre {val : SlH → ByteArray} {l : List GCall} {os : List Nat} {j : Nat} (h : SeqOk val l (os ++ [j])) : SeqOk val l os ∧ mayA val l os j := by
  constructor
  · intro k hk
    have := h k (by simp; omega)
    rw [app_bang (by omega), if_pos hk, List.take_append_of_le_length (by omega)] at this
    exact this
  · have := h os.length (by simp)
    rw [app_bang (by omega), if_neg (by omega), List.take_left' rfl] at this
    exact this
/-- Calls out of which others are made: those with p, at g. -/
structure Tr (val : SlH → ByteArray) (l : List GCall) (val' : SlH → ByteArray) (l' : List GCall) (p : Nat → Bool) (g : Nat → Nat) : Prop where
  lt : ∀ i, i < l.length → p i = true → g i < l'.length
  inj : ∀ i j, i < l.length → j < l.length → p i = true → p j = true → g i = g j → i = j
  sur : ∀ j, j < l'.length → mustC l'[j]! → ∃ i, i < l.length ∧ p i = true ∧ g i = j ∧ mustC l[i]!
  put : ∀ i, i < l.length → p i = true → l'[g i]!.Put = l[i]!.Put
  part : ∀ i, i < l.length → p i = true → partC l[i]! → partC l'[g i]!
  bef : ∀ i j, i < l.length → j < l.length → p i = true → p j = true → l'[g j]!.To < l'[g i]!.From → 0 ≤ l'[g j]!.To → mustC l[j]! → l[j]!.To < l[i]!.From ∧ 0 ≤ l[j]!.To
  status : ∀ i, i < l.length → p i = true → l'[g i]!.Status = l[i]!.Status
  vals : ∀ i j, i < l.length → j < l.length → p i = true → p j = true → val l[i]!.Value = val l[j]!.Value → val' l'[g i]!.Value = val' l'[g j]!.Value
  gone : ∀ i j, i < l.length → j < l.length → ¬ p i = true → l[i]!.Put = true → p j = true → ¬ l[j]!.Put = true → ¬ explP val l l[j]! (i : Int)
def trL (p : Nat → Bool) (g : Nat → Nat) (os : List Nat) : List Nat := (os.filter p).map g
theorem trL_snoc (p : Nat → Bool) (g : Nat → Nat) (os : List Nat) (x : Nat) : trL p g (os ++ [x]) = if p x = true then trL p g os ++ [g x] else trL p g os := by
  unfold trL
  rw [List.filter_append]
  by_cases h : p x = true
  · rw [if_pos h]; simp [h]
  · rw [if_neg h]; simp [h]
theorem trL_mem {p : Nat → Bool} {g : Nat → Nat} {os : List Nat} {x : Nat} : x ∈ trL p g os ↔ ∃ i, i ∈ os ∧ p i = true ∧ g i = x := by
  unfold trL
  simp only [List.mem_map, List.mem_filter]
  constructor
  · rintro ⟨i, ⟨a, b⟩, c⟩; exact ⟨i, a, b, c⟩
  · rintro ⟨i, a, b, c⟩; exact ⟨i, ⟨a, b⟩, c⟩
theorem snoc_ind {P : List Nat → Prop} (h0 : P []) (h1 : ∀ os x, P os → P (os ++ [x])) (os : List Nat) : P os := by
  have key : ∀ n (os : List Nat), os.length = n → P os := by
    intro n
    induction n with
    | zero => intro os h; rw [List.eq_nil_of_length_eq_zero h]; exact h0
    | succ n ih =>
      intro os h
      have hk : n < os.length := by omega
      have e : os = os.take n ++ [os[n]!] := by rw [← take_snoc_get hk, List.take_of_length_le (by omega)]
      rw [e]
      exact h1 _ _ (ih _ (by rw [List.length_take]; omega))
  exact key _ os rfl
section
variable {val val' : SlH → ByteArray} {l l' : List GCall} {p : Nat → Bool} {g : Nat → Nat}
theorem Tr.last (t : Tr val l val' l' p g) (os : List Nat) : (∀ x ∈ os, x < l.length) → (lastOf l os = -1 ∧ lastOf l' (trL p g os) = -1) ∨ ∃ i, i < l.length ∧ l[i]!.Put = true ∧ lastOf l os = (i : Int) ∧ (p i = true → lastOf l' (trL p g os) = (g i : Int)) := by
  induction os using snoc_ind with
  | h0 => intro _; exact .inl ⟨rfl, rfl⟩
  | h1 os x ih =>
    intro hb
    have hx : x < l.length := hb x (by simp)
    have ih := ih (fun y hy => hb y (by simp [hy]))
    rw [lastOf_snoc, trL_snoc]
    by_cases hp : l[x]!.Put = true
    · rw [if_pos hp]
      refine .inr ⟨x, hx, hp, rfl, fun q => ?_⟩
      rw [if_pos q, lastOf_snoc, if_pos (by rw [t.put x hx q]; exact hp)]
    · rw [if_neg hp]
      by_cases q : p x = true
      · rw [if_pos q, lastOf_snoc, if_neg (by rw [t.put x hx q]; exact hp)]; exact ih
      · rw [if_neg q]; exact ih
theorem Tr.seq (t : Tr val l val' l' p g) (os : List Nat) : SeqOk val l os → SeqOk val' l' (trL p g os) := by
  induction os using snoc_ind with
  | h0 => intro _ k hk; simp [trL] at hk
  | h1 os x ih =>
    intro h
    obtain ⟨h1, hx, h2, h3, h4, h5⟩ := seq_pre h
    have hb : ∀ y ∈ os, y < l.length := by
      intro y hy
      obtain ⟨k, hk, rfl⟩ := mem_bang hy
      exact (h1 k hk).1
    have ih := ih h1
    rw [trL_snoc]
    by_cases q : p x = true
    · rw [if_pos q]
      refine seq_snoc ih ⟨t.lt x hx q, t.part x hx q h2, fun hm => ?_, fun j hj hbf => ?_, ?_⟩
      · obtain ⟨i, a, b, c⟩ := trL_mem.1 hm
        have := t.inj i x (hb i a) hx b q c
        subst this
        exact h3 a
      · obtain ⟨i, a, b, rfl, d⟩ := t.sur j hj hbf.1
        obtain ⟨e1, e2⟩ := t.bef x i hx a q b hbf.2.2.1 hbf.2.1 d
        exact trL_mem.2 ⟨i, h4 i a ⟨d, e2, e1, fun e => hbf.2.2.2 (by rw [e])⟩, b, rfl⟩
      · rw [t.put x hx q]
        rcases h5 with h5 | h5
        · exact .inl h5
        · by_cases hpx : l[x]!.Put = true
          · exact .inl hpx
          · refine .inr ?_
            rcases t.last os hb with ⟨c1, c2⟩ | ⟨i, c1, c2, c3, c4⟩
            · rw [c1] at h5
              rw [c2]
              unfold explP at *
              rw [t.status x hx q]
              split at h5
              · rename_i hs; rw [if_pos hs]; exact h5
              · exfalso; omega
            · rw [c3] at h5
              by_cases pi : p i = true
              · rw [c4 pi]
                unfold explP at *
                rw [t.status x hx q]
                split at h5
                · exfalso; omega
                · rename_i hs
                  rw [if_neg hs]
                  obtain ⟨_, y, hy, hv⟩ := h5
                  rw [show ((i : Int).toNat) = i from by omega, get_bang c1] at hy
                  obtain rfl := Option.some.inj hy
                  refine ⟨by omega, _, get_bang (by rw [show ((g i : Int).toNat) = g i from by omega]; exact t.lt i c1 pi), ?_⟩
                  rw [show ((g i : Int).toNat) = g i from by omega]
                  exact t.vals i x c1 hx pi q hv
              · exact absurd h5 (t.gone i x c1 hx pi c2 q hpx)
    · rw [if_neg q]; exact ih
theorem Tr.ex (t : Tr val l val' l' p g) (h : Ex val l) : Ex val' l' := by
  obtain ⟨os, h1, h2⟩ := ex_iff.1 h
  refine ex_iff.2 ⟨trL p g os, t.seq os h1, fun j hj hm => ?_⟩
  obtain ⟨i, a, b, c, d⟩ := t.sur j hj hm
  exact trL_mem.2 ⟨i, h2 i a d, b, c⟩
/-- What a Get that returned must have seen. -/
theorem ex_get (h : Ex val l) {x : Nat} (hx : x < l.length) (hm : mustC l[x]!) (hp : ¬ l[x]!.Put = true) : ∃ pre, SeqOk val l pre ∧ explP val l l[x]! (lastOf l pre) ∧ ∀ j, j < l.length → befC l x j → j ∈ pre := by
  obtain ⟨os, h1, h2⟩ := ex_iff.1 h
  obtain ⟨k, hk, hkx⟩ := mem_bang (h2 x hx hm)
  have hmay := h1 k hk
  rw [hkx] at hmay
  refine ⟨os.take k, fun m hm2 => ?_, hmay.2.2.2.2.resolve_left hp, hmay.2.2.2.1⟩
  rw [List.length_take] at hm2
  have := h1 m (by omega)
  rw [List.take_take, Nat.min_eq_left (by omega)]
  have e : (os.take k)[m]! = os[m]! := by
    rw [List.getElem!_eq_getElem?_getD, List.getElem!_eq_getElem?_getD, List.getElem?_take, if_pos (by omega)]
  rw [e]; exact this
theorem last_put (l : List GCall) (pre : List Nat) : (lastOf l pre = -1 ∧ ∀ x ∈ pre, ¬ l[x]!.Put = true) ∨ ∃ i, i ∈ pre ∧ l[i]!.Put = true ∧ lastOf l pre = (i : Int) := by
  induction pre using snoc_ind with
  | h0 => exact .inl ⟨rfl, fun x hx => by cases hx⟩
  | h1 os x ih =>
    rw [lastOf_snoc]
    by_cases hp : l[x]!.Put = true
    · rw [if_pos hp]; exact .inr ⟨x, by simp, hp, rfl⟩
    · rw [if_neg hp]
      rcases ih with ⟨a, b⟩ | ⟨i, a, b, c⟩
      · refine .inl ⟨a, fun y hy => ?_⟩
        rcases List.mem_append.1 hy with q | q
        · exact b y q
        · rw [List.mem_singleton.1 q]; exact hp
      · exact .inr ⟨i, by simp [a], b, c⟩
/-- The last Put isn't one that must come ahead of another Put. -/
theorem last_ahead {x y : Nat} (pre : List Nat) (hx : x < l.length) (hb : befC l y x) (hy : l[y]!.Put = true) : SeqOk val l pre → y ∈ pre → lastOf l pre ≠ (x : Int) := by
  induction pre using snoc_ind with
  | h0 => intro _ h; cases h
  | h1 os z ih =>
    intro h hm
    obtain ⟨h1, h2⟩ := seq_pre h
    rw [lastOf_snoc]
    rcases List.mem_append.1 hm with q | q
    · by_cases hp : l[z]!.Put = true
      · rw [if_pos hp]
        intro e
        have e : z = x := by omega
        subst e
        obtain ⟨k, hk, hky⟩ := mem_bang q
        have h3 := (h1 k hk).2.2.2.1 z hx (by rw [hky]; exact hb)
        exact h2.2.2.1 (List.mem_of_mem_take h3)
      · rw [if_neg hp]; exact ih h1 q
    · have e := List.mem_singleton.1 q
      subst e
      rw [if_pos hy]
      intro e2
      exact hb.2.2.2 (by omega)
end
end Go.Proofs.Ythdkbbpiaeaojaa.K
