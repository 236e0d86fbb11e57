/- What order.ByTags does, as functions: which tags the Puts have, which of them are taken, which Gets stand behind each. -/
import Derived.Test.YtdahgdkadfdkeaaOrdM
import Derived.Test.YtdahgdkadfdkeaaStbL
import Derived.Test.YtdahgdkadfdkeaaCoreK
import Derived.Test.YtdahgdkadfdkeaaTag
namespace Go.Proofs.Ytdahgdkadfdkeaa.K
open Go Go.RowKit
set_option linter.unusedVariables false
instance : DecidableEq GTag := fun a b => decidable_of_iff (a.Count = b.Count ∧ a.Client = b.Client) (by cases a; cases b; simp)
instance (c : GCall) : Decidable (dueP c) := by unfold dueP; exact inferInstance
abbrev tag0 : GTag := ⟨0, 0⟩
def ownA (c : GCall) : Prop := c.Put = true ∧ (¬ c.Open = true ∨ ¬ (c.Tag.Count = 0 ∧ c.Tag.Client = 0))
instance (c : GCall) : Decidable (ownA c) := by unfold ownA; exact inferInstance
def rdC (c : GCall) : Prop := ¬ c.Put = true ∧ dueP c ∧ c.Status = 0
instance (c : GCall) : Decidable (rdC c) := by unfold rdC; exact inferInstance
abbrev TgM := List (Int × GTag)
abbrev KnM := List (GTag × Int)
/-- The Puts with tags of their own, of the first k calls. -/
def tgA (l : List GCall) : Nat → TgM × KnM
  | 0 => ([], [])
  | k + 1 => if ownA l[k]! then (mapPut (tgA l k).1 (k : Int) l[k]!.Tag, mapPut (tgA l k).2 l[k]!.Tag (k : Int)) else tgA l k
/-- The last open Put of a client without a tag, of the first k calls. -/
def lastP (l : List GCall) (cl : Int) : Nat → Int
  | 0 => -1
  | k + 1 => if l[k]!.Open = true ∧ (l[k]!.Tag.Count = 0 ∧ l[k]!.Tag.Client = 0) ∧ l[k]!.Client = cl then (k : Int) else lastP l cl k
def tgStep (l : List GCall) (g : GCall) (s : TgM × KnM) : Option (TgM × KnM) :=
  if ¬ rdC g then some s else if (mapV s.2 g.Tag).isSome then some s else
    if lastP l g.Tag.Client l.length < 0 then some s else if (mapV s.1 (lastP l g.Tag.Client l.length)).isSome then none else
      some (mapPut s.1 (lastP l g.Tag.Client l.length) g.Tag, mapPut s.2 g.Tag (lastP l g.Tag.Client l.length))
def tgB (l : List GCall) : Nat → Option (TgM × KnM)
  | 0 => some (tgA l l.length)
  | k + 1 => (tgB l k).bind (tgStep l l[k]!)
/-- The tags that Gets have, of the first k calls. -/
def rdM (l : List GCall) : Nat → KnM
  | 0 => []
  | k + 1 => if rdC l[k]! then mapPut (rdM l k) l[k]!.Tag (k : Int) else rdM l k
def tkP (l : List GCall) (m : TgM) (i : Nat) : Prop := l[i]!.Put = true ∧ (mapV m (i : Int)).isSome = true ∧ (¬ l[i]!.Open = true ∨ (mapV (rdM l l.length) ((mapV m (i : Int)).getD tag0)).isSome = true)
instance (l : List GCall) (m : TgM) (i : Nat) : Decidable (tkP l m i) := by unfold tkP; exact inferInstance
/-- The numbers below k that hold, rising. -/
def idxs (P : Nat → Prop) [DecidablePred P] (k : Nat) : List Int := ((List.range k).filter (fun i => decide (P i))).map (fun (i : Nat) => (i : Int))
theorem idxs_succ {P : Nat → Prop} [DecidablePred P] {k : Nat} : idxs P (k + 1) = if P k then idxs P k ++ [(k : Int)] else idxs P k := by
  unfold idxs
  rw [List.range_succ, List.filter_append, List.map_append]
  by_cases h : P k
  · rw [if_pos h, List.filter_cons_of_pos (by simpa using h)]; rfl
  · rw [if_neg h, List.filter_cons_of_neg (by simpa using h)]; simp
theorem idxs_len (P : Nat → Prop) [DecidablePred P] (k : Nat) : (idxs P k).length ≤ k := by
  unfold idxs
  rw [List.length_map]
  exact Nat.le_trans (List.length_filter_le _ _) (by simp)
theorem idxs_mem {P : Nat → Prop} [DecidablePred P] {k : Nat} {x : Int} : x ∈ idxs P k ↔ ∃ i, i < k ∧ P i ∧ x = (i : Int) := by
  unfold idxs
  simp only [List.mem_map, List.mem_filter, List.mem_range, decide_eq_true_eq]
  constructor
  · rintro ⟨i, ⟨h1, h2⟩, h3⟩; exact ⟨i, h1, h2, h3.symm⟩
  · rintro ⟨i, h1, h2, h3⟩; exact ⟨i, ⟨h1, h2⟩, h3.symm⟩
theorem pairwise_inc {l : List Int} (h : l.Pairwise (· < ·)) : Inc l := fun i j h1 h2 => by
  rw [bang_get (by omega), bang_get h2]; exact List.pairwise_iff_getElem.1 h i j (by omega) h2 h1
theorem idxs_inc (P : Nat → Prop) [DecidablePred P] (k : Nat) : Inc (idxs P k) := by
  apply pairwise_inc
  unfold idxs
  rw [List.pairwise_map]
  refine List.Pairwise.imp ?_ (List.Pairwise.sublist List.filter_sublist List.pairwise_lt_range)
  intro a b h; omega
/-- The order that a stable sort of rising numbers makes. -/
def stR (lt : Int → Int → Prop) (x y : Int) : Prop := lt x y ∨ (¬ lt y x ∧ x < y)
structure Wk (lt : Int → Int → Prop) : Prop where
  asym : ∀ {x y}, lt x y → ¬ lt y x
  tr : ∀ {x y z}, lt x y → lt y z → lt x z
  ntr : ∀ {x y z}, ¬ lt y x → ¬ lt z y → ¬ lt z x
theorem Wk.cm {lt : Int → Int → Prop} (h : Wk lt) (l0 : List Int) : Cm l0 lt (stR lt) := by
  refine ⟨fun {x y z} h1 h2 => ?_, fun _ _ _ hl => .inl hl, fun _ _ hxy hn => .inr ⟨hn, hxy⟩⟩
  unfold stR at *
  rcases h1 with h1 | ⟨h1, e1⟩
  · rcases h2 with h2 | ⟨h2, e2⟩
    · exact .inl (h.tr h1 h2)
    · exact .inl (Classical.byContradiction fun q => h.ntr h2 q h1)
  · rcases h2 with h2 | ⟨h2, e2⟩
    · exact .inl (Classical.byContradiction fun q => h.ntr q h1 h2)
    · exact .inr ⟨h.ntr h1 h2, by omega⟩
theorem stR_asym {lt : Int → Int → Prop} (h : Wk lt) {x y : Int} (h1 : stR lt x y) : ¬ stR lt y x := by
  rintro (h2 | ⟨h2, e2⟩)
  · rcases h1 with h1 | ⟨h1, e1⟩
    · exact h.asym h1 h2
    · exact h1 h2
  · rcases h1 with h1 | ⟨h1, e1⟩
    · exact h2 h1
    · omega
theorem up_pairwise {R : Int → Int → Prop} {q : List Int} (h : Up R q 0 q.length) : q.Pairwise R := by
  rw [List.pairwise_iff_getElem]
  intro i j hi hj hij
  have := h i j (Nat.zero_le _) hij hj
  rwa [bang_get hi, bang_get hj] at this
/-- Such an order is one alone. -/
theorem up_unique {lt : Int → Int → Prop} (h : Wk lt) {p q : List Int} (hp : p.Perm q) (u1 : Up (stR lt) p 0 p.length) (u2 : Up (stR lt) q 0 q.length) : p = q := by
  have h1 := up_pairwise u1
  have h2 := up_pairwise u2
  clear u1 u2
  induction p generalizing q with
  | nil => exact (List.nil_perm.1 hp).symm
  | cons a p ih =>
    cases q with
    | nil => exact absurd hp.length_eq (by simp)
    | cons b q =>
      rw [List.pairwise_cons] at h1 h2
      have hab : a = b := by
        have ha : a ∈ b :: q := hp.subset (by simp)
        have hb : b ∈ a :: p := hp.symm.subset (by simp)
        rcases List.mem_cons.1 ha with e | ha
        · exact e
        · rcases List.mem_cons.1 hb with e | hb
          · exact e.symm
          · exact absurd (h2.1 a ha) (stR_asym h (h1.1 b hb))
      subst hab
      rw [ih (List.Perm.cons_inv hp) h1.2 h2.2]
/-- A map without a key. -/
def mapDel {κ ν : Type} [DecidableEq κ] (l : List (κ × ν)) (k : κ) : List (κ × ν) := match l.findIdx? (fun p => decide (k = p.1)) with
  | some j => l.eraseIdx j
  | none => l
/-- What the sorted Puts must be, and what is left of the Gets' tags. -/
def tkBad (m : TgM) (q : List Int) (n : Nat) : Prop := ¬ tagValid ((mapV m q[n]!).getD tag0) ∨ tagZero ((mapV m q[n]!).getD tag0) ∨ (0 < n ∧ (mapV m q[n - 1]!).getD tag0 = (mapV m q[n]!).getD tag0)
def tkLeft (m : TgM) (r : KnM) (q : List Int) : Nat → KnM
  | 0 => r
  | n + 1 => mapDel (tkLeft m r q n) ((mapV m q[n]!).getD tag0)
def tgLt (m : TgM) (x y : Int) : Prop := tagCmp ((mapV m x).getD tag0) ((mapV m y).getD tag0) < 0
def frLt (l : List GCall) (x y : Int) : Prop := l[x.toNat]!.From < l[y.toNat]!.From
theorem frLt_wk (l : List GCall) : Wk (frLt l) := by unfold frLt; exact ⟨fun h => by omega, fun h1 h2 => by omega, fun h1 h2 => by omega⟩
theorem tgLt_wk (m : TgM) : Wk (tgLt m) := by
  have key : ∀ a b : GTag, (tagCmp a b < 0 ↔ a.Count < b.Count ∨ (a.Count = b.Count ∧ a.Client < b.Client)) := fun a b => by
    have := tagCmp_cases a b; omega
  unfold tgLt
  simp only [key]
  exact ⟨fun h => by omega, fun h1 h2 => by omega, fun h1 h2 => by omega⟩
/-- What taken answers. -/
def tkR (l : List GCall) (m : TgM) (out : List Int) (ok : Prop) : Prop := ∃ q, (q.Perm (idxs (tkP l m) l.length) ∧ Up (stR (tgLt m)) q 0 q.length) ∧
  (((∃ n, n < q.length ∧ tkBad m q n) ∧ out = [] ∧ ¬ ok) ∨ ((∀ n, n < q.length → ¬ tkBad m q n) ∧ out = q ∧ (ok ↔ tkLeft m (rdM l l.length) q q.length = [])))
/-- What gets answers. -/
def gtP (l : List GCall) (Pw : GCall → Prop) (i : Nat) : Prop := ¬ l[i]!.Put = true ∧ dueP l[i]! ∧ Pw l[i]!
noncomputable instance (l : List GCall) (Pw : GCall → Prop) (i : Nat) : Decidable (gtP l Pw i) := Classical.propDecidable _
def gtR (l : List GCall) (Pw : GCall → Prop) (out : List Int) : Prop := out.Perm (idxs (gtP l Pw) l.length) ∧ Up (stR (frLt l)) out 0 out.length
def absW (c : GCall) : Prop := c.Status = 76
def tagW (t : GTag) (c : GCall) : Prop := c.Status = 0 ∧ (c.Tag.Count = t.Count ∧ c.Tag.Client = t.Client)
/-- The order by tags: the Gets of nothing, then each Put and the Gets of its tag. -/
inductive byL (l : List GCall) (m : TgM) (q : List Int) : Nat → List Int → Prop
  | zero {o} : gtR l absW o → byL l m q 0 o
  | succ {n o g} : byL l m q n o → gtR l (tagW ((mapV m q[n]!).getD tag0)) g → byL l m q (n + 1) (o ++ [q[n]!] ++ g)
theorem gtR_len {l : List GCall} {Pw : GCall → Prop} {q : List Int} (h : gtR l Pw q) : q.length ≤ l.length := by rw [h.1.length_eq]; exact idxs_len _ _
theorem tkR_len {l : List GCall} {m : TgM} {q : List Int} {ok : Prop} (h : tkR l m q ok) : q.length ≤ l.length := by
  obtain ⟨q', ⟨h1, _⟩, ⟨_, rfl, _⟩ | ⟨_, rfl, _⟩⟩ := h
  · exact Nat.zero_le _
  · rw [h1.length_eq]; exact idxs_len _ _
theorem byL_len {l : List GCall} {m : TgM} {q out : List Int} {n : Nat} (h : byL l m q n out) (hb : l.length ≤ 1048576) : out.length ≤ (n + 1) * 1048577 := by
  induction h with
  | zero h => have := gtR_len h; omega
  | succ _ h ih => have := gtR_len h; simp only [List.length_append, List.length_cons, List.length_nil]; omega
def byR (l : List GCall) (out : List Int) (e : Int) : Prop :=
  (¬ fitP l ∧ e = 1 ∧ out = []) ∨ (fitP l ∧ tgB l l.length = none ∧ e = 81 ∧ out = []) ∨
  (fitP l ∧ ∃ s, tgB l l.length = some s ∧ ∃ q ok, tkR l s.1 q ok ∧ ((¬ ok ∧ e = 81 ∧ out = []) ∨ (ok ∧ e = 0 ∧ byL l s.1 q q.length out)))
end Go.Proofs.Ytdahgdkadfdkeaa.K
