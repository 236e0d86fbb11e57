/- The document's order by tags is order's. -/
import Derived.Test.YtdahgdkadfdkeaaReoE
namespace Go.Proofs.Ytdahgdkadfdkeaa.K
open Go Go.RowKit
set_option linter.unusedVariables false
abbrev GTk := Gsherdref21_Taken
theorem tk_eq {x : GTk} {i : Int} {t : GTag} : x = (⟨i, t⟩ : GTk) ↔ x.Call = i ∧ x.Tag = t := by cases x; simp
theorem nodup_snoc {α : Type} {xs : List α} {x : α} (h : xs.Nodup) (hx : ¬ x ∈ xs) : (xs ++ [x]).Nodup := by
  rw [List.nodup_iff_pairwise_ne] at *
  rw [List.pairwise_append]
  refine ⟨h, by simp, fun a ha b hb e => hx ?_⟩
  rw [List.mem_singleton] at hb
  rw [← hb, ← e]; exact ha
def ownW (l : List GCall) (j : Nat) : Prop := ownA l[j]! ∧ (¬ l[j]!.Open = true ∨ wan l l.length l[j]!.Tag)
def tkO (l : List GCall) (k : Nat) (xs : List GTk) : Prop := (∀ x : GTk, x ∈ xs ↔ ∃ j : Nat, x.Call = (j : Int) ∧ x.Tag = l[j]!.Tag ∧ j < k ∧ ownW l j) ∧ xs.Nodup ∧ xs.length ≤ k
def tkG (l : List GCall) (k : Nat) (gs : List GTag) (xs : List GTk) : Prop := (∀ t, t ∈ gs ↔ wan l k t ∧ ¬ knw l t) ∧ gs.length ≤ k ∧ (∀ x : GTk, x ∈ xs ↔ (∃ j : Nat, x.Call = (j : Int) ∧ x.Tag = l[j]!.Tag ∧ j < l.length ∧ ownW l j) ∨ asg l k x.Call x.Tag) ∧ xs.Nodup ∧ xs.length ≤ l.length + k
section
variable {l : List GCall} {k : Nat} {xs : List GTk} {gs : List GTag}
theorem tkO_start : tkO l 0 [] := ⟨fun x => ⟨fun h => (by cases h), fun ⟨j, _, _, h, _⟩ => by omega⟩, List.nodup_nil, by simp⟩
theorem tkO_skip (h : tkO l k xs) (hn : ¬ ownW l k) : tkO l (k + 1) xs := by
  refine ⟨fun x => ?_, h.2.1, by have := h.2.2; omega⟩
  rw [h.1]
  constructor
  · rintro ⟨j, a, b, c, d⟩; exact ⟨j, a, b, by omega, d⟩
  · rintro ⟨j, a, b, c, d⟩
    by_cases e : j = k
    · subst e; exact absurd d hn
    · exact ⟨j, a, b, by omega, d⟩
theorem tkO_add (h : tkO l k xs) (hn : ownW l k) : tkO l (k + 1) (xs ++ [(⟨(k : Int), l[k]!.Tag⟩ : GTk)]) := by
  refine ⟨fun x => ?_, nodup_snoc h.2.1 fun q => ?_, by have := h.2.2; simp; omega⟩
  · rw [List.mem_append, List.mem_singleton, h.1, tk_eq]
    constructor
    · rintro (⟨j, a, b, c, d⟩ | ⟨a, b⟩)
      · exact ⟨j, a, b, by omega, d⟩
      · exact ⟨k, a, b, by omega, hn⟩
    · rintro ⟨j, a, b, c, d⟩
      by_cases e : j = k
      · subst e; exact .inr ⟨a, b⟩
      · exact .inl ⟨j, a, b, by omega, d⟩
  · obtain ⟨j, a, _, c, _⟩ := (h.1 _).1 q
    have : (k : Int) = j := a
    omega
theorem tkG_start (h : tkO l l.length xs) : tkG l 0 [] xs := by
  refine ⟨fun t => ⟨fun h => (by cases h), fun ⟨⟨j, q, _⟩, _⟩ => by omega⟩, by simp, fun x => ?_, h.2.1, by have := h.2.2; omega⟩
  rw [h.1]
  constructor
  · exact .inl
  · rintro (q | ⟨⟨j, q, _⟩, _⟩)
    · exact q
    · omega
theorem asg_skip (hn : ¬ (rdC l[k]! ∧ ¬ knw l l[k]!.Tag ∧ ¬ wan l k l[k]!.Tag)) (i : Int) (t : GTag) : asg l (k + 1) i t ↔ asg l k i t := by
  constructor
  · rintro ⟨w, n, e⟩
    refine ⟨?_, n, e⟩
    rcases wan_succ.1 w with w | ⟨a, rfl⟩
    · exact w
    · exact Classical.byContradiction fun q => hn ⟨a, n, q⟩
  · exact asg_mono (by omega)
theorem tkG_skip (h : tkG l k gs xs) (hn : ¬ (rdC l[k]! ∧ ¬ knw l l[k]!.Tag ∧ ¬ l[k]!.Tag ∈ gs)) : tkG l (k + 1) gs xs := by
  obtain ⟨h1, h2, h3, h4, h5⟩ := h
  have hn' : ¬ (rdC l[k]! ∧ ¬ knw l l[k]!.Tag ∧ ¬ wan l k l[k]!.Tag) := fun q => hn ⟨q.1, q.2.1, fun z => q.2.2 ((h1 _).1 z).1⟩
  refine ⟨fun t => ?_, by omega, fun x => ?_, h4, by omega⟩
  · rw [h1]
    constructor
    · rintro ⟨a, b⟩; exact ⟨wan_mono (by omega) a, b⟩
    · rintro ⟨c, b⟩
      refine ⟨?_, b⟩
      rcases wan_succ.1 c with a | ⟨a, e⟩
      · exact a
      · rw [← e] at b ⊢; exact Classical.byContradiction fun q => hn' ⟨a, b, q⟩
  · rw [h3, asg_skip hn']
theorem gs_add (h1 : ∀ t, t ∈ gs ↔ wan l k t ∧ ¬ knw l t) (hr : rdC l[k]!) (hk : ¬ knw l l[k]!.Tag) (t : GTag) : t ∈ gs ++ [l[k]!.Tag] ↔ wan l (k + 1) t ∧ ¬ knw l t := by
  rw [List.mem_append, List.mem_singleton, h1, wan_succ]
  constructor
  · rintro (⟨a, b⟩ | rfl)
    · exact ⟨.inl a, b⟩
    · exact ⟨.inr ⟨hr, rfl⟩, hk⟩
  · rintro ⟨a | ⟨_, a⟩, b⟩
    · exact .inl ⟨a, b⟩
    · exact .inr a.symm
theorem tkG_none (h : tkG l k gs xs) (hr : rdC l[k]!) (hk : ¬ knw l l[k]!.Tag) (hl : lastP l l[k]!.Tag.Client l.length < 0) : tkG l (k + 1) (gs ++ [l[k]!.Tag]) xs := by
  obtain ⟨h1, h2, h3, h4, h5⟩ := h
  refine ⟨gs_add h1 hr hk, by simp; omega, fun x => ?_, h4, by omega⟩
  rw [h3]
  refine or_congr Iff.rfl ⟨asg_mono (by omega), ?_⟩
  rintro ⟨w, n, e⟩
  refine ⟨?_, n, e⟩
  rcases wan_succ.1 w with w | ⟨a, q⟩
  · exact w
  · rw [← q] at e; have := e.1; have := e.2; omega
theorem tkG_add (h : tkG l k gs xs) (hr : rdC l[k]!) (hk : ¬ knw l l[k]!.Tag) (hg : ¬ l[k]!.Tag ∈ gs) (hl : 0 ≤ lastP l l[k]!.Tag.Client l.length) : tkG l (k + 1) (gs ++ [l[k]!.Tag]) (xs ++ [(⟨lastP l l[k]!.Tag.Client l.length, l[k]!.Tag⟩ : GTk)]) := by
  obtain ⟨h1, h2, h3, h4, h5⟩ := h
  have hw : ¬ wan l k l[k]!.Tag := fun q => hg ((h1 _).2 ⟨q, hk⟩)
  have hnew : asg l (k + 1) (lastP l l[k]!.Tag.Client l.length) l[k]!.Tag := ⟨wan_succ.2 (.inr ⟨hr, rfl⟩), hk, rfl, hl⟩
  refine ⟨gs_add h1 hr hk, by simp; omega, fun x => ?_, nodup_snoc h4 fun q => ?_, by simp; omega⟩
  · rw [List.mem_append, List.mem_singleton, h3, tk_eq]
    constructor
    · rintro ((q | q) | ⟨a, b⟩)
      · exact .inl q
      · exact .inr (asg_mono (by omega) q)
      · rw [a, b]; exact .inr hnew
    · rintro (q | ⟨w, n, e1, e2⟩)
      · exact .inl (.inl q)
      · rcases wan_succ.1 w with w | ⟨a, q⟩
        · exact .inl (.inr ⟨w, n, e1, e2⟩)
        · refine .inr ⟨?_, q.symm⟩
          rw [← e1, q]
  · rcases (h3 _).1 q with ⟨j, a, _, c, d⟩ | ⟨w, _⟩
    · obtain ⟨j', e1, _, _, e3⟩ := asg_at hnew
      have a : lastP l l[k]!.Tag.Client l.length = (j : Int) := a
      have : j = j' := by omega
      subst this
      exact e3 d.1
    · exact hw w
theorem lop_iff (hf : fitP l) {cl : Int} {j : Nat} (hj : j < l.length) : lopP l cl j ↔ l[j]!.Put = true ∧ ¬ ownA l[j]! ∧ l[j]!.Client = cl := by
  have ho := (hf j hj).2.2.2.1
  unfold lopP ownA
  constructor
  · rintro ⟨a, b, c⟩
    exact ⟨(ho.1 a).1, fun q => by rcases q.2 with q | q; exact q a; exact q b, c⟩
  · rintro ⟨a, b, c⟩
    refine ⟨Classical.byContradiction fun q => b ⟨a, .inl q⟩, Classical.byContradiction fun q => b ⟨a, .inr q⟩, c⟩
theorem ex_step {Q : Nat → Prop} {j : Nat} : (∃ m, m < j + 1 ∧ Q m) ↔ (∃ m, m < j ∧ Q m) ∨ Q j := by
  constructor
  · rintro ⟨m, a, b⟩
    by_cases e : m = j
    · subst e; exact .inr b
    · exact .inl ⟨m, by omega, b⟩
  · rintro (⟨m, a, b⟩ | b)
    · exact ⟨m, by omega, b⟩
    · exact ⟨j, by omega, b⟩
theorem mem_ex {α : Type} [Inhabited α] {xs : List α} {t : α} {n : Nat} (hn : n = xs.length) : (∃ m, m < n ∧ xs[m]! = t) ↔ t ∈ xs := by
  subst hn
  constructor
  · rintro ⟨m, a, b⟩; rw [← b]; exact List.mem_of_getElem? (get_bang a)
  · intro h
    obtain ⟨m, hm⟩ := List.getElem?_of_mem h
    have hml := (List.getElem?_eq_some_iff.1 hm).1
    rw [get_bang hml] at hm
    exact ⟨m, hml, Option.some.inj hm⟩
/-- What is found in all. -/
def tkA (l : List GCall) (xs : List GTk) : Prop := (∀ x : GTk, x ∈ xs ↔ ∃ i : Nat, x.Call = (i : Int) ∧ TkP l i x.Tag) ∧ xs.Nodup ∧ xs.length ≤ 2 * l.length
theorem tkG_end (h : tkG l l.length gs xs) : tkA l xs := by
  refine ⟨fun x => ?_, h.2.2.2.1, by have := h.2.2.2.2; omega⟩
  rw [h.2.2.1]
  constructor
  · rintro (⟨j, a, b, c, d⟩ | q)
    · exact ⟨j, a, .inl ⟨c, d.1, b, d.2.imp id fun z => b ▸ z⟩⟩
    · obtain ⟨j, e, _⟩ := asg_at q
      exact ⟨j, e, .inr (e ▸ q)⟩
  · rintro ⟨i, a, ⟨b, c, d, e⟩ | q⟩
    · exact .inl ⟨i, a, d, b, c, e.imp id fun z => d ▸ z⟩
    · exact .inr (a ▸ q)
theorem tk_in (h : tkA l xs) {a : Nat} (ha : a < xs.length) : ∃ i : Nat, xs[a]!.Call = (i : Int) ∧ TkP l i xs[a]!.Tag := (h.1 _).1 (List.mem_of_getElem? (get_bang ha))
theorem tk_of (h : tkA l xs) {i : Nat} {t : GTag} (q : TkP l i t) : ∃ a, a < xs.length ∧ xs[a]!.Call = (i : Int) ∧ xs[a]!.Tag = t := by
  obtain ⟨a, ha⟩ := List.getElem?_of_mem ((h.1 (⟨(i : Int), t⟩ : GTk)).2 ⟨i, rfl, q⟩)
  have hal := (List.getElem?_eq_some_iff.1 ha).1
  rw [get_bang hal] at ha
  have e := Option.some.inj ha
  exact ⟨a, hal, by rw [e], by rw [e]⟩
theorem tk_same (h : tkA l xs) {a b : Nat} (ha : a < xs.length) (hb : b < xs.length) (h1 : xs[a]!.Call = xs[b]!.Call) (h2 : xs[a]!.Tag = xs[b]!.Tag) : a = b := by
  have e : xs[a]! = xs[b]! := tk_eq.2 ⟨h1, h2⟩
  rw [getElem!_pos xs a ha, getElem!_pos xs b hb] at e
  have hp := List.pairwise_iff_getElem.1 (List.nodup_iff_pairwise_ne.1 h.2.1)
  rcases Nat.lt_trichotomy a b with g | g | g
  · exact absurd e (hp a b ha hb g)
  · exact g
  · exact absurd e.symm (hp b a hb ha g)
theorem tk_bad1 (h : tkA l xs) {a : Nat} (ha : a < xs.length) (q : ¬ tagProper xs[a]!.Tag) : ¬ GoodT l := fun G => by
  obtain ⟨i, e, t⟩ := tk_in h ha
  exact q (G.prop i _ t)
theorem tk_bad2 (h : tkA l xs) {a b : Nat} (ha : a < xs.length) (hb : b < a) (q : xs[a]!.Tag = xs[b]!.Tag ∨ xs[a]!.Call = xs[b]!.Call) : ¬ GoodT l := fun G => by
  obtain ⟨i, e, t⟩ := tk_in h ha
  obtain ⟨j, e', t'⟩ := tk_in h (show b < xs.length by omega)
  have : a = b := by
    refine tk_same h ha (by omega) ?_ ?_
    · rcases q with q | q
      · rw [q] at t
        rw [e, e', G.inj i j _ t t']
      · exact q
    · rcases q with q | q
      · exact q
      · have : i = j := by omega
        subst this
        exact TkP.fun G.noconf t t'
  omega
theorem tk_bad3 (h : tkA l xs) (hk : k < l.length) (hr : rdC l[k]!) (q : ∀ j, j < xs.length → ¬ xs[j]!.Tag = l[k]!.Tag) : ¬ GoodT l := fun G => by
  obtain ⟨i, hi⟩ := G.cov l[k]!.Tag ⟨k, hk, hr, rfl⟩
  obtain ⟨a, ha, _, e⟩ := tk_of h hi
  exact q a ha e
def tkN (xs : List GTk) (n : Nat) : Prop := ∀ a, a < n → tagProper xs[a]!.Tag ∧ ∀ b, b < a → ¬ xs[a]!.Tag = xs[b]!.Tag ∧ ¬ xs[a]!.Call = xs[b]!.Call
theorem tk_good (h : tkA l xs) (q : tkN xs xs.length) (r : ∀ k, k < l.length → rdC l[k]! → ∃ j, j < xs.length ∧ xs[j]!.Tag = l[k]!.Tag) : GoodT l := by
  have hC : ∀ a b, a < xs.length → b < xs.length → xs[a]!.Call = xs[b]!.Call → a = b := fun a b ha hb e => by
    rcases Nat.lt_trichotomy a b with g | g | g
    · exact absurd e.symm ((q b hb).2 a g).2
    · exact g
    · exact absurd e ((q a ha).2 b g).2
  have hT : ∀ a b, a < xs.length → b < xs.length → xs[a]!.Tag = xs[b]!.Tag → a = b := fun a b ha hb e => by
    rcases Nat.lt_trichotomy a b with g | g | g
    · exact absurd e.symm ((q b hb).2 a g).1
    · exact g
    · exact absurd e ((q a ha).2 b g).1
  refine ⟨?_, fun i t ht => ?_, fun i j t h1 h2 => ?_, fun t ⟨j, hj, hr, e⟩ => ?_⟩
  · rintro ⟨i, t, t', hne, a1, a2⟩
    obtain ⟨j, e, _⟩ := asg_at a1
    subst e
    obtain ⟨a, ha, c1, c2⟩ := tk_of h (.inr a1)
    obtain ⟨b, hb, d1, d2⟩ := tk_of h (.inr a2)
    have := hC a b ha hb (c1.trans d1.symm)
    subst this
    exact hne (c2.symm.trans d2)
  · obtain ⟨a, ha, _, e⟩ := tk_of h ht
    rw [← e]; exact (q a ha).1
  · obtain ⟨a, ha, c1, c2⟩ := tk_of h h1
    obtain ⟨b, hb, d1, d2⟩ := tk_of h h2
    have := hT a b ha hb (c2.trans d2.symm)
    subst this
    omega
  · obtain ⟨a, ha, c⟩ := r j hj hr
    obtain ⟨i, _, ht⟩ := tk_in h ha
    exact ⟨i, by rw [← e, ← c]; exact ht⟩
/-! ### Gets beside one another -/
def gtS (l : List GCall) (Pw : GCall → Prop) (k : Nat) (os : List Int) : Prop := os.Perm (idxs (gtP l Pw) k) ∧ os.Pairwise (stR (frLt l))
variable {Pw : GCall → Prop} {os p : List Int}
theorem gtS_start : gtS l Pw 0 [] := ⟨List.Perm.refl _, List.Pairwise.nil⟩
theorem gtS_skip (h : gtS l Pw k os) (hn : ¬ gtP l Pw k) : gtS l Pw (k + 1) os := ⟨by rw [idxs_succ, if_neg hn]; exact h.1, h.2⟩
theorem gtS_in (h : gtS l Pw k os) (hk : k ≤ l.length) : ∀ y ∈ os, 0 ≤ y ∧ y < (l.length : Int) := fun y hy => by
  obtain ⟨i, a, _, e⟩ := idxs_mem.1 (h.1.mem_iff.1 hy); omega
theorem gtS_len (h : gtS l Pw k os) : os.length ≤ k := by rw [h.1.length_eq]; exact idxs_len _ _
theorem gtS_add (h : gtS l Pw k os) (hn : gtP l Pw k) {m : Nat} (h1 : p.length ≤ m) (h2 : m ≤ (p ++ os).length) (h3 : ∀ j, m ≤ j → j < (p ++ os).length → stR (frLt l) (k : Int) (p ++ os)[j]!) (h4 : m = p.length ∨ ¬ stR (frLt l) (k : Int) (p ++ os)[m - 1]!) :
    ∃ os', insL (p ++ os) m (k : Int) = p ++ os' ∧ gtS l Pw (k + 1) os' := by
  obtain ⟨g, a, b, c⟩ := ins_up (frLt_wk l) h1 h2 h.2 (fun q => by obtain ⟨i, a, _, e⟩ := idxs_mem.1 (h.1.mem_iff.1 q); omega) h3 h4
  refine ⟨g, a, ?_, c⟩
  rw [idxs_succ, if_pos hn]
  exact b.trans (h.1.append_right _)
theorem gtS_abs : abC l[k]! ↔ gtP l absW k := Iff.rfl
theorem gtS_tag {t : GTag} : (rdC l[k]! ∧ l[k]!.Tag = t) ↔ gtP l (tagW t) k := by
  unfold rdC gtP tagW
  constructor
  · rintro ⟨⟨a, b, c⟩, rfl⟩; exact ⟨a, b, c, rfl, rfl⟩
  · rintro ⟨a, b, c, d, e⟩; exact ⟨⟨a, b, c⟩, tag_ext d e⟩
theorem gtS_end (h : gtS l Pw l.length os) : gtR l Pw os := ⟨h.1, pairwise_up h.2⟩
/-! ### the Puts, by tag -/
def tmM (xs : List GTk) : TgM := xs.map fun x => (x.Call, x.Tag)
theorem tm_get : ∀ {xs : List GTk}, (∀ a b, a < xs.length → b < a → ¬ xs[a]!.Call = xs[b]!.Call) → ∀ j, j < xs.length → tagM (tmM xs) xs[j]!.Call = xs[j]!.Tag
  | [], _, j, hj => by simp at hj
  | x :: xs, h, 0, _ => by
    unfold tagM tmM
    rw [List.map_cons, mapV_cons, if_pos (by rfl)]; rfl
  | x :: xs, h, j + 1, hj => by
    have hj' : j < xs.length := by simpa using hj
    have e : (x :: xs)[j + 1]! = xs[j]! := by simp
    have hne := h (j + 1) 0 hj (by omega)
    rw [e] at hne ⊢
    have e0 : (x :: xs)[0]! = x := by simp
    rw [e0] at hne
    unfold tagM tmM
    rw [List.map_cons, mapV_cons, if_neg hne]
    exact tm_get (fun a b ha hb => by have := h (a + 1) (b + 1) (by simp; omega) (by omega); simpa using this) j hj'
def selS (xs : List GTk) (n : Nat) (dn : List Bool) (qs : List Int) : Prop := dn.length = xs.length ∧ dn.count true = n ∧ qs.length = n ∧ (∀ j, j < xs.length → (dn[j]! = true ↔ xs[j]!.Call ∈ qs)) ∧ (∀ x ∈ qs, ∃ j, j < xs.length ∧ x = xs[j]!.Call) ∧ (∀ a b, a < b → b < n → tagCmp (tagM (tmM xs) qs[a]!) (tagM (tmM xs) qs[b]!) < 0) ∧ ∀ j, j < xs.length → ¬ dn[j]! = true → ∀ a, a < n → tagCmp (tagM (tmM xs) qs[a]!) xs[j]!.Tag < 0
def lstS (xs : List GTk) (dn : List Bool) (j : Nat) (la : Int) : Prop := (la = -1 ∧ ∀ i, i < j → dn[i]! = true) ∨ ∃ a : Nat, a < j ∧ la = (a : Int) ∧ ¬ dn[a]! = true ∧ ∀ i, i < j → ¬ dn[i]! = true → ¬ tagCmp xs[i]!.Tag xs[a]!.Tag < 0
variable {dn : List Bool} {qs : List Int} {n j : Nat} {la : Int}
theorem lst_take (h : lstS xs dn j la) (h1 : ¬ dn[j]! = true) (h2 : la < 0 ∨ tagCmp xs[j]!.Tag xs[(la : Int).toNat]!.Tag < 0) : lstS xs dn (j + 1) (j : Int) := by
  refine .inr ⟨j, by omega, rfl, h1, fun i hi hd => ?_⟩
  by_cases e : i = j
  · subst e; rw [cmp_lt]; omega
  · rcases h with ⟨_, q⟩ | ⟨a, _, rfl, _, q⟩
    · exact absurd (q i (by omega)) hd
    · have h3 := q i (by omega) hd
      have h4 := h2.resolve_left (by omega)
      have h4 : tagCmp xs[j]!.Tag xs[a]!.Tag < 0 := h4
      rw [cmp_lt] at *
      omega
theorem lst_leave (h : lstS xs dn j la) (h1 : ¬ (¬ dn[j]! = true ∧ (la < 0 ∨ tagCmp xs[j]!.Tag xs[(la : Int).toNat]!.Tag < 0))) : lstS xs dn (j + 1) la := by
  rcases h with ⟨e, q⟩ | ⟨a, ha, rfl, hd, q⟩
  · refine .inl ⟨e, fun i hi => ?_⟩
    by_cases c : i = j
    · subst c; exact Classical.byContradiction fun z => h1 ⟨z, .inl (by omega)⟩
    · exact q i (by omega)
  · refine .inr ⟨a, by omega, rfl, hd, fun i hi hz => ?_⟩
    by_cases c : i = j
    · subst c; exact fun z => h1 ⟨hz, .inr z⟩
    · exact q i (by omega) hz
theorem lst_rng (h : lstS xs dn j la) (hj : j ≤ xs.length) : -1 ≤ la ∧ (0 ≤ la → la < (xs.length : Int)) := by
  rcases h with ⟨e, _⟩ | ⟨a, ha, e, _⟩ <;> omega
theorem lst_end (hs : selS xs n dn qs) (hn : n < xs.length) (h : lstS xs dn xs.length la) : ∃ a : Nat, a < xs.length ∧ la = (a : Int) ∧ ¬ dn[a]! = true ∧ ∀ i, i < xs.length → ¬ dn[i]! = true → ¬ tagCmp xs[i]!.Tag xs[a]!.Tag < 0 := by
  rcases h with ⟨_, q⟩ | h
  · have : dn.count true = dn.length := List.count_eq_length.2 fun b hb => by
      obtain ⟨i, hi⟩ := List.getElem?_of_mem hb
      have hil := (List.getElem?_eq_some_iff.1 hi).1
      have := q i (by rw [← hs.1]; exact hil)
      rw [getElem!_pos dn i hil] at this
      rw [List.getElem?_eq_getElem hil] at hi
      rw [← Option.some.inj hi, this]
    have := hs.1; have := hs.2.1; omega
  · exact h
theorem sel_start (n : Nat) (hn : n = xs.length) : selS xs 0 (List.replicate n false) [] := by
  subst hn
  refine ⟨by simp, ?_, rfl, fun j hj => ?_, fun x hx => (by cases hx), fun a b _ hb => by omega, fun j _ _ a ha => by omega⟩
  · rw [List.count_replicate]; simp
  · rw [getElem!_pos (List.replicate xs.length false) j (by simpa using hj), List.getElem_replicate]; simp
theorem sel_step (hN : tkN xs xs.length) (h : selS xs n dn qs) {a : Nat} (ha : a < xs.length) (hd : ¬ dn[a]! = true) (hm : ∀ i, i < xs.length → ¬ dn[i]! = true → ¬ tagCmp xs[i]!.Tag xs[a]!.Tag < 0) : selS xs (n + 1) (dn.set a true) (qs ++ [xs[a]!.Call]) := by
  obtain ⟨h1, h2, h3, h4, h5, h6, h7⟩ := h
  have hg : ∀ i, i < xs.length → tagM (tmM xs) xs[i]!.Call = xs[i]!.Tag := tm_get fun a b ha hb => ((hN a ha).2 b hb).2
  have hC : ∀ i, i < xs.length → xs[i]!.Call = xs[a]!.Call → i = a := fun i hi e => by
    rcases Nat.lt_trichotomy i a with g | g | g
    · exact absurd e.symm ((hN a ha).2 i g).2
    · exact g
    · exact absurd e ((hN i hi).2 a g).2
  have hT : ∀ i, i < xs.length → xs[i]!.Tag = xs[a]!.Tag → i = a := fun i hi e => by
    rcases Nat.lt_trichotomy i a with g | g | g
    · exact absurd e.symm ((hN a ha).2 i g).1
    · exact g
    · exact absurd e ((hN i hi).2 a g).1
  have hq : ∀ i, i < n → (qs ++ [xs[a]!.Call])[i]! = qs[i]! := fun i hi => appI_left (by omega)
  have hqn : (qs ++ [xs[a]!.Call])[n]! = xs[a]!.Call := by have := appI_get (o := qs) (g := [xs[a]!.Call]) (j := 0) (by simp); rw [h3, Nat.add_zero] at this; rw [this]; rfl
  refine ⟨by rw [List.length_set]; exact h1, ?_, by simp [h3], fun j hj => ?_, fun x hx => ?_, fun b c hbc hc => ?_, fun j hj hdj c hc => ?_⟩
  · rw [List.count_set (by omega)]
    rw [getElem!_pos dn a (by omega)] at hd
    simp [hd, h2]
  · rw [setB_get (by omega), List.mem_append, List.mem_singleton]
    by_cases e : j = a
    · subst e; rw [if_pos rfl]; simp
    · rw [if_neg e, h4 j hj]
      exact ⟨.inl, fun z => z.resolve_right fun q => e (hC j hj q)⟩
  · rw [List.mem_append, List.mem_singleton] at hx
    rcases hx with hx | hx
    · exact h5 x hx
    · exact ⟨a, ha, hx⟩
  · rw [hq b (by omega)]
    by_cases e : c = n
    · subst e; rw [hqn, hg a ha]; exact h7 a ha hd b hbc
    · rw [hq c (by omega)]; exact h6 b c hbc (by omega)
  · rw [setB_get (by omega)] at hdj
    by_cases e : j = a
    · rw [if_pos e] at hdj; exact absurd rfl hdj
    · rw [if_neg e] at hdj
      by_cases e2 : c = n
      · subst e2
        rw [hqn, hg a ha]
        have q1 := hm j hj hdj
        have q2 : ¬ (xs[j]!.Tag.Count = xs[a]!.Tag.Count ∧ xs[j]!.Tag.Client = xs[a]!.Tag.Client) := fun z => e (hT j hj (tag_ext z.1 z.2))
        rw [cmp_lt] at *
        omega
      · rw [hq c (by omega)]; exact h7 j hj hdj c (by omega)
theorem sel_end (hA : tkA l xs) (hN : tkN xs xs.length) (h : selS xs xs.length dn qs) : ByOk l (tmM xs) qs := by
  obtain ⟨h1, h2, h3, h4, h5, h6, h7⟩ := h
  have hg : ∀ i, i < xs.length → tagM (tmM xs) xs[i]!.Call = xs[i]!.Tag := tm_get fun a b ha hb => ((hN a ha).2 b hb).2
  have hall : ∀ j, j < xs.length → dn[j]! = true := fun j hj => by
    have := List.count_eq_length.1 (show dn.count true = dn.length by omega) dn[j]! (by rw [getElem!_pos dn j (by omega)]; exact List.getElem_mem _)
    exact this.symm
  refine ⟨?_, fun x => ⟨fun hx => ?_, ?_⟩, fun i t ht => ?_, fun a b hab hb => h6 a b hab (by omega)⟩
  · rw [List.nodup_iff_pairwise_ne, List.pairwise_iff_getElem]
    intro a b ha hb hab e
    have := h6 a b hab (by omega)
    rw [bang_get ha, bang_get hb, e, cmp_lt] at this
    omega
  · obtain ⟨j, hj, e⟩ := h5 x hx
    obtain ⟨i, e2, t⟩ := tk_in hA hj
    exact ⟨i, _, e.trans e2, t⟩
  · rintro ⟨i, t, rfl, ht⟩
    obtain ⟨a, ha, e, _⟩ := tk_of hA ht
    rw [← e]; exact (h4 a ha).1 (hall a ha)
  · obtain ⟨a, ha, e1, e2⟩ := tk_of hA ht
    rw [← e1, hg a ha, e2]
theorem byL_ext {m : TgM} {q q' out : List Int} {n : Nat} (h : byL l m q n out) (he : ∀ i, i < n → q'[i]! = q[i]!) : byL l m q' n out := by
  induction h with
  | zero h => exact .zero h
  | @succ n o g h hg ih =>
    have := byL.succ (ih fun i hi => he i (by omega)) (g := g) (by rw [he n (by omega)]; exact hg)
    rwa [he n (by omega)] at this
theorem byL_more (hN : tkN xs xs.length) (hs : selS xs n dn qs) {out g : List Int} (h : byL l (tmM xs) qs n out) {a : Nat} (ha : a < xs.length) (hg : gtR l (tagW xs[a]!.Tag) g) : byL l (tmM xs) (qs ++ [xs[a]!.Call]) (n + 1) (out ++ [xs[a]!.Call] ++ g) := by
  have hgt : tagM (tmM xs) xs[a]!.Call = xs[a]!.Tag := tm_get (fun a b ha hb => ((hN a ha).2 b hb).2) a ha
  have hqn : (qs ++ [xs[a]!.Call])[n]! = xs[a]!.Call := by have := appI_get (o := qs) (g := [xs[a]!.Call]) (j := 0) (by simp); rw [hs.2.2.1, Nat.add_zero] at this; rw [this]; rfl
  have := byL.succ (byL_ext (q' := qs ++ [xs[a]!.Call]) h fun i hi => appI_left (by have := hs.2.2.1; omega)) (g := g) (by rw [hqn]; show gtR l (tagW (tagM (tmM xs) xs[a]!.Call)) g; rw [hgt]; exact hg)
  rwa [hqn] at this
/-- The order by tags, as it is told of the calls. -/
def byS (l : List GCall) (out : List Int) (e : Int) : Prop := (¬ fitP l ∧ e = 1 ∧ out = []) ∨ (fitP l ∧ ¬ GoodT l ∧ e = 81 ∧ out = []) ∨ (fitP l ∧ GoodT l ∧ e = 0 ∧ ∃ m q, ByOk l m q ∧ byL l m q q.length out)
theorem ByOk.same {m m' : TgM} {q q' : List Int} (B : ByOk l m q) (B' : ByOk l m' q') (hc : ¬ Conf l) : q = q' := by
  have htag : ∀ x ∈ q', tagM m x = tagM m' x := fun x hx => by
    obtain ⟨i, t, rfl, ht⟩ := (B'.mem x).1 hx
    rw [B.tag i t ht, B'.tag i t ht]
  have hp : q.Perm q' := (List.perm_ext_iff_of_nodup B.nodup B'.nodup).2 fun x => by rw [B.mem, B'.mem]
  refine up_unique (tgLt_wk m) hp (fun i j _ hij hj => .inl (B.up i j hij hj)) (fun i j _ hij hj => .inl ?_)
  have h1 := htag _ (List.mem_of_getElem? (get_bang (show i < q'.length by omega)))
  have h2 := htag _ (List.mem_of_getElem? (get_bang hj))
  show tagCmp (tagM m q'[i]!) (tagM m q'[j]!) < 0
  rw [h1, h2]; exact B'.up i j hij hj
theorem byL_same {m m' : TgM} {q : List Int} (B : ByOk l m q) (B' : ByOk l m' q) {n : Nat} {out out' : List Int} (hn : n ≤ q.length) (h : byL l m q n out) (h' : byL l m' q n out') : out = out' := by
  induction h generalizing out' with
  | zero h =>
    cases h' with
    | zero h' => exact up_unique (frLt_wk l) (h.1.trans h'.1.symm) h.2 h'.2
  | @succ n o g h hg ih =>
    cases h' with
    | @succ _ o' g' h' hg' =>
      have e1 := ih (by omega) h'
      subst e1
      obtain ⟨i, t, e, ht⟩ := (B.mem q[n]!).1 (List.mem_of_getElem? (get_bang (show n < q.length by omega)))
      have e2 : tagM m q[n]! = tagM m' q[n]! := by rw [e, B.tag i t ht, B'.tag i t ht]
      have hg : gtR l (tagW (tagM m q[n]!)) g := hg
      have hg' : gtR l (tagW (tagM m' q[n]!)) g' := hg'
      rw [e2] at hg
      rw [up_unique (frLt_wk l) (hg.1.trans hg'.1.symm) hg.2 hg'.2]
theorem byS_same {out out' : List Int} {e e' : Int} (h : byS l out e) (h' : byS l out' e') : out = out' ∧ e = e' := by
  rcases h with ⟨a, b, c⟩ | ⟨a, b, c, d⟩ | ⟨a, b, c, m, q, d1, d2⟩
  · rcases h' with ⟨a', b', c'⟩ | ⟨a', _⟩ | ⟨a', _⟩
    · exact ⟨by rw [c, c'], by omega⟩
    · exact absurd a' a
    · exact absurd a' a
  · rcases h' with ⟨a', _⟩ | ⟨a', b', c', d'⟩ | ⟨_, b', _⟩
    · exact absurd a a'
    · exact ⟨by rw [d, d'], by omega⟩
    · exact absurd b' b
  · rcases h' with ⟨a', _⟩ | ⟨_, b', _⟩ | ⟨_, _, c', m', q', d1', d2'⟩
    · exact absurd a a'
    · exact absurd b b'
    · have e1 := d1.same d1' b.noconf
      subst e1
      exact ⟨byL_same d1 d1' (Nat.le_refl _) d2 d2', by omega⟩
end
end Go.Proofs.Ytdahgdkadfdkeaa.K
