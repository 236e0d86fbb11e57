/- A stable sort in place, by swaps, rotations and merges: the plain law. -/
import Derived.Test.YtoeholipggkcaaaSortQ
namespace Go.Proofs.Ytoeholipggkcaaa.K
open Go Go.RowKit
theorem bang_get {l : List Int} {i : Nat} (h : i < l.length) : l[i]! = l[i] := getElem!_pos l i h
theorem getb_set {l : List Int} {i x : Nat} {v : Int} (hi : i < l.length) : (l.set i v)[x]! = if x = i then v else l[x]! := by
  rw [List.getElem!_eq_getElem?_getD, List.getElem!_eq_getElem?_getD, List.getElem?_set]
  by_cases h : x = i
  · subst h; rw [if_pos rfl, if_pos hi, if_pos rfl]; rfl
  · rw [if_neg (fun e => h e.symm), if_neg h]
/-- What stands at i and at j changed. -/
def swp (l : List Int) (i j : Nat) : List Int := (l.set i l[j]!).set j l[i]!
theorem swp_len (l : List Int) (i j : Nat) : (swp l i j).length = l.length := by simp [swp]
theorem swp_get {l : List Int} {i j : Nat} (x : Nat) (hi : i < l.length) (hj : j < l.length) : (swp l i j)[x]! = if x = j then l[i]! else if x = i then l[j]! else l[x]! := by
  unfold swp
  rw [getb_set (by rw [List.length_set]; exact hj), getb_set hi]
theorem swp_perm {l : List Int} {i j : Nat} (hi : i < l.length) (hj : j < l.length) : (swp l i j).Perm l := by
  unfold swp
  rw [bang_get hi, bang_get hj]
  exact List.set_set_perm hi hj
/-- l' is l but that in [a, b) things changed places. -/
structure Mv (l l' : List Int) (a b : Nat) : Prop where
  perm : l'.Perm l
  out : ∀ x, ¬ (a ≤ x ∧ x < b) → l'[x]! = l[x]!
theorem Mv.len {l l' : List Int} {a b : Nat} (h : Mv l l' a b) : l'.length = l.length := h.perm.length_eq
theorem Mv.refl (l : List Int) (a b : Nat) : Mv l l a b := ⟨List.Perm.refl _, fun _ _ => rfl⟩
theorem Mv.trans {l l' l'' : List Int} {a b : Nat} (h : Mv l l' a b) (k : Mv l' l'' a b) : Mv l l'' a b := ⟨k.perm.trans h.perm, fun x hx => (k.out x hx).trans (h.out x hx)⟩
theorem Mv.wide {l l' : List Int} {a b a' b' : Nat} (h : Mv l l' a b) (h1 : a' ≤ a) (h2 : b ≤ b') : Mv l l' a' b' := ⟨h.perm, fun x hx => h.out x (by omega)⟩
theorem Mv.swp {l : List Int} {a b i j : Nat} (hi : a ≤ i ∧ i < b) (hj : a ≤ j ∧ j < b) (hb : b ≤ l.length) : Mv l (K.swp l i j) a b :=
  ⟨swp_perm (by omega) (by omega), fun x hx => by rw [swp_get x (by omega) (by omega), if_neg (by omega), if_neg (by omega)]⟩
def sg (l : List Int) (a b : Nat) : List Int := (l.drop a).take (b - a)
theorem sg_all (l : List Int) {a b : Nat} (h : a ≤ b) : l.take a ++ (sg l a b ++ l.drop b) = l := by
  unfold sg
  rw [show l.drop b = (l.drop a).drop (b - a) from by rw [List.drop_drop]; congr 1; omega, List.take_append_drop, List.take_append_drop]
theorem getq_same {l l' : List Int} (hl : l'.length = l.length) {x : Nat} (h : l'[x]! = l[x]!) : l'[x]? = l[x]? := by
  by_cases hx : x < l.length
  · rw [get_bang hx, get_bang (by omega), h]
  · rw [List.getElem?_eq_none (by omega), List.getElem?_eq_none (by omega)]
theorem Mv.seg {l l' : List Int} {a b : Nat} (h : Mv l l' a b) (hab : a ≤ b) : (sg l' a b).Perm (sg l a b) := by
  have e1 : l'.take a = l.take a := by
    apply List.ext_getElem?
    intro x
    by_cases hx : x < a
    · rw [List.getElem?_take_of_lt hx, List.getElem?_take_of_lt hx]; exact getq_same h.len (h.out x (by omega))
    · rw [List.getElem?_take_eq_none (by omega), List.getElem?_take_eq_none (by omega)]
  have e2 : l'.drop b = l.drop b := by
    apply List.ext_getElem?
    intro x
    rw [List.getElem?_drop, List.getElem?_drop]; exact getq_same h.len (h.out _ (by omega))
  have hp := h.perm
  rw [← sg_all l' hab, ← sg_all l hab, e1, e2] at hp
  exact (List.perm_append_right_iff _).1 ((List.perm_append_left_iff _).1 hp)
theorem sg_get {l : List Int} {a b x : Nat} (h1 : a ≤ x) (h2 : x < b) (hb : b ≤ l.length) : (sg l a b)[x - a]? = some l[x]! := by
  unfold sg
  rw [List.getElem?_take_of_lt (by omega), List.getElem?_drop, show a + (x - a) = x from by omega, get_bang (by omega)]
theorem Mv.mem {l l' : List Int} {a b x : Nat} (h : Mv l l' a b) (hb : b ≤ l.length) (h1 : a ≤ x) (h2 : x < b) : ∃ y, a ≤ y ∧ y < b ∧ l'[x]! = l[y]! := by
  have hm : l'[x]! ∈ sg l a b := (h.seg (by omega)).subset (List.mem_of_getElem? (sg_get h1 h2 (by rw [h.len]; exact hb)))
  obtain ⟨k, hk⟩ := List.getElem?_of_mem hm
  have hkl : k < (sg l a b).length := (List.getElem?_eq_some_iff.1 hk).1
  have hl2 : (sg l a b).length = b - a := by unfold sg; rw [List.length_take, List.length_drop]; omega
  refine ⟨a + k, by omega, by omega, ?_⟩
  have := sg_get (l := l) (a := a) (b := b) (x := a + k) (by omega) (by omega) hb
  rw [show a + k - a = k from by omega, hk] at this
  exact Option.some.inj this
/-- .. wherever x stands. -/
theorem Mv.mem' {l l' : List Int} {a b : Nat} (h : Mv l l' a b) (hb : b ≤ l.length) (x : Nat) : ∃ y, l'[x]! = l[y]! ∧ (y = x ∨ (a ≤ x ∧ x < b ∧ a ≤ y ∧ y < b)) := by
  by_cases hx : a ≤ x ∧ x < b
  · obtain ⟨y, h1, h2, h3⟩ := h.mem hb hx.1 hx.2; exact ⟨y, h3, .inr ⟨hx.1, hx.2, h1, h2⟩⟩
  · exact ⟨x, h.out x hx, .inl rfl⟩
def Up (R : Int → Int → Prop) (l : List Int) (a b : Nat) : Prop := ∀ i j, a ≤ i → i < j → j < b → R l[i]! l[j]!
theorem Up.mv {R : Int → Int → Prop} {l l' : List Int} {a b c d : Nat} (h : Up R l c d) (m : Mv l l' a b) (hd : d ≤ a ∨ b ≤ c) : Up R l' c d := fun i j h1 h2 h3 => by
  rw [m.out i (by omega), m.out j (by omega)]; exact h i j h1 h2 h3
/-- What stands ahead of m is below what stands behind it. -/
def Bnd (l : List Int) (m : Nat) : Prop := ∀ i j, i < m → m ≤ j → j < l.length → l[i]! < l[j]!
theorem Bnd.mv {l l' : List Int} {a b m : Nat} (h : Bnd l m) (k : Mv l l' a b) (hb : b ≤ l.length) (hm : m ≤ a ∨ b ≤ m) : Bnd l' m := fun i j h1 h2 h3 => by
  rw [k.len] at h3
  obtain ⟨i', e1, c1⟩ := k.mem' hb i
  obtain ⟨j', e2, c2⟩ := k.mem' hb j
  rw [e1, e2]
  exact h i' j' (by omega) (by omega) (by omega)
/-- How the comparison goes with the order that is made: where x stood ahead of y (x < y) lt tells. -/
structure Cm (l0 : List Int) (lt R : Int → Int → Prop) : Prop where
  tr : ∀ {x y z}, R x y → R y z → R x z
  c1 : ∀ {x y}, x ∈ l0 → y ∈ l0 → x < y → lt y x → R y x
  c2 : ∀ {x y}, x ∈ l0 → y ∈ l0 → x < y → ¬ lt y x → R x y
theorem mem0 {l l0 : List Int} (h : l.Perm l0) {i : Nat} (hi : i < l.length) : l[i]! ∈ l0 := h.subset (List.mem_of_getElem? (get_bang hi))
/-! ### insertion -/
structure InsS (R : Int → Int → Prop) (p q : List Int) (a i j : Nat) : Prop where
  perm : q.Perm p
  lo : ∀ x, x < j → q[x]! = p[x]!
  at_ : q[j]! = p[i]!
  hi : ∀ x, j < x → x ≤ i → q[x]! = p[x - 1]!
  far : ∀ x, i < x → q[x]! = p[x]!
  past : ∀ x, j ≤ x → x < i → R p[i]! p[x]!
  le : a ≤ j ∧ j ≤ i
theorem ins_start {R : Int → Int → Prop} {p : List Int} {a i : Nat} (h : a ≤ i) : InsS R p p a i i := ⟨List.Perm.refl _, fun _ _ => rfl, rfl, fun x h1 h2 => by omega, fun _ _ => rfl, fun x h1 h2 => by omega, h, Nat.le_refl _⟩
theorem ins_step {l0 p q : List Int} {lt R : Int → Int → Prop} {a i j : Nat} (hc : Cm l0 lt R) (S : InsS R p q a i j) (hp : p.Perm l0) (hi : i < p.length) (hlow : ∀ x, a ≤ x → x < i → p[x]! < p[i]!) (hj : a < j) (h : lt q[j]! q[j - 1]!) : InsS R p (swp q j (j - 1)) a i (j - 1) := by
  have hl := S.perm.length_eq
  have := S.le
  have g : ∀ x, (swp q j (j - 1))[x]! = _ := fun x => swp_get (l := q) (i := j) (j := j - 1) x (by omega) (by omega)
  refine ⟨(swp_perm (by omega) (by omega)).trans S.perm, fun x hx => ?_, ?_, fun x h1 h2 => ?_, fun x hx => ?_, fun x h1 h2 => ?_, by omega, by omega⟩
  · rw [g x, if_neg (by omega), if_neg (by omega)]; exact S.lo x (by omega)
  · rw [g, if_pos rfl]; exact S.at_
  · rw [g x, if_neg (by omega)]
    by_cases e : x = j
    · subst e; rw [if_pos rfl]; exact S.lo _ (by omega)
    · rw [if_neg e]; exact S.hi x (by omega) h2
  · rw [g x, if_neg (by omega), if_neg (by omega)]; exact S.far x hx
  · by_cases e : x = j - 1
    · subst e
      rw [S.at_, S.lo (j - 1) (by omega)] at h
      exact hc.c1 (mem0 hp (by omega)) (mem0 hp hi) (hlow _ (by omega) (by omega)) h
    · exact S.past x (by omega) h2
theorem ins_done {l0 p q : List Int} {lt R : Int → Int → Prop} {a i j : Nat} (hc : Cm l0 lt R) (S : InsS R p q a i j) (hp : p.Perm l0) (hi : i < p.length) (hlow : ∀ x, a ≤ x → x < i → p[x]! < p[i]!) (hu : Up R p a i) (h : j = a ∨ ¬ lt q[j]! q[j - 1]!) : Up R q a (i + 1) := by
  have := S.le
  have hb : a < j → R p[j - 1]! p[i]! := fun hj => by
    rcases h with h | h
    · omega
    · rw [S.at_, S.lo (j - 1) (by omega)] at h
      exact hc.c2 (mem0 hp (by omega)) (mem0 hp hi) (hlow _ (by omega) (by omega)) h
  have hb2 : ∀ x, a ≤ x → x < j → R p[x]! p[i]! := fun x h1 h2 => by
    by_cases e : x = j - 1
    · subst e; exact hb (by omega)
    · exact hc.tr (hu x (j - 1) h1 (by omega) (by omega)) (hb (by omega))
  intro x y h1 h2 h3
  rcases Nat.lt_trichotomy y j with hy | rfl | hy
  · rw [S.lo x (by omega), S.lo y hy]; exact hu x y h1 h2 (by omega)
  · rw [S.lo x h2, S.at_]; exact hb2 x h1 h2
  · rw [S.hi y hy (by omega)]
    rcases Nat.lt_trichotomy x j with hx | rfl | hx
    · rw [S.lo x hx]; exact hu x (y - 1) h1 (by omega) (by omega)
    · rw [S.at_]; exact S.past _ (by omega) (by omega)
    · rw [S.hi x hx (by omega)]; exact hu _ _ (by omega) (by omega) (by omega)
theorem InsS.mv {R : Int → Int → Prop} {p q : List Int} {a i j : Nat} (S : InsS R p q a i j) : Mv p q a (i + 1) := ⟨S.perm, fun x hx => by
  by_cases h : x < j
  · exact S.lo x h
  · have := S.le; exact S.far x (by omega)⟩
/-! ### ranges -/
def swrF (l : List Int) (a b n x : Nat) : Int := if a ≤ x ∧ x < a + n then l[x - a + b]! else if b ≤ x ∧ x < b + n then l[x - b + a]! else l[x]!
theorem swr0 (l : List Int) (a b x : Nat) : l[x]! = swrF l a b 0 x := by unfold swrF; rw [if_neg (by omega), if_neg (by omega)]
theorem swr_step {l q : List Int} {a b n k : Nat} (hp : q.Perm l) (h : ∀ x, q[x]! = swrF l a b k x) (hab : a + n ≤ b) (hk : k < n) (hb : b + n ≤ l.length) : (swp q (a + k) (b + k)).Perm l ∧ ∀ x, (swp q (a + k) (b + k))[x]! = swrF l a b (k + 1) x := by
  have hl := hp.length_eq
  refine ⟨(swp_perm (by omega) (by omega)).trans hp, fun x => ?_⟩
  rw [swp_get x (by omega) (by omega), h, h, h]
  unfold swrF
  by_cases e1 : x = b + k
  · subst e1
    rw [if_pos rfl, if_neg (by omega), if_neg (by omega), if_neg (by omega), if_pos (by omega)]
    congr 1; omega
  · rw [if_neg e1]
    by_cases e2 : x = a + k
    · subst e2
      rw [if_pos rfl, if_neg (by omega), if_neg (by omega), if_pos (by omega)]
      congr 1; omega
    · rw [if_neg e2]
      by_cases c1 : a ≤ x ∧ x < a + k
      · rw [if_pos c1, if_pos (by omega)]
      · rw [if_neg c1, if_neg (show ¬ (a ≤ x ∧ x < a + (k + 1)) from by omega)]
        by_cases c2 : b ≤ x ∧ x < b + k
        · rw [if_pos c2, if_pos (by omega)]
        · rw [if_neg c2, if_neg (by omega)]
def rotF (l : List Int) (a m b x : Nat) : Int := if a ≤ x ∧ x < a + (b - m) then l[x + (m - a)]! else if a + (b - m) ≤ x ∧ x < b then l[x - (b - m)]! else l[x]!
/-- A turn of the rotation's loop: the first part is the longer one. -/
theorem rot_gt {l q : List Int} {m i j : Nat} (hq : ∀ x, q[x]! = swrF l (m - i) m j x) (hij : j < i) (hi : i ≤ m) (hj : 0 < j) (x : Nat) : rotF q (m - (i - j)) m (m + j) x = rotF l (m - i) m (m + j) x := by
  unfold rotF
  rw [show m + j - m = j from by omega]
  by_cases c1 : m - i ≤ x ∧ x < m - i + j
  · rw [if_neg (by omega), if_neg (by omega), if_pos c1, hq]
    unfold swrF
    rw [if_pos c1]; congr 1; omega
  · rw [if_neg c1]
    by_cases c2 : m - (i - j) ≤ x ∧ x < m - (i - j) + j
    · rw [if_pos c2, if_pos (by omega), hq]
      unfold swrF
      rw [if_neg (by omega), if_pos (by omega)]; congr 1; omega
    · rw [if_neg c2]
      by_cases c3 : m - (i - j) + j ≤ x ∧ x < m + j
      · rw [if_pos c3, if_pos (by omega), hq]
        unfold swrF
        rw [if_neg (by omega), if_neg (by omega)]
      · rw [if_neg c3, if_neg (by omega), hq]
        unfold swrF
        rw [if_neg (by omega), if_neg (by omega)]
theorem rot_lt {l q : List Int} {m i j : Nat} (hq : ∀ x, q[x]! = swrF l (m - i) (m + j - i) i x) (hij : i < j) (hi : i ≤ m) (h0 : 0 < i) (x : Nat) : rotF q (m - i) m (m + (j - i)) x = rotF l (m - i) m (m + j) x := by
  unfold rotF
  rw [show m + j - m = j from by omega, show m + (j - i) - m = j - i from by omega]
  by_cases c1 : m - i ≤ x ∧ x < m - i + (j - i)
  · rw [if_pos c1, if_pos (by omega), hq]
    unfold swrF
    by_cases d1 : x + (m - (m - i)) < m + j - i
    · rw [if_neg (by omega), if_neg (by omega)]
    · omega
  · rw [if_neg c1]
    by_cases c2 : m - i + (j - i) ≤ x ∧ x < m + (j - i)
    · rw [if_pos c2, if_pos (by omega), hq]
      unfold swrF
      rw [if_pos (by omega)]; congr 1; omega
    · rw [if_neg c2]
      by_cases c3 : m - i ≤ x ∧ x < m - i + j
      · omega
      · rw [if_neg c3, hq]
        by_cases c4 : m - i + j ≤ x ∧ x < m + j
        · rw [if_pos c4]
          unfold swrF
          rw [if_neg (by omega), if_pos (by omega)]; congr 1; omega
        · rw [if_neg c4]
          unfold swrF
          rw [if_neg (by omega), if_neg (by omega)]
theorem rot_eq {l q : List Int} {m i : Nat} (hq : ∀ x, q[x]! = swrF l (m - i) m i x) (hi : i ≤ m) (x : Nat) : q[x]! = rotF l (m - i) m (m + i) x := by
  rw [hq]
  unfold rotF swrF
  rw [show m + i - m = i from by omega]
  by_cases c1 : m - i ≤ x ∧ x < m - i + i
  · rw [if_pos c1, if_pos c1]; congr 1; omega
  · rw [if_neg c1, if_neg c1]
    by_cases c2 : m ≤ x ∧ x < m + i
    · rw [if_pos c2, if_pos (by omega)]; congr 1; omega
    · rw [if_neg c2, if_neg (by omega)]
/-! ### merges -/
def Crs (l : List Int) (a m b : Nat) : Prop := ∀ i j, a ≤ i → i < m → m ≤ j → j < b → l[i]! < l[j]!
/-- What stood at a, brought to k. -/
def shiF (l : List Int) (a k x : Nat) : Int := if a ≤ x ∧ x < k then l[x + 1]! else if x = k then l[a]! else l[x]!
theorem shi0 (l : List Int) (a x : Nat) : l[x]! = shiF l a a x := by unfold shiF; rw [if_neg (by omega)]; split <;> simp_all
theorem shi_step {l q : List Int} {a k : Nat} (hp : q.Perm l) (h : ∀ x, q[x]! = shiF l a k x) (ha : a ≤ k) (hk : k + 1 < l.length) : (swp q k (k + 1)).Perm l ∧ ∀ x, (swp q k (k + 1))[x]! = shiF l a (k + 1) x := by
  have hl := hp.length_eq
  refine ⟨(swp_perm (by omega) (by omega)).trans hp, fun x => ?_⟩
  rw [swp_get x (by omega) (by omega), h, h, h]
  unfold shiF
  by_cases e1 : x = k + 1
  · subst e1; rw [if_pos rfl, if_neg (by omega), if_pos rfl, if_neg (by omega), if_pos rfl]
  · rw [if_neg e1, if_neg e1]
    by_cases e2 : x = k
    · subst e2; rw [if_pos rfl, if_neg (by omega), if_neg (by omega), if_pos (by omega)]
    · rw [if_neg e2, if_neg e2]
      by_cases c : a ≤ x ∧ x < k
      · rw [if_pos c, if_pos (by omega)]
      · rw [if_neg c, if_neg (by omega)]
theorem shi_up0 {l q : List Int} {R : Int → Int → Prop} {a b i : Nat} (h : ∀ x, q[x]! = shiF l a (i - 1) x) (hi : a + 1 ≤ i ∧ i ≤ b) (hu : Up R l (a + 1) b) (h1 : ∀ x, a + 1 ≤ x → x < i → R l[x]! l[a]!) (h2 : ∀ x, i ≤ x → x < b → R l[a]! l[x]!) : Up R q a b := by
  intro x y hx hxy hy
  rw [h x, h y]
  unfold shiF
  by_cases c1 : a ≤ y ∧ y < i - 1
  · rw [if_pos c1, if_pos (by omega)]; exact hu _ _ (by omega) (by omega) (by omega)
  · rw [if_neg c1]
    by_cases c2 : y = i - 1
    · rw [if_pos c2, if_pos (by omega)]; exact h1 _ (by omega) (by omega)
    · rw [if_neg c2]
      by_cases c3 : x < i - 1
      · rw [if_pos (by omega)]; exact hu _ _ (by omega) (by omega) (by omega)
      · rw [if_neg (by omega)]
        by_cases c4 : x = i - 1
        · rw [if_pos c4]; exact h2 _ (by omega) hy
        · rw [if_neg c4]; exact hu _ _ (by omega) (by omega) (by omega)
theorem shi_up {l q : List Int} {R : Int → Int → Prop} {a m b i : Nat} (hm : m = a + 1) (h : ∀ x, q[x]! = shiF l a (i - 1) x) (hi : m ≤ i ∧ i ≤ b) (hu : Up R l m b) (h1 : ∀ x, m ≤ x → x < i → R l[x]! l[a]!) (h2 : ∀ x, i ≤ x → x < b → R l[a]! l[x]!) : Up R q a b := by subst hm; exact shi_up0 h hi hu h1 h2
theorem shi_mv {l q : List Int} {a b k : Nat} (hp : q.Perm l) (h : ∀ x, q[x]! = shiF l a k x) (hk : a ≤ k ∧ k < b) : Mv l q a b := ⟨hp, fun x hx => by
  rw [h]; unfold shiF; rw [if_neg (by omega), if_neg (by omega)]⟩
/-- What stood at m, brought down to k. -/
def shdF (l : List Int) (m k x : Nat) : Int := if k < x ∧ x ≤ m then l[x - 1]! else if x = k then l[m]! else l[x]!
theorem shd0 (l : List Int) (m x : Nat) : l[x]! = shdF l m m x := by unfold shdF; rw [if_neg (by omega)]; split <;> simp_all
theorem shd_step {l q : List Int} {m k : Nat} (hp : q.Perm l) (h : ∀ x, q[x]! = shdF l m k x) (hk : 0 < k) (hm : k ≤ m) (hl0 : m < l.length) : (swp q k (k - 1)).Perm l ∧ ∀ x, (swp q k (k - 1))[x]! = shdF l m (k - 1) x := by
  have hl := hp.length_eq
  refine ⟨(swp_perm (by omega) (by omega)).trans hp, fun x => ?_⟩
  rw [swp_get x (by omega) (by omega), h, h, h]
  unfold shdF
  by_cases e1 : x = k - 1
  · rw [if_pos e1, if_neg (by omega), if_pos rfl, if_neg (by omega), if_pos e1]
  · rw [if_neg e1, if_neg e1]
    by_cases e2 : x = k
    · subst e2; rw [if_pos rfl, if_neg (by omega), if_neg (by omega), if_pos (by omega)]
    · rw [if_neg e2, if_neg e2]
      by_cases c : k < x ∧ x ≤ m
      · rw [if_pos c, if_pos (by omega)]
      · rw [if_neg c, if_neg (by omega)]
theorem shd_up0 {l q : List Int} {R : Int → Int → Prop} {a m i : Nat} (h : ∀ x, q[x]! = shdF l m i x) (hi : a ≤ i ∧ i ≤ m) (hu : Up R l a m) (h1 : ∀ x, a ≤ x → x < i → R l[x]! l[m]!) (h2 : ∀ x, i ≤ x → x < m → R l[m]! l[x]!) : Up R q a (m + 1) := by
  intro x y hx hxy hy
  rw [h x, h y]
  unfold shdF
  by_cases c1 : i < x ∧ x ≤ m
  · rw [if_pos c1, if_pos (by omega)]; exact hu _ _ (by omega) (by omega) (by omega)
  · rw [if_neg c1]
    by_cases c2 : x = i
    · rw [if_pos c2, if_pos (by omega)]; exact h2 _ (by omega) (by omega)
    · rw [if_neg c2]
      by_cases c3 : i < y
      · rw [if_pos (by omega)]; exact hu _ _ (by omega) (by omega) (by omega)
      · rw [if_neg (by omega)]
        by_cases c4 : y = i
        · rw [if_pos c4]; exact h1 _ (by omega) (by omega)
        · rw [if_neg c4]; exact hu _ _ (by omega) (by omega) (by omega)
theorem shd_up {l q : List Int} {R : Int → Int → Prop} {a m b i : Nat} (hm : b = m + 1) (h : ∀ x, q[x]! = shdF l m i x) (hi : a ≤ i ∧ i ≤ m) (hu : Up R l a m) (h1 : ∀ x, a ≤ x → x < i → R l[x]! l[m]!) (h2 : ∀ x, i ≤ x → x < m → R l[m]! l[x]!) : Up R q a b := by subst hm; exact shd_up0 h hi hu h1 h2
theorem shd_mv0 {l q : List Int} {a m k : Nat} (hp : q.Perm l) (h : ∀ x, q[x]! = shdF l m k x) (hk : a ≤ k ∧ k ≤ m) : Mv l q a (m + 1) := ⟨hp, fun x hx => by
  rw [h]; unfold shdF; rw [if_neg (by omega), if_neg (by omega)]⟩
theorem shd_mv {l q : List Int} {a m b k : Nat} (hm : b = m + 1) (hp : q.Perm l) (h : ∀ x, q[x]! = shdF l m k x) (hk : a ≤ k ∧ k ≤ m) : Mv l q a b := by subst hm; exact shd_mv0 hp h hk
/-- What the search for the middle finds: behind it the rotation, and two merges. -/
structure Mid (R : Int → Int → Prop) (l : List Int) (a m b s e c : Nat) : Prop where
  le : a ≤ s ∧ s ≤ m ∧ m ≤ e ∧ e ≤ b ∧ s + e = c + m ∧ a ≤ c ∧ c ≤ b ∧ s ≤ c ∧ c ≤ e
  lo : a < s → e < b → R l[s - 1]! l[e]!
  hi : s < m → m < e → R l[e - 1]! l[s]!
structure Mid2 (R : Int → Int → Prop) (l : List Int) (a b s e c : Nat) : Prop where
  u1 : Up R l a s
  u2 : Up R l s c
  x1 : Crs l a s c
  u3 : Up R l c e
  u4 : Up R l e b
  x2 : Crs l c e b
  all : ∀ i j, a ≤ i → i < c → c ≤ j → j < b → R l[i]! l[j]!
theorem mid_rot {l0 l q : List Int} {lt R : Int → Int → Prop} {a m b s e c : Nat} (hc : Cm l0 lt R) (M : Mid R l a m b s e c) (h1 : Up R l a m) (h2 : Up R l m b) (hx : Crs l a m b) (hq : ∀ x, q[x]! = rotF l s m e x) : Mid2 R q a b s e c := by
  obtain ⟨p1, p2, p3, p4, p5, p6, p7, p8, p9⟩ := M.le
  have g1 : ∀ x, x < s → q[x]! = l[x]! := fun x h => by rw [hq]; unfold rotF; rw [if_neg (by omega), if_neg (by omega)]
  have g2 : ∀ x, s ≤ x → x < c → q[x]! = l[x + (m - s)]! := fun x h h' => by rw [hq]; unfold rotF; rw [if_pos (by omega)]
  have g3 : ∀ x, c ≤ x → x < e → q[x]! = l[x - (e - m)]! := fun x h h' => by rw [hq]; unfold rotF; rw [if_neg (by omega), if_pos (by omega)]
  have g4 : ∀ x, e ≤ x → q[x]! = l[x]! := fun x h => by rw [hq]; unfold rotF; rw [if_neg (by omega), if_neg (by omega)]
  -- the four parts, each against the next but one
  have r13 : ∀ i j, a ≤ i → i < s → s ≤ j → j < m → R l[i]! l[j]! := fun i j h1' h2' h3' h4' => h1 i j h1' (by omega) h4'
  have r24 : ∀ i j, m ≤ i → i < e → e ≤ j → j < b → R l[i]! l[j]! := fun i j h1' h2' h3' h4' => h2 i j h1' (by omega) h4'
  have r14 : ∀ i j, a ≤ i → i < s → e ≤ j → j < b → R l[i]! l[j]! := fun i j h1' h2' h3' h4' => by
    have r := M.lo (by omega) (by omega)
    have r1 : R l[i]! l[e]! := by
      by_cases hi : i = s - 1
      · rw [hi]; exact r
      · exact hc.tr (h1 i (s - 1) h1' (by omega) (by omega)) r
    by_cases hj : j = e
    · rw [hj]; exact r1
    · exact hc.tr r1 (h2 e j (by omega) (by omega) h4')
  have r23 : ∀ i j, m ≤ i → i < e → s ≤ j → j < m → R l[i]! l[j]! := fun i j h1' h2' h3' h4' => by
    have r := M.hi (by omega) (by omega)
    have r1 : R l[i]! l[s]! := by
      by_cases hi : i = e - 1
      · rw [hi]; exact r
      · exact hc.tr (h2 i (e - 1) h1' (by omega) (by omega)) r
    by_cases hj : j = s
    · rw [hj]; exact r1
    · exact hc.tr r1 (h1 s j (by omega) (by omega) h4')
  refine ⟨fun i j h1' h2' h3' => ?_, fun i j h1' h2' h3' => ?_, fun i j h1' h2' h3' h4' => ?_, fun i j h1' h2' h3' => ?_, fun i j h1' h2' h3' => ?_, fun i j h1' h2' h3' h4' => ?_, fun i j h1' h2' h3' h4' => ?_⟩
  · rw [g1 i (by omega), g1 j (by omega)]; exact h1 i j h1' h2' (by omega)
  · rw [g2 i h1' (by omega), g2 j (by omega) h3']; exact h2 _ _ (by omega) (by omega) (by omega)
  · rw [g1 i (by omega), g2 j h3' h4']; exact hx _ _ h1' (by omega) (by omega) (by omega)
  · rw [g3 i h1' (by omega), g3 j (by omega) h3']; exact h1 _ _ (by omega) (by omega) (by omega)
  · rw [g4 i h1', g4 j (by omega)]; exact h2 i j (by omega) h2' h3'
  · rw [g3 i h1' h2', g4 j h3']; exact hx _ _ (by omega) (by omega) (by omega) h4'
  · by_cases hi : i < s
    · rw [g1 i hi]
      by_cases hj : j < e
      · rw [g3 j h3' hj]; exact r13 _ _ h1' hi (by omega) (by omega)
      · rw [g4 j (by omega)]; exact r14 _ _ h1' hi (by omega) h4'
    · rw [g2 i (by omega) h2']
      by_cases hj : j < e
      · rw [g3 j h3' hj]; exact r23 _ _ (by omega) (by omega) (by omega) (by omega)
      · rw [g4 j (by omega)]; exact r24 _ _ (by omega) (by omega) (by omega) h4'
theorem rot_none {l : List Int} {s m e : Nat} (hs : s ≤ m) (he : m ≤ e) (h : ¬ (s < m ∧ m < e)) (x : Nat) : l[x]! = rotF l s m e x := by
  unfold rotF
  by_cases h1 : s = m
  · subst h1
    by_cases c : s ≤ x ∧ x < s + (e - s)
    · rw [if_pos c, show x + (s - s) = x from by omega]
    · rw [if_neg c, if_neg (by omega)]
  · have : e = m := by omega
    subst this
    rw [if_neg (by omega)]
    split
    · rw [show x - (e - e) = x from by omega]
    · rfl
theorem rot_mv {l q : List Int} {a m b s e : Nat} (hp : q.Perm l) (hq : ∀ x, q[x]! = rotF l s m e x) (h : a ≤ s ∧ s ≤ m ∧ m ≤ e ∧ e ≤ b) : Mv l q a b := ⟨hp, fun x hx => by
  rw [hq]; unfold rotF; rw [if_neg (by omega), if_neg (by omega)]⟩
/-- Both halves merged: the whole. -/
theorem mid_up {R : Int → Int → Prop} {l p q : List Int} {a b c : Nat} (hb : b ≤ l.length) (h0 : a ≤ c ∧ c ≤ b) (hall : ∀ i j, a ≤ i → i < c → c ≤ j → j < b → R l[i]! l[j]!) (m1 : Mv l p a c) (u1 : Up R p a c) (m2 : Mv p q c b) (u2 : Up R q c b) : Up R q a b ∧ Mv l q a b := by
  refine ⟨fun i j h1 h2 h3 => ?_, (m1.wide (Nat.le_refl _) h0.2).trans (m2.wide h0.1 (Nat.le_refl _))⟩
  by_cases hj : j < c
  · rw [m2.out i (by omega), m2.out j (by omega)]; exact u1 i j h1 h2 hj
  · by_cases hi : c ≤ i
    · exact u2 i j hi h2 h3
    · rw [m2.out i (by omega)]
      obtain ⟨i', a1, a2, e1⟩ := m1.mem (by omega) h1 (by omega)
      obtain ⟨j', b1, b2, e2⟩ := m2.mem (by rw [m1.len]; exact hb) (show c ≤ j by omega) h3
      rw [e1, e2, m1.out j' (by omega)]
      exact hall i' j' a1 a2 b1 b2
/-- A step of the search for the middle. -/
def Srh (R : Int → Int → Prop) (l : List Int) (p s0 s r r0 : Nat) : Prop := (∀ x, s0 ≤ x → x < s → R l[x]! l[p - x]!) ∧ ∀ x, r ≤ x → x < r0 → R l[p - x]! l[x]!
theorem Crs.sub {l : List Int} {a m b a' b' : Nat} (h : Crs l a m b) (ha : a ≤ a') (hb : b' ≤ b) : Crs l a' m b' := fun i j h1 h2 h3 h4 => h i j (by omega) h2 h3 (by omega)
theorem srh_no {l0 l : List Int} {lt R : Int → Int → Prop} {a m b p s0 s r r0 c : Nat} (hc : Cm l0 lt R) (hl : l.Perm l0) (hb : b ≤ l.length) (h1 : Up R l a m) (h2 : Up R l m b) (hx : Crs l a m b) (h : Srh R l p s0 s r r0) (g1 : a ≤ s0) (g2 : r0 ≤ m) (g3 : s0 ≤ s) (g4 : c < r) (g5 : r ≤ r0) (g6 : m + r0 ≤ p + 1) (g7 : p - s0 < b) (hs : s ≤ c) (hn : ¬ lt l[p - c]! l[c]!) : Srh R l p s0 (c + 1) r r0 := by
  refine ⟨fun x e1 e2 => ?_, h.2⟩
  have hcc : R l[c]! l[p - c]! := hc.c2 (mem0 hl (by omega)) (mem0 hl (by omega)) (hx c (p - c) (by omega) (by omega) (by omega) (by omega)) hn
  by_cases hxc : x = c
  · subst hxc; exact hcc
  · exact hc.tr (h1 x c (by omega) (by omega) (by omega)) (hc.tr hcc (h2 (p - c) (p - x) (by omega) (by omega) (by omega)))
theorem srh_yes {l0 l : List Int} {lt R : Int → Int → Prop} {a m b p s0 s r r0 c : Nat} (hc : Cm l0 lt R) (hl : l.Perm l0) (hb : b ≤ l.length) (h1 : Up R l a m) (h2 : Up R l m b) (hx : Crs l a m b) (h : Srh R l p s0 s r r0) (g1 : a ≤ s0) (g2 : r0 ≤ m) (g3 : s0 ≤ s) (g4 : c < r) (g5 : r ≤ r0) (g6 : m + r0 ≤ p + 1) (g7 : p - s0 < b) (hs : s ≤ c) (hn : lt l[p - c]! l[c]!) : Srh R l p s0 s c r0 := by
  refine ⟨h.1, fun x e1 e2 => ?_⟩
  have hcc : R l[p - c]! l[c]! := hc.c1 (mem0 hl (by omega)) (mem0 hl (by omega)) (hx c (p - c) (by omega) (by omega) (by omega) (by omega)) hn
  by_cases hxc : x = c
  · subst hxc; exact hcc
  · exact hc.tr (h2 (p - x) (p - c) (by omega) (by omega) (by omega)) (hc.tr hcc (h1 c x (by omega) (by omega) (by omega)))
theorem mid_found {l : List Int} {R : Int → Int → Prop} {a m b s s0 r0 p e c : Nat} (hs : Srh R l p s0 s s r0) (h0 : s0 ≤ s) (h1 : s ≤ r0) (hp : p + 1 = c + m) (hc : c = (a + b) / 2) (he : e = c + m - s) (h : (c < m ∧ s0 = c + m - b ∧ r0 = c) ∨ (m ≤ c ∧ s0 = a ∧ r0 = m)) (am : a < m) (mb : m < b) : Mid R l a m b s e c := by
  refine ⟨by omega, fun h2 h3 => ?_, fun h2 h3 => ?_⟩
  · have := hs.1 (s - 1) (by omega) (by omega)
    rwa [show p - (s - 1) = e from by omega] at this
  · have := hs.2 s (Nat.le_refl _) (by omega)
    rwa [show p - s = e - 1 from by omega] at this
theorem skip_up {l : List Int} {R : Int → Int → Prop} {a s c : Nat} (h1 : Up R l a s) (h2 : Up R l s c) (h : ¬ (a < s ∧ s < c)) (ha : a ≤ s) : Up R l a c := by
  by_cases e : s = a
  · subst e; exact h2
  · exact fun i j e1 e2 e3 => h1 i j e1 e2 (by omega)
theorem Crs.mv {l q : List Int} {a c e b : Nat} (h : Crs l c e b) (m : Mv l q a c) : Crs q c e b := fun i j h1 h2 h3 h4 => by
  rw [m.out i (by omega), m.out j (by omega)]; exact h i j h1 h2 h3 h4
/-- One thing among many: where it goes. -/
theorem bs1_yes0 {l0 l : List Int} {lt R : Int → Int → Prop} {a b h : Nat} (hc : Cm l0 lt R) (hl : l.Perm l0) (hb : b ≤ l.length) (hu : Up R l (a + 1) b) (hx : Crs l a (a + 1) b) (h1 : a + 1 ≤ h) (h2 : h < b) (hlt : lt l[h]! l[a]!) : ∀ x, a + 1 ≤ x → x < h + 1 → R l[x]! l[a]! := fun x e1 e2 => by
  have r : R l[h]! l[a]! := hc.c1 (mem0 hl (by omega)) (mem0 hl (by omega)) (hx a h (by omega) (by omega) h1 h2) hlt
  by_cases e : x = h
  · subst e; exact r
  · exact hc.tr (hu x h e1 (by omega) h2) r
theorem bs1_yes {l0 l : List Int} {lt R : Int → Int → Prop} {a m b h : Nat} (hm : m = a + 1) (hc : Cm l0 lt R) (hl : l.Perm l0) (hb : b ≤ l.length) (hu : Up R l m b) (hx : Crs l a m b) (h1 : m ≤ h) (h2 : h < b) (hlt : lt l[h]! l[a]!) : ∀ x, m ≤ x → x < h + 1 → R l[x]! l[a]! := by subst hm; exact bs1_yes0 hc hl hb hu hx h1 h2 hlt
theorem bs1_no0 {l0 l : List Int} {lt R : Int → Int → Prop} {a b h : Nat} (hc : Cm l0 lt R) (hl : l.Perm l0) (hb : b ≤ l.length) (hu : Up R l (a + 1) b) (hx : Crs l a (a + 1) b) (h1 : a + 1 ≤ h) (h2 : h < b) (hlt : ¬ lt l[h]! l[a]!) : ∀ x, h ≤ x → x < b → R l[a]! l[x]! := fun x e1 e2 => by
  have r : R l[a]! l[h]! := hc.c2 (mem0 hl (by omega)) (mem0 hl (by omega)) (hx a h (by omega) (by omega) h1 h2) hlt
  by_cases e : x = h
  · subst e; exact r
  · exact hc.tr r (hu h x h1 (by omega) e2)
theorem bs1_no {l0 l : List Int} {lt R : Int → Int → Prop} {a m b h : Nat} (hm : m = a + 1) (hc : Cm l0 lt R) (hl : l.Perm l0) (hb : b ≤ l.length) (hu : Up R l m b) (hx : Crs l a m b) (h1 : m ≤ h) (h2 : h < b) (hlt : ¬ lt l[h]! l[a]!) : ∀ x, h ≤ x → x < b → R l[a]! l[x]! := by subst hm; exact bs1_no0 hc hl hb hu hx h1 h2 hlt
theorem bs2_yes0 {l0 l : List Int} {lt R : Int → Int → Prop} {a m h : Nat} (hc : Cm l0 lt R) (hl : l.Perm l0) (hb : m < l.length) (hu : Up R l a m) (hx : Crs l a m (m + 1)) (h1 : a ≤ h) (h2 : h < m) (hlt : lt l[m]! l[h]!) : ∀ x, h ≤ x → x < m → R l[m]! l[x]! := fun x e1 e2 => by
  have r : R l[m]! l[h]! := hc.c1 (mem0 hl (by omega)) (mem0 hl (by omega)) (hx h m h1 h2 (Nat.le_refl _) (by omega)) hlt
  by_cases e : x = h
  · subst e; exact r
  · exact hc.tr r (hu h x h1 (by omega) e2)
theorem bs2_yes {l0 l : List Int} {lt R : Int → Int → Prop} {a m b h : Nat} (hm : b = m + 1) (hc : Cm l0 lt R) (hl : l.Perm l0) (hb : m < l.length) (hu : Up R l a m) (hx : Crs l a m b) (h1 : a ≤ h) (h2 : h < m) (hlt : lt l[m]! l[h]!) : ∀ x, h ≤ x → x < m → R l[m]! l[x]! := by subst hm; exact bs2_yes0 hc hl hb hu hx h1 h2 hlt
theorem bs2_no0 {l0 l : List Int} {lt R : Int → Int → Prop} {a m h : Nat} (hc : Cm l0 lt R) (hl : l.Perm l0) (hb : m < l.length) (hu : Up R l a m) (hx : Crs l a m (m + 1)) (h1 : a ≤ h) (h2 : h < m) (hlt : ¬ lt l[m]! l[h]!) : ∀ x, a ≤ x → x < h + 1 → R l[x]! l[m]! := fun x e1 e2 => by
  have r : R l[h]! l[m]! := hc.c2 (mem0 hl (by omega)) (mem0 hl (by omega)) (hx h m h1 h2 (Nat.le_refl _) (by omega)) hlt
  by_cases e : x = h
  · subst e; exact r
  · exact hc.tr (hu x h e1 (by omega) h2) r
theorem bs2_no {l0 l : List Int} {lt R : Int → Int → Prop} {a m b h : Nat} (hm : b = m + 1) (hc : Cm l0 lt R) (hl : l.Perm l0) (hb : m < l.length) (hu : Up R l a m) (hx : Crs l a m b) (h1 : a ≤ h) (h2 : h < m) (hlt : ¬ lt l[m]! l[h]!) : ∀ x, a ≤ x → x < h + 1 → R l[x]! l[m]! := by subst hm; exact bs2_no0 hc hl hb hu hx h1 h2 hlt
/-! ### blocks -/
structure Blk (R : Int → Int → Prop) (l : List Int) (B : Nat) (a : Nat) : Prop where
  up : ∀ c, B ∣ c → a ≤ c → Up R l c (min (c + B) l.length)
  bnd : ∀ c, B ∣ c → a ≤ c → Bnd l c
structure Blk2 (R : Int → Int → Prop) (l : List Int) (D : Nat) (a : Nat) : Prop where
  up : ∀ c, D ∣ c → c < a → Up R l c (min (c + D) l.length)
  bnd : ∀ c, D ∣ c → Bnd l c
theorem dvd_gap {D c d : Nat} (h1 : D ∣ c) (h2 : D ∣ d) (h : c < d) : c + D ≤ d := by
  have h3 : D ∣ d - c := Nat.dvd_sub h2 h1
  have := Nat.le_of_dvd (by omega) h3
  omega
theorem dvd_two {B c : Nat} (h : 2 * B ∣ c) : B ∣ c := Nat.dvd_trans (Nat.dvd_mul_left B 2) h
theorem blk2_start {R : Int → Int → Prop} {l : List Int} {B : Nat} (h : Blk R l B 0) : Blk2 R l (2 * B) 0 := ⟨fun c _ hc => by omega, fun c hc => h.bnd c (dvd_two hc) (Nat.zero_le _)⟩
/-- A pair of blocks merged. -/
theorem blk_merge {R : Int → Int → Prop} {l q : List Int} {B a b : Nat} (h : Blk R l B a) (h2 : Blk2 R l (2 * B) a) (ha : 2 * B ∣ a) (hB : 0 < B) (hb : b = min (a + 2 * B) l.length) (mv : Mv l q a b) (u : Up R q a b) : Blk R q B (a + 2 * B) ∧ Blk2 R q (2 * B) (a + 2 * B) := by
  have hl := mv.len
  refine ⟨⟨fun c hc h0 => ?_, fun c hc h0 => ?_⟩, ⟨fun c hc h0 => ?_, fun c hc => ?_⟩⟩
  · rw [hl]; exact (h.up c hc (by omega)).mv mv (by omega)
  · by_cases e : c < l.length
    · exact (h.bnd c hc (by omega)).mv mv (by omega) (by omega)
    · intro i j h1 h2 h3; omega
  · rw [hl]
    by_cases e : c = a
    · subst e; rw [← hb]; exact u
    · have h3 : c < a := by
        rcases Nat.lt_trichotomy c a with e1 | e1 | e1
        · exact e1
        · omega
        · have := dvd_gap ha hc e1; omega
      have := dvd_gap hc ha h3
      exact (h2.up c hc h3).mv mv (by omega)
  · by_cases e : c < l.length
    · refine (h2.bnd c hc).mv mv (by omega) ?_
      by_cases e1 : c ≤ a
      · exact .inl e1
      · have := dvd_gap ha hc (by omega); exact .inr (by omega)
    · intro i j h1 h2 h3; omega
/-- All pairs merged; what is left over is one block, or none. -/
theorem blk_all {R : Int → Int → Prop} {l : List Int} {B a : Nat} (h : Blk R l B a) (h2 : Blk2 R l (2 * B) a) (ha : 2 * B ∣ a) (hB : 0 < B) (hn : l.length ≤ a + B) : Blk R l (2 * B) 0 := by
  refine ⟨fun c hc _ => ?_, fun c hc _ => h2.bnd c hc⟩
  rcases Nat.lt_trichotomy c a with e | e | e
  · exact h2.up c hc e
  · subst e
    have := h.up c (dvd_two hc) (Nat.le_refl _)
    rw [show min (c + 2 * B) l.length = min (c + B) l.length from by omega]; exact this
  · intro i j h1 h2 h3
    have := dvd_gap ha hc e
    omega
theorem blk_pre {R : Int → Int → Prop} {l : List Int} {B a b : Nat} (h : Blk R l B a) (ha : 2 * B ∣ a) (hB : 0 < B) (hb : b = min (a + 2 * B) l.length) (hm : a + B < l.length) : Up R l a (a + B) ∧ Up R l (a + B) b ∧ Crs l a (a + B) b := by
  have h1 := h.up a (dvd_two ha) (Nat.le_refl _)
  have hd : B ∣ a + B := Nat.dvd_add (dvd_two ha) (Nat.dvd_refl B)
  have h2 := h.up (a + B) hd (by omega)
  have h3 := h.bnd (a + B) hd (by omega)
  rw [show min (a + B) l.length = a + B from by omega] at h1
  refine ⟨h1, ?_, fun i j e1 e2 e3 e4 => h3 i j e2 e3 (by omega)⟩
  rw [show b = min (a + B + B) l.length from by omega]; exact h2
theorem blk_one {R : Int → Int → Prop} {l : List Int} {B : Nat} (h : Blk R l B 0) (hn : l.length ≤ B) : Up R l 0 l.length := by
  have := h.up 0 (Nat.dvd_zero B) (Nat.le_refl _)
  rwa [show min (0 + B) l.length = l.length from by omega] at this
/-- The first round: blocks of twenty, each put in order. -/
structure Ini (R : Int → Int → Prop) (l0 l : List Int) (a : Nat) : Prop where
  perm : l.Perm l0
  up : ∀ c, 20 ∣ c → c < a → Up R l c (min (c + 20) l.length)
  bnd : ∀ c, 20 ∣ c → Bnd l c
  rest : ∀ i, a ≤ i → l[i]! = l0[i]!
def Inc (l0 : List Int) : Prop := ∀ i j, i < j → j < l0.length → l0[i]! < l0[j]!
theorem ini_start {R : Int → Int → Prop} {l0 : List Int} (h : Inc l0) : Ini R l0 l0 0 := ⟨List.Perm.refl _, fun c _ hc => by omega, fun c _ i j h1 h2 h3 => h i j (by omega) h3, fun _ _ => rfl⟩
theorem ini_low {R : Int → Int → Prop} {l0 l : List Int} {a b : Nat} (h : Ini R l0 l a) (hi : Inc l0) (hb : b ≤ l0.length) : ∀ i j, a ≤ i → i < j → j < b → l[i]! < l[j]! := fun i j h1 h2 h3 => by
  rw [h.rest i h1, h.rest j (by omega)]; exact hi i j h2 (by omega)
theorem ini_step {R : Int → Int → Prop} {l0 l q : List Int} {a b : Nat} (h : Ini R l0 l a) (ha : 20 ∣ a) (hb : b = min (a + 20) l.length) (mv : Mv l q a b) (u : Up R q a b) : Ini R l0 q (a + 20) := by
  have hl := mv.len
  refine ⟨mv.perm.trans h.perm, fun c hc h0 => ?_, fun c hc => ?_, fun i hi => ?_⟩
  · rw [hl]
    by_cases e : c = a
    · subst e; rw [← hb]; exact u
    · have h3 : c < a := by
        rcases Nat.lt_trichotomy c a with e1 | e1 | e1
        · exact e1
        · omega
        · have := dvd_gap ha hc e1; omega
      have := dvd_gap hc ha h3
      exact (h.up c hc h3).mv mv (by omega)
  · by_cases e : c < l.length
    · refine (h.bnd c hc).mv mv (by omega) ?_
      by_cases e1 : c ≤ a
      · exact .inl e1
      · have := dvd_gap ha hc (by omega); exact .inr (by omega)
    · intro i j h1 h2 h3; omega
  · rw [mv.out i (by omega)]; exact h.rest i (by omega)
theorem ini_blk {R : Int → Int → Prop} {l0 l : List Int} {a : Nat} (h : Ini R l0 l a) (ha : l.length ≤ a) : Blk R l 20 0 := by
  refine ⟨fun c hc _ => ?_, fun c hc _ => h.bnd c hc⟩
  by_cases e : c < a
  · exact h.up c hc e
  · intro i j h1 h2 h3; omega
end Go.Proofs.Ytoeholipggkcaaa.K
