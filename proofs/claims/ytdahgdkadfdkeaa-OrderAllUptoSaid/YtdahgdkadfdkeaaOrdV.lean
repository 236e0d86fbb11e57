/- The order by tags, place by place. -/
import Derived.Test.YtdahgdkadfdkeaaOrdU
namespace Go.Proofs.Ytdahgdkadfdkeaa.K
open Go Go.RowKit
set_option linter.unusedVariables false
/-- The last Put of a list. -/
def lfL (l : List GCall) (o : List Int) : Int := o.foldl (fun s x => if l[x.toNat]!.Put = true then x else s) (-1)
theorem lfL_snoc (l : List GCall) (o : List Int) (x : Int) : lfL l (o ++ [x]) = if l[x.toNat]!.Put = true then x else lfL l o := by simp [lfL]
theorem takeI_snoc {o : List Int} {k : Nat} (h : k < o.length) : o.take (k + 1) = o.take k ++ [o[k]!] := by
  rw [List.take_succ_eq_append_getElem h, bang_get h]
theorem lastF_lfL (l : List GCall) (o : List Int) : ∀ k, k ≤ o.length → lastF l o k = lfL l (o.take k)
  | 0, _ => by simp [lastF, lfL]
  | k + 1, h => by
    rw [takeI_snoc (by omega), lfL_snoc, lastF, lastF_lfL l o k (by omega)]; rfl
theorem lfL_gets {l : List GCall} {o : List Int} : ∀ (g : List Int), (∀ x ∈ g, ¬ l[x.toNat]!.Put = true) → lfL l (o ++ g) = lfL l o := by
  intro g
  induction g generalizing o with
  | nil => intro _; rw [List.append_nil]
  | cons x g ih =>
    intro h
    rw [show o ++ x :: g = (o ++ [x]) ++ g from by simp, ih (fun y hy => h y (by simp [hy])), lfL_snoc, if_neg (h x (by simp))]
def Each (C : List Int → Int → Prop) (o : List Int) : Prop := ∀ j, j < o.length → C (o.take j) o[j]!
theorem appI_get {o g : List Int} {j : Nat} (h : j < g.length) : (o ++ g)[o.length + j]! = g[j]! := by
  rw [bang_get (by rw [List.length_append]; omega), bang_get h, List.getElem_append_right (by omega)]
  congr 1; omega
theorem appI_left {o g : List Int} {j : Nat} (h : j < o.length) : (o ++ g)[j]! = o[j]! := by
  rw [bang_get (by rw [List.length_append]; omega), bang_get h, List.getElem_append_left h]
theorem Each.app {C : List Int → Int → Prop} {o g : List Int} (h : Each C o) (k : ∀ j, j < g.length → C (o ++ g.take j) g[j]!) : Each C (o ++ g) := fun j hj => by
  by_cases e : j < o.length
  · rw [appI_left e, List.take_append_of_le_length (by omega)]; exact h j e
  · rw [List.length_append] at hj
    have := k (j - o.length) (by omega)
    rw [show j = o.length + (j - o.length) from by omega, appI_get (by omega), List.take_append]
    rw [List.take_of_length_le (by omega), show o.length + (j - o.length) - o.length = j - o.length from by omega]; exact this
theorem Each.imp {C D : List Int → Int → Prop} {o : List Int} (h : Each C o) (k : ∀ p x, C p x → D p x) : Each D o := fun j hj => k _ _ (h j hj)
theorem gtR_mem {l : List GCall} {Pw : GCall → Prop} {o : List Int} (h : gtR l Pw o) (x : Int) : x ∈ o ↔ ∃ i : Nat, x = (i : Int) ∧ i < l.length ∧ gtP l Pw i := by
  rw [h.1.mem_iff, idxs_mem]
  constructor
  · rintro ⟨i, h1, h2, h3⟩; exact ⟨i, h3, h1, h2⟩
  · rintro ⟨i, h1, h2, h3⟩; exact ⟨i, h2, h3, h1⟩
def isAbs (l : List GCall) (x : Int) : Prop := ∃ i : Nat, x = (i : Int) ∧ i < l.length ∧ gtP l absW i
def isGet (l : List GCall) (m : TgM) (q : List Int) (a : Nat) (x : Int) : Prop := ∃ i : Nat, x = (i : Int) ∧ i < l.length ∧ gtP l (tagW (tagM m q[a]!)) i
def lastQ (q : List Int) (a : Nat) : Int := if a = 0 then -1 else q[a - 1]!
/-- What stands at a place behind a list. -/
def PosC (l : List GCall) (m : TgM) (q : List Int) (n : Nat) (p : List Int) (x : Int) : Prop :=
  (isAbs l x ∧ lfL l p = -1) ∨ ∃ a, a < n ∧ ((x = q[a]! ∧ lfL l p = lastQ q a) ∨ (isGet l m q a x ∧ lfL l p = q[a]!))
def PairC (l : List GCall) (m : TgM) (q : List Int) (n : Nat) (x y : Int) : Prop :=
  (isAbs l x ∧ isAbs l y ∧ stR (frLt l) x y) ∨ (isAbs l x ∧ ∃ b, b < n ∧ (y = q[b]! ∨ isGet l m q b y)) ∨
  (∃ a b, a < b ∧ b < n ∧ (x = q[a]! ∨ isGet l m q a x) ∧ (y = q[b]! ∨ isGet l m q b y)) ∨
  (∃ a, a < n ∧ ((x = q[a]! ∧ isGet l m q a y) ∨ (isGet l m q a x ∧ isGet l m q a y ∧ stR (frLt l) x y)))
theorem PosC.le {l : List GCall} {m : TgM} {q : List Int} {n n' : Nat} {p : List Int} {x : Int} (h : PosC l m q n p x) (hn : n ≤ n') : PosC l m q n' p x := by
  rcases h with h | ⟨a, ha, h⟩
  · exact .inl h
  · exact .inr ⟨a, by omega, h⟩
theorem PairC.le {l : List GCall} {m : TgM} {q : List Int} {n n' : Nat} {x y : Int} (h : PairC l m q n x y) (hn : n ≤ n') : PairC l m q n' x y := by
  rcases h with h | ⟨h, b, hb, h'⟩ | ⟨a, b, h1, h2, h3⟩ | ⟨a, h1, h2⟩
  · exact .inl h
  · exact .inr (.inl ⟨h, b, by omega, h'⟩)
  · exact .inr (.inr (.inl ⟨a, b, h1, by omega, h3⟩))
  · exact .inr (.inr (.inr ⟨a, by omega, h2⟩))
section
variable {l : List GCall} {m : TgM} {q : List Int}
/-- A Put that is in. -/
theorem ByOk.put (B : ByOk l m q) (hf : fitP l) {a : Nat} (ha : a < q.length) : ∃ (i : Nat) (t : GTag), q[a]! = (i : Int) ∧ i < l.length ∧ TkP l i t ∧ tagM m q[a]! = t ∧ l[(q[a]!).toNat]!.Put = true := by
  obtain ⟨i, t, e, ht⟩ := (B.mem q[a]!).1 (List.mem_of_getElem? (get_bang ha))
  refine ⟨i, t, e, tk_lt ht, ht, by rw [e]; exact B.tag i t ht, ?_⟩
  rw [e]
  show l[i]!.Put = true
  rcases ht with h | h
  · exact h.2.1.1
  · obtain ⟨j, e1, e2, e3, _⟩ := asg_at h
    have : i = j := by omega
    subst this
    exact ((hf i e2).2.2.2.1.1 e3.1).1
theorem get_not {Pw : GCall → Prop} {x : Int} (h : ∃ i : Nat, x = (i : Int) ∧ i < l.length ∧ gtP l Pw i) : ¬ l[x.toNat]!.Put = true := by
  obtain ⟨i, rfl, _, h1, _⟩ := h; exact h1
theorem byL_pos (B : ByOk l m q) (hf : fitP l) {n : Nat} {out : List Int} (h : byL l m q n out) (hn : n ≤ q.length) : Each (PosC l m q n) out ∧ lfL l out = lastQ q n := by
  induction h with
  | @zero o h =>
    have hg : ∀ x ∈ o, ¬ l[x.toNat]!.Put = true := fun x hx => get_not ((gtR_mem h x).1 hx)
    have h0 : ∀ p : List Int, (∀ x ∈ p, x ∈ o) → lfL l p = -1 := fun p hp => by
      have := lfL_gets (l := l) (o := []) p (fun x hx => hg x (hp x hx))
      rw [List.nil_append] at this; exact this
    exact ⟨fun j hj => .inl ⟨(gtR_mem h _).1 (List.mem_of_getElem? (get_bang hj)), h0 _ fun x hx => List.mem_of_mem_take hx⟩, h0 o fun x hx => hx⟩
  | @succ n o g h hg ih =>
    obtain ⟨h1, h2⟩ := ih (by omega)
    obtain ⟨i, t, e1, e2, e3, e4, e5⟩ := B.put hf (show n < q.length by omega)
    have hgn : ∀ x ∈ g, ¬ l[x.toNat]!.Put = true := fun x hx => get_not ((gtR_mem hg x).1 hx)
    have h3 : lfL l (o ++ [q[n]!]) = q[n]! := by rw [lfL_snoc, if_pos e5]
    refine ⟨?_, ?_⟩
    · refine Each.app (Each.app (h1.imp fun p x hx => hx.le (by omega)) fun j hj => ?_) fun j hj => ?_
      · obtain rfl : j = 0 := by simp at hj; omega
        exact .inr ⟨n, by omega, .inl ⟨rfl, by simpa using h2⟩⟩
      · exact .inr ⟨n, by omega, .inr ⟨(gtR_mem hg _).1 (List.mem_of_getElem? (get_bang hj)), by rw [lfL_gets _ fun x hx => hgn x (List.mem_of_mem_take hx)]; exact h3⟩⟩
    · rw [lfL_gets g hgn, h3]; unfold lastQ; rw [if_neg (by omega)]; rfl
theorem byL_mem {n : Nat} {out : List Int} (h : byL l m q n out) (x : Int) : x ∈ out ↔ isAbs l x ∨ ∃ a, a < n ∧ (x = q[a]! ∨ isGet l m q a x) := by
  induction h with
  | zero h =>
    rw [gtR_mem h]
    constructor
    · exact .inl
    · rintro (h | ⟨a, ha, _⟩)
      · exact h
      · omega
  | @succ n o g _ hg ih =>
    rw [List.mem_append, List.mem_append, ih, List.mem_singleton, gtR_mem hg]
    constructor
    · rintro ((h | h) | h)
      · rcases h with h | ⟨a, ha, h⟩
        · exact .inl h
        · exact .inr ⟨a, by omega, h⟩
      · exact .inr ⟨n, by omega, .inl h⟩
      · exact .inr ⟨n, by omega, .inr h⟩
    · rintro (h | ⟨a, ha, h⟩)
      · exact .inl (.inl (.inl h))
      · by_cases e : a = n
        · subst e
          rcases h with h | h
          · exact .inl (.inr h)
          · exact .inr h
        · exact .inl (.inl (.inr ⟨a, by omega, h⟩))
theorem byL_pair {n : Nat} {out : List Int} (h : byL l m q n out) : out.Pairwise (PairC l m q n) := by
  induction h with
  | @zero o h =>
    rw [List.pairwise_iff_getElem]
    intro i j hi hj hij
    have := List.pairwise_iff_getElem.1 (up_pairwise h.2) i j hi hj hij
    exact .inl ⟨(gtR_mem h _).1 (List.getElem_mem hi), (gtR_mem h _).1 (List.getElem_mem hj), this⟩
  | @succ n o g h hg ih =>
    rw [List.pairwise_append, List.pairwise_append]
    refine ⟨⟨ih.imp fun hp => hp.le (by omega), by simp, ?_⟩, ?_, ?_⟩
    · intro x hx y hy
      rw [List.mem_singleton] at hy
      subst hy
      rcases (byL_mem h x).1 hx with hx | ⟨a, ha, hx⟩
      · exact .inr (.inl ⟨hx, n, by omega, .inl rfl⟩)
      · exact .inr (.inr (.inl ⟨a, n, ha, by omega, hx, .inl rfl⟩))
    · rw [List.pairwise_iff_getElem]
      intro i j hi hj hij
      have := List.pairwise_iff_getElem.1 (up_pairwise hg.2) i j hi hj hij
      exact .inr (.inr (.inr ⟨n, by omega, .inr ⟨(gtR_mem hg _).1 (List.getElem_mem hi), (gtR_mem hg _).1 (List.getElem_mem hj), this⟩⟩))
    · intro x hx y hy
      have hy' : isGet l m q n y := (gtR_mem hg y).1 hy
      rcases List.mem_append.1 hx with hx | hx
      · rcases (byL_mem h x).1 hx with hx | ⟨a, ha, hx⟩
        · exact .inr (.inl ⟨hx, n, by omega, .inr hy'⟩)
        · exact .inr (.inr (.inl ⟨a, n, ha, by omega, hx, .inr hy'⟩))
      · rw [List.mem_singleton] at hx
        exact .inr (.inr (.inr ⟨n, by omega, .inl ⟨hx, hy'⟩⟩))
theorem get_ne_put {x : Int} (hf : fitP l) (B : ByOk l m q) {a b : Nat} (hb : b < q.length) (h : isGet l m q a x) : ¬ x = q[b]! := fun e => by
  obtain ⟨i, t, e1, e2, e3, e4, e5⟩ := B.put hf hb
  exact get_not h (by rw [e]; exact e5)
theorem abs_ne_put {x : Int} (hf : fitP l) (B : ByOk l m q) {b : Nat} (hb : b < q.length) (h : isAbs l x) : ¬ x = q[b]! := fun e => by
  obtain ⟨i, t, e1, e2, e3, e4, e5⟩ := B.put hf hb
  exact get_not h (by rw [e]; exact e5)
theorem abs_ne_get {x : Int} {a : Nat} (h : isAbs l x) : ¬ isGet l m q a x := by
  obtain ⟨i, rfl, _, _, _, h1⟩ := h
  rintro ⟨j, e, _, _, _, h2, _⟩
  have : i = j := by omega
  subst this
  unfold absW at h1
  omega
theorem get_one {x : Int} (B : ByOk l m q) {a b : Nat} (hab : a < b) (hb : b < q.length) (h : isGet l m q a x) : ¬ isGet l m q b x := by
  obtain ⟨i, rfl, _, _, _, _, h1, h2⟩ := h
  rintro ⟨j, e, _, _, _, _, h3, h4⟩
  have : i = j := by omega
  subst this
  have := cmp_lt.1 (B.up a b hab hb)
  omega
theorem put_ne (B : ByOk l m q) {a b : Nat} (hab : a < b) (hb : b < q.length) : ¬ q[a]! = q[b]! := fun e => by
  have := cmp_lt.1 (B.up a b hab hb)
  rw [e] at this; omega
theorem PairC.ne (hf : fitP l) (B : ByOk l m q) {n : Nat} (hn : n ≤ q.length) {x y : Int} (h : PairC l m q n x y) : x ≠ y := by
  rintro rfl
  rcases h with ⟨_, _, h⟩ | ⟨h, b, hb, h' | h'⟩ | ⟨a, b, h1, h2, h3, h4⟩ | ⟨a, h1, ⟨h2, h3⟩ | ⟨_, _, h⟩⟩
  · exact stR_asym (frLt_wk l) h h
  · exact abs_ne_put hf B (by omega) h h'
  · exact abs_ne_get h h'
  · rcases h3 with h3 | h3
    · rcases h4 with h4 | h4
      · exact put_ne B h1 (by omega) (h3.symm.trans h4)
      · exact get_ne_put hf B (by omega) h4 h3
    · rcases h4 with h4 | h4
      · exact get_ne_put hf B (by omega) h3 h4
      · exact get_one B h1 (by omega) h3 h4
  · exact get_ne_put hf B (by omega) h3 h2
  · exact stR_asym (frLt_wk l) h h
theorem byL_nodup (hf : fitP l) (B : ByOk l m q) {n : Nat} (hn : n ≤ q.length) {out : List Int} (h : byL l m q n out) : out.Nodup := by
  rw [List.nodup_iff_pairwise_ne]
  exact (byL_pair h).imp fun hp => hp.ne hf B hn
/-- Every call that must be in is in. -/
theorem byL_due (hf : fitP l) (G : GoodT l) (B : ByOk l m q) {out : List Int} (h : byL l m q q.length out) {i : Nat} (hi : i < l.length) (hd : dueP l[i]!) : (i : Int) ∈ out := by
  rw [byL_mem h]
  have hpos : ∀ j t, TkP l j t → ∃ a, a < q.length ∧ q[a]! = (j : Int) := fun j t ht => by
    obtain ⟨a, ha⟩ := List.getElem?_of_mem ((B.mem (j : Int)).2 ⟨j, t, rfl, ht⟩)
    have hal := (List.getElem?_eq_some_iff.1 ha).1
    rw [get_bang hal] at ha
    exact ⟨a, hal, Option.some.inj ha⟩
  rcases hd with ⟨hp, ho⟩ | ⟨hp, ht, hs⟩
  · obtain ⟨a, ha, e⟩ := hpos i l[i]!.Tag (.inl ⟨hi, ⟨hp, .inl ho⟩, rfl, .inl ho⟩)
    exact .inr ⟨a, ha, .inl e.symm⟩
  · rcases hs with hs | hs
    · have hr : rdC l[i]! := ⟨hp, .inr ⟨hp, ht, .inl hs⟩, hs⟩
      obtain ⟨j, hj⟩ := G.cov l[i]!.Tag ⟨i, hi, hr, rfl⟩
      obtain ⟨a, ha, e⟩ := hpos j _ hj
      refine .inr ⟨a, ha, .inr ⟨i, rfl, hi, hp, .inr ⟨hp, ht, .inl hs⟩, hs, ?_⟩⟩
      rw [e, B.tag j _ hj]; exact ⟨rfl, rfl⟩
    · exact .inl ⟨i, rfl, hi, hp, .inr ⟨hp, ht, .inr hs⟩, hs⟩
/-- .. and whatever is in is a call that may be. -/
theorem byL_part (hf : fitP l) (B : ByOk l m q) {n : Nat} (hn : n ≤ q.length) {out : List Int} (h : byL l m q n out) {x : Int} (hx : x ∈ out) : ∃ i : Nat, x = (i : Int) ∧ i < l.length ∧ (dueP l[i]! ∨ l[i]!.Open = true) := by
  rcases (byL_mem h x).1 hx with ⟨i, e, hi, _, hd, _⟩ | ⟨a, ha, h | ⟨i, e, hi, _, hd, _⟩⟩
  · exact ⟨i, e, hi, .inl hd⟩
  · obtain ⟨i, t, e1, e2, e3, e4, e5⟩ := B.put hf (show a < q.length by omega)
    refine ⟨i, h.trans e1, e2, ?_⟩
    rw [e1] at e5
    have e5 : l[i]!.Put = true := e5
    by_cases ho : l[i]!.Open = true
    · exact .inr ho
    · exact .inl (.inl ⟨e5, ho⟩)
  · exact ⟨i, e, hi, .inl hd⟩
theorem byL_whole (hf : fitP l) (G : GoodT l) (B : ByOk l m q) {out : List Int} (h : byL l m q q.length out) : wholeP l out := by
  have hnd := byL_nodup hf B (Nat.le_refl _) h
  refine ⟨fun j hj => ?_, fun i hi hd => ?_⟩
  · obtain ⟨i, e, hi, hp⟩ := byL_part hf B (Nat.le_refl _) h (List.mem_of_getElem? (get_bang hj))
    refine ⟨by omega, by omega, by unfold atO; rw [e]; exact hp, fun k hk e2 => ?_⟩
    rw [bang_get (by omega), bang_get hj] at e2
    exact List.pairwise_iff_getElem.1 (List.nodup_iff_pairwise_ne.1 hnd) k j (by omega) hj hk e2
  · obtain ⟨j, hj⟩ := List.getElem?_of_mem (byL_due hf G B h hi hd)
    have hjl := (List.getElem?_eq_some_iff.1 hj).1
    rw [get_bang hjl] at hj
    exact ⟨j, hjl, Option.some.inj hj⟩
end
theorem begF_one' {l : List GCall} {o : List Int} : ∀ k, begF l o k = -1 ∨ ∃ j, j < k ∧ begF l o k = (atO l o j).From
  | 0 => .inl rfl
  | k + 1 => by
    unfold begF
    by_cases h : begF l o k ≤ (atO l o k).From
    · exact .inr ⟨k, by omega, by omega⟩
    · rcases begF_one' (l := l) (o := o) k with e | ⟨j, hj, e⟩
      · exact .inl (by omega)
      · exact .inr ⟨j, by omega, by omega⟩
end Go.Proofs.Ytdahgdkadfdkeaa.K
