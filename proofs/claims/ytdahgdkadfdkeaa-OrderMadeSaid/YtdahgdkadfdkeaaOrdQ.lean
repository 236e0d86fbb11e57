/- Calls that took effect one at a time: the order by tags explains them; what does not. -/
import Derived.Test.YtdahgdkadfdkeaaOrdT
import Derived.Test.YtdahgdkadfdkeaaOrdV
import Derived.Test.YtdahgdkadfdkeaaCoreY
namespace Go.Proofs.Ytdahgdkadfdkeaa.K
open Go Go.RowKit
set_option linter.unusedVariables false
theorem tgI_inj {i j : Nat} (h : tgI i = tgI j) : i = j := by unfold tgI at h; cases h; omega
theorem tgI_ne (i : Nat) : ¬ tgI i = tag0 := by intro h; unfold tgI at h; cases h
section
variable {l : List GCall}
theorem His.put {i : Nat} (h : His l) (hi : i < l.length) (hp : l[i]!.Put = true) : l[i]!.Client = 100 + (i : Int) ∧ l[i]!.Status = 0 ∧ ((¬ l[i]!.Open = true ∧ l[i]!.Tag = tgI i) ∨ (l[i]!.Open = true ∧ (l[i]!.Tag = tgI i ∨ l[i]!.Tag = tag0))) := by
  obtain ⟨_, c, _, p, _⟩ := h i hi
  obtain ⟨s, q⟩ := p hp
  refine ⟨c, s, ?_⟩
  rcases q with ⟨q1, _, q2⟩ | ⟨q1, _, q2⟩
  · exact .inl ⟨q1, q2⟩
  · exact .inr ⟨q1, q2⟩
theorem His.client {i : Nat} (h : His l) (hi : i < l.length) : l[i]!.Client = 100 + (i : Int) := (h i hi).2.1
theorem His.own {i : Nat} (h : His l) (hi : i < l.length) (ho : ownA l[i]!) : l[i]!.Tag = tgI i := by
  rcases (h.put hi ho.1).2.2 with q | ⟨q1, q2 | q2⟩
  · exact q.2
  · exact q2
  · rcases ho.2 with z | z
    · exact absurd q1 z
    · rw [q2] at z; exact absurd ⟨rfl, rfl⟩ z
theorem lpI_put {p : Nat} : ∀ k, lpI l k = (p : Int) → p < k ∧ l[p]!.Put = true ∧ ∀ j, p < j → j < k → ¬ l[j]!.Put = true
  | 0, h => by unfold lpI at h; omega
  | k + 1, h => by
    unfold lpI at h
    by_cases hk : l[k]!.Put = true
    · rw [if_pos hk] at h
      obtain rfl : k = p := by omega
      exact ⟨by omega, hk, fun j h1 h2 => by omega⟩
    · rw [if_neg hk] at h
      obtain ⟨a, b, c⟩ := lpI_put k h
      refine ⟨by omega, b, fun j h1 h2 => ?_⟩
      by_cases e : j = k
      · subst e; exact hk
      · exact c j h1 (by omega)
theorem lpI_none : ∀ k, lpI l k = -1 → ∀ j, j < k → ¬ l[j]!.Put = true
  | 0, _, j, hj => by omega
  | k + 1, h, j, hj => by
    unfold lpI at h
    by_cases hk : l[k]!.Put = true
    · rw [if_pos hk] at h; omega
    · rw [if_neg hk] at h
      by_cases e : j = k
      · subst e; exact hk
      · exact lpI_none k h j (by omega)
/-- A Get that tells a value. -/
theorem His.read {i : Nat} (h : His l) (hi : i < l.length) (hp : ¬ l[i]!.Put = true) (hs : l[i]!.Status = 0) : ∃ p : Nat, lpI l i = (p : Int) ∧ p < i ∧ l[p]!.Put = true ∧ (∀ j, p < j → j < i → ¬ l[j]!.Put = true) ∧ l[i]!.Value = l[p]!.Value ∧ l[i]!.Tag = tgI p ∧ ¬ l[i]!.Open = true := by
  obtain ⟨_, _, _, _, g⟩ := h i hi
  obtain ⟨g1, _, g2⟩ := g hp
  rcases g2 with ⟨_, g3, _⟩ | ⟨g3, _, g4, g5⟩
  · omega
  · have e : lpI l i = ((lpI l i).toNat : Int) := by omega
    obtain ⟨a, b, c⟩ := lpI_put i e
    exact ⟨(lpI l i).toNat, e, a, b, c, g4, g5, g1⟩
theorem His.abs {i : Nat} (h : His l) (hi : i < l.length) (hp : ¬ l[i]!.Put = true) (hs : l[i]!.Status = 76) : lpI l i = -1 ∧ l[i]!.Tag = tag0 ∧ ¬ l[i]!.Open = true := by
  obtain ⟨_, _, _, _, g⟩ := h i hi
  obtain ⟨g1, _, g2⟩ := g hp
  rcases g2 with ⟨g3, _, g4⟩ | ⟨_, g3, _⟩
  · exact ⟨g3, g4, g1⟩
  · omega
theorem His.wan (h : His l) {k : Nat} (hk : k ≤ l.length) {t : GTag} (w : wan l k t) : ∃ p : Nat, p < l.length ∧ l[p]!.Put = true ∧ t = tgI p := by
  obtain ⟨j, h1, ⟨h2, _, h3⟩, h4⟩ := w
  obtain ⟨p, _, e2, e3, _, _, e4, _⟩ := h.read (by omega) h2 h3
  exact ⟨p, by omega, e3, by rw [← h4, e4]⟩
theorem His.tk (h : His l) {i : Nat} {t : GTag} (ht : TkP l i t) : t = tgI i ∧ i < l.length ∧ l[i]!.Put = true := by
  rcases ht with ⟨h1, h2, h3, _⟩ | ha
  · exact ⟨by rw [h3]; exact h.own h1 h2, h1, h2.1⟩
  · obtain ⟨j, e1, e2, e3, _⟩ := asg_at ha
    obtain rfl : i = j := by omega
    obtain ⟨p, hp, hpp, rfl⟩ := h.wan (Nat.le_refl _) ha.1
    have hc := h.client e2
    have hc2 : l[i]!.Client = 100 + (p : Int) := e3.2.2
    obtain rfl : i = p := by omega
    exact ⟨rfl, e2, hpp⟩
theorem His.good (h : His l) (h12 : l.length ≤ 12) : GoodT l := by
  refine ⟨?_, fun i t ht => ?_, fun i j t hi hj => ?_, fun t ht => ?_⟩
  · rintro ⟨i, t, t', e, a, b⟩
    obtain ⟨j, e1, _⟩ := asg_at a
    subst e1
    exact e ((h.tk (.inr a)).1.trans (h.tk (.inr b)).1.symm)
  · obtain ⟨rfl, hi, _⟩ := h.tk ht
    unfold tgI tagProper
    exact ⟨by dsimp only; omega, by dsimp only; omega, by dsimp only; omega, by dsimp only; omega⟩
  · exact tgI_inj ((h.tk hi).1.symm.trans (h.tk hj).1)
  · obtain ⟨p, hp, hpp, rfl⟩ := h.wan (Nat.le_refl _) ht
    by_cases ho : ownA l[p]!
    · exact ⟨p, .inl ⟨hp, ho, (h.own hp ho).symm, .inr ht⟩⟩
    · have hz : l[p]!.Open = true ∧ l[p]!.Tag = tag0 := by
        rcases (h.put hp hpp).2.2 with q | ⟨q1, q2 | q2⟩
        · exact absurd ⟨hpp, .inl q.1⟩ ho
        · refine absurd ⟨hpp, .inr fun z => ?_⟩ ho
          rw [q2] at z; unfold tgI at z; have := z.1; dsimp only at this; omega
        · exact ⟨q1, q2⟩
      refine ⟨p, .inr ⟨ht, ?_, ?_, by omega⟩⟩
      · rintro ⟨j, hj, hjo, e⟩
        rw [h.own hj hjo] at e
        obtain rfl := tgI_inj e
        exact ho hjo
      · have hcl := h.client hp
        have hl : lopP l (tgI p).Client p := ⟨hz.1, by rw [hz.2]; exact ⟨rfl, rfl⟩, hcl⟩
        rcases lastP_spec l (tgI p).Client l.length with ⟨_, q⟩ | ⟨j, e1, e2, e3, e4⟩
        · exact absurd hl (q p hp)
        · have hcj := h.client e1
          have hcj2 : l[j]!.Client = 100 + (p : Int) := e3.2.2
          obtain rfl : j = p := by omega
          exact e2
/-- What ByTags answers of them. -/
def byH (l : List GCall) (out : List Int) : Prop := ∃ m q, ByOk l m q ∧ byL l m q q.length out
theorem his_by (h : His l) (h12 : l.length ≤ 12) {out : List Int} {e : Int} (hb : byR l out e) : e = 0 ∧ byH l out := by
  rcases byR_spec hb with ⟨q, _⟩ | ⟨_, q, _⟩ | ⟨_, _, q, m, p, B, hl⟩
  · exact absurd h.fit q
  · exact absurd (h.good h12) q
  · exact ⟨q, m, p, B, hl⟩
section
variable {m : TgM} {q : List Int}
theorem His.qq (h : His l) (B : ByOk l m q) {a : Nat} (ha : a < q.length) : ∃ i : Nat, q[a]! = (i : Int) ∧ i < l.length ∧ l[i]!.Put = true ∧ tagM m q[a]! = tgI i := by
  obtain ⟨i, t, e1, e2, e3, e4, e5⟩ := B.put h.fit ha
  obtain ⟨rfl, _, hp⟩ := h.tk e3
  exact ⟨i, e1, e2, hp, e4⟩
theorem His.qlt (h : His l) (B : ByOk l m q) {a b : Nat} (hab : a < b) (hb : b < q.length) : q[a]! < q[b]! := by
  obtain ⟨i, e1, _, _, e2⟩ := h.qq B (show a < q.length by omega)
  obtain ⟨j, e3, _, _, e4⟩ := h.qq B hb
  have := cmp_lt.1 (B.up a b hab hb)
  rw [e2, e4] at this
  unfold tgI at this
  dsimp only at this
  omega
/-- A Get in a group. -/
theorem His.get (h : His l) (B : ByOk l m q) {a : Nat} (ha : a < q.length) {x : Int} (hx : isGet l m q a x) : ∃ i p : Nat, x = (i : Int) ∧ q[a]! = (p : Int) ∧ i < l.length ∧ ¬ l[i]!.Put = true ∧ l[i]!.Status = 0 ∧ lpI l i = (p : Int) ∧ p < i ∧ (∀ j, p < j → j < i → ¬ l[j]!.Put = true) ∧ l[i]!.Value = l[p]!.Value ∧ l[i]!.Tag = tgI p ∧ ¬ l[i]!.Open = true := by
  obtain ⟨i, rfl, hi, hp, _, hs, ht1, ht2⟩ := hx
  obtain ⟨p, e1, e2, e3, e4, e5, e6, e7⟩ := h.read hi hp hs
  obtain ⟨p', f1, f2, f3, f4⟩ := h.qq B ha
  have : l[i]!.Tag = tagM m q[a]! := tag_ext ht1 ht2
  rw [e6, f4] at this
  obtain rfl := tgI_inj this
  exact ⟨i, p, rfl, f1, hi, hp, hs, e1, e2, e4, e5, e6, e7⟩
theorem His.absI (h : His l) {x : Int} (hx : isAbs l x) : ∃ i : Nat, x = (i : Int) ∧ i < l.length ∧ ¬ l[i]!.Put = true ∧ lpI l i = -1 ∧ l[i]!.Tag = tag0 ∧ ¬ l[i]!.Open = true := by
  obtain ⟨i, rfl, hi, hp, _, hs⟩ := hx
  obtain ⟨a, b, c⟩ := h.abs hi hp hs
  exact ⟨i, rfl, hi, hp, a, b, c⟩
theorem no_put_lt {i j : Nat} (h : lpI l i = -1) (hj : l[j]!.Put = true) (hi : ¬ l[i]!.Put = true) : i < j := by
  rcases Nat.lt_trichotomy i j with q | q | q
  · exact q
  · subst q; exact absurd hj hi
  · exact absurd hj (lpI_none i h j q)
/-- What stands ahead of what. -/
theorem His.pair (h : His l) (B : ByOk l m q) {x y : Int} (hp : PairC l m q q.length x y) : ∃ i j : Nat, x = (i : Int) ∧ y = (j : Int) ∧ i < l.length ∧ j < l.length ∧ (i < j ∨ l[i]!.From ≤ l[j]!.From) := by
  have fr : ∀ {i j : Nat}, stR (frLt l) (i : Int) (j : Int) → l[i]!.From ≤ l[j]!.From := fun {i j} hs => by
    rcases hs with hs | ⟨hs, _⟩
    · have : l[((i : Int)).toNat]!.From < l[((j : Int)).toNat]!.From := hs
      exact Int.le_of_lt this
    · have : ¬ l[((j : Int)).toNat]!.From < l[((i : Int)).toNat]!.From := hs
      exact Int.not_lt.1 this
  rcases hp with ⟨hx, hy, hs⟩ | ⟨hx, b, hb, hy⟩ | ⟨a, b, hab, hb, hx, hy⟩ | ⟨a, ha, ⟨hx, hy⟩ | ⟨hx, hy, hs⟩⟩
  · obtain ⟨i, rfl, hi, _⟩ := h.absI hx
    obtain ⟨j, rfl, hj, _⟩ := h.absI hy
    exact ⟨i, j, rfl, rfl, hi, hj, .inr (fr hs)⟩
  · obtain ⟨i, rfl, hi, hpi, hl, _⟩ := h.absI hx
    rcases hy with rfl | hy
    · obtain ⟨j, e, hj, hpj, _⟩ := h.qq B hb
      exact ⟨i, j, rfl, e, hi, hj, .inl (no_put_lt hl hpj hpi)⟩
    · obtain ⟨j, p, rfl, e, hj, _, _, hlp, hpj, _⟩ := h.get B hb hy
      have hpp := (lpI_put j hlp).2.1
      have := no_put_lt hl hpp hpi
      exact ⟨i, j, rfl, rfl, hi, hj, .inl (by omega)⟩
  · have hq := h.qlt B hab hb
    have hx2 : ∃ i p : Nat, x = (i : Int) ∧ q[a]! = (p : Int) ∧ i < l.length ∧ p ≤ i ∧ (∀ j, p < j → j ≤ i → ¬ l[j]!.Put = true) := by
      rcases hx with rfl | hx
      · obtain ⟨i, e, hi, hpi, _⟩ := h.qq B (show a < q.length by omega)
        exact ⟨i, i, e, e, hi, Nat.le_refl _, fun j h1 h2 => by omega⟩
      · obtain ⟨i, p, rfl, e, hi, hpi, _, hlp, hpj, hno, _⟩ := h.get B (show a < q.length by omega) hx
        exact ⟨i, p, rfl, e, hi, by omega, fun j h1 h2 => by by_cases e : j = i; subst e; exact hpi; exact hno j h1 (by omega)⟩
    obtain ⟨i, p, rfl, e1, hi, hpi, hno⟩ := hx2
    rcases hy with rfl | hy
    · obtain ⟨j, e, hj, hpj, _⟩ := h.qq B hb
      refine ⟨i, j, rfl, e, hi, hj, .inl ?_⟩
      exact Nat.lt_of_not_le fun z => hno j (by omega) z hpj
    · obtain ⟨j, p2, rfl, e, hj, _, _, hlp, hpj, _⟩ := h.get B hb hy
      have hpp := (lpI_put j hlp).2.1
      have : i < p2 := Nat.lt_of_not_le fun z => hno p2 (by omega) z hpp
      exact ⟨i, j, rfl, rfl, hi, hj, .inl (by omega)⟩
  · obtain ⟨j, p, rfl, e, hj, _, _, _, hpj, _⟩ := h.get B ha hy
    exact ⟨p, j, hx.trans e, rfl, by omega, hj, .inl hpj⟩
  · obtain ⟨i, _, rfl, _, hi, _⟩ := h.get B ha hx
    obtain ⟨j, _, rfl, _, hj, _⟩ := h.get B ha hy
    exact ⟨i, j, rfl, rfl, hi, hj, .inr (fr hs)⟩
end
theorem his_pos (h : His l) {out : List Int} (hb : byH l out) {j : Nat} (hj : j < out.length) : ∃ i : Nat, out[j]! = (i : Int) ∧ i < l.length := by
  obtain ⟨m, q, B, hl⟩ := hb
  obtain ⟨i, e, hi, _⟩ := byL_part h.fit B (Nat.le_refl _) hl (List.mem_of_getElem? (get_bang hj))
  exact ⟨i, e, hi⟩
theorem his_last (h : His l) {out : List Int} (hb : byH l out) {j i : Nat} (hj : j < out.length) (e : out[j]! = (i : Int)) (hp : ¬ l[i]!.Put = true) : lastF l out j = lpI l i := by
  obtain ⟨m, q, B, hl⟩ := hb
  have := (byL_pos B h.fit hl (Nat.le_refl _)).1 j hj
  rw [lastF_lfL l out j (by omega)]
  rw [e] at this
  rcases this with ⟨ha, hf⟩ | ⟨a, ha, ⟨hx, hf⟩ | ⟨hx, hf⟩⟩
  · obtain ⟨i', e', _, _, hlp, _⟩ := h.absI ha
    obtain rfl : i = i' := by omega
    rw [hf, hlp]
  · obtain ⟨i', e', _, hpp, _⟩ := h.qq B ha
    obtain rfl : i = i' := by omega
    exact absurd hpp hp
  · obtain ⟨i', p, e', e2, _, _, _, hlp, _⟩ := h.get B ha hx
    obtain rfl : i = i' := by omega
    rw [hf, hlp, e2]
theorem his_by_ok {w : World} (h : His l) (h12 : l.length ≤ 12) {out : List Int} (hb : byH l out) : chkO w l out = 0 := by
  obtain ⟨m, q, B, hl⟩ := hb
  have hpr := List.pairwise_iff_getElem.1 (byL_pair hl)
  refine chkO_0 h.fit (byL_whole h.fit (h.good h12) B hl) (fun j hj => ?_) (fun j hj => ?_)
  · rintro ⟨ho, hlt⟩
    rcases begF_one' (l := l) (o := out) j with e | ⟨k, hk, e⟩
    · obtain ⟨i, ei, hi⟩ := his_pos h ⟨m, q, B, hl⟩ hj
      have ea : atO l out j = l[i]! := by unfold atO; rw [ei]; rfl
      rw [ea] at ho hlt
      have := (h.bd hi).2 ho
      omega
    · have hp := hpr k j (by omega) hj hk
      rw [← bang_get (show k < out.length by omega), ← bang_get hj] at hp
      obtain ⟨i1, i2, e1, e2, h1, h2, hor⟩ := h.pair B hp
      have ea : atO l out j = l[i2]! := by unfold atO; rw [e2]; rfl
      have eb : atO l out k = l[i1]! := by unfold atO; rw [e1]; rfl
      rw [e, ea, eb] at hlt
      rw [ea] at ho
      have a1 := (h.bd h2).2 ho
      have a2 := (h.bd h1).1
      have a3 := (h.bd h2).1
      rcases hor with z | z <;> omega
  · obtain ⟨i, ei, hi⟩ := his_pos h ⟨m, q, B, hl⟩ hj
    by_cases hp : l[i]!.Put = true
    · intro hn
      have ea : atO l out j = l[i]! := by unfold atO; rw [ei]; rfl
      rw [ea] at hn
      exact absurd hp hn
    · exact h.told ei hi (his_last h ⟨m, q, B, hl⟩ hj ei hp)
/-! ### rising tags -/
def riseI (p : Int) (la : GTag) : Prop := (p = -1 ∧ la = tag0) ∨ ∃ i : Nat, p = (i : Int) ∧ (la = tag0 ∨ ∃ j, j ≤ i ∧ la = tgI j)
theorem rise_start : riseI (lfL l (([] : List Int).take 0)) tag0 := .inl ⟨rfl, rfl⟩
theorem cmp0 {t : GTag} : ¬ tagCmp tag0 tag0 < 0 := by rw [cmp_lt]; dsimp only; omega
theorem cmpI0 (i : Nat) : ¬ tagCmp (tgI i) tag0 < 0 := by rw [cmp_lt]; unfold tgI; dsimp only; omega
theorem cmpIJ {i j : Nat} (h : j ≤ i) : ¬ tagCmp (tgI i) (tgI j) < 0 := by rw [cmp_lt]; unfold tgI; dsimp only; omega
theorem rise (h : His l) {out : List Int} (hb : byH l out) {k : Nat} (hk : k < out.length) {la : GTag} (hr : riseI (lfL l (out.take k)) la) :
    (l[(out[k]!).toNat]!.Open = true ∧ tagZero l[(out[k]!).toNat]!.Tag → riseI (lfL l (out.take (k + 1))) la) ∧ (¬ (l[(out[k]!).toNat]!.Open = true ∧ tagZero l[(out[k]!).toNat]!.Tag) → ¬ tagCmp l[(out[k]!).toNat]!.Tag la < 0 ∧ riseI (lfL l (out.take (k + 1))) l[(out[k]!).toNat]!.Tag) := by
  obtain ⟨m, q, B, hl⟩ := hb
  have hpos := (byL_pos B h.fit hl (Nat.le_refl _)).1 k hk
  rw [takeI_snoc hk, lfL_snoc]
  rcases hpos with ⟨ha, hf⟩ | ⟨a, ha, ⟨hx, hf⟩ | ⟨hx, hf⟩⟩
  · obtain ⟨i, e, hi, hp, _, ht, ho⟩ := h.absI ha
    rw [e]
    show (l[i]!.Open = true ∧ _ → riseI (if l[i]!.Put = true then _ else _) la) ∧ (¬ (l[i]!.Open = true ∧ _) → ¬ tagCmp l[i]!.Tag la < 0 ∧ riseI (if l[i]!.Put = true then _ else _) l[i]!.Tag)
    rw [if_neg hp, ht]
    refine ⟨fun z => absurd z.1 ho, fun _ => ?_⟩
    rw [hf] at hr ⊢
    rcases hr with ⟨_, rfl⟩ | ⟨j, z, _⟩
    · exact ⟨cmp0 (t := tag0), .inl ⟨rfl, rfl⟩⟩
    · omega
  · obtain ⟨i, e, hi, hp, _⟩ := h.qq B ha
    rw [hx, e]
    show (l[i]!.Open = true ∧ _ → riseI (if l[i]!.Put = true then (i : Int) else _) la) ∧ (¬ (l[i]!.Open = true ∧ _) → ¬ tagCmp l[i]!.Tag la < 0 ∧ riseI (if l[i]!.Put = true then (i : Int) else _) l[i]!.Tag)
    rw [if_pos hp]
    have hla : la = tag0 ∨ ∃ j, j < i ∧ la = tgI j := by
      rw [hf] at hr
      unfold lastQ at hr
      by_cases ea : a = 0
      · rw [if_pos ea] at hr
        rcases hr with ⟨_, z⟩ | ⟨j, z, _⟩
        · exact .inl z
        · omega
      · rw [if_neg ea] at hr
        obtain ⟨i0, e0, _, _, _⟩ := h.qq B (show a - 1 < q.length by omega)
        have hlt := h.qlt B (show a - 1 < a by omega) ha
        rcases hr with ⟨z, _⟩ | ⟨j, z, z2 | ⟨j2, z3, z4⟩⟩
        · omega
        · exact .inl z2
        · exact .inr ⟨j2, by omega, z4⟩
    constructor
    · intro _
      rcases hla with z | ⟨j, z1, z2⟩
      · exact .inr ⟨i, rfl, .inl z⟩
      · exact .inr ⟨i, rfl, .inr ⟨j, by omega, z2⟩⟩
    · intro hn
      have ht : l[i]!.Tag = tgI i := by
        rcases (h.put hi hp).2.2 with z | ⟨z1, z2 | z2⟩
        · exact z.2
        · exact z2
        · refine absurd ⟨z1, ?_⟩ hn
          show tagZero l[i]!.Tag
          rw [z2]; exact ⟨rfl, rfl⟩
      rw [ht]
      refine ⟨?_, .inr ⟨i, rfl, .inr ⟨i, Nat.le_refl _, rfl⟩⟩⟩
      rcases hla with rfl | ⟨j, z1, rfl⟩
      · exact cmpI0 i
      · exact cmpIJ (by omega)
  · obtain ⟨i, p, e, e2, hi, hp, _, _, _, _, _, ht, ho⟩ := h.get B ha hx
    rw [e]
    show (l[i]!.Open = true ∧ _ → riseI (if l[i]!.Put = true then _ else _) la) ∧ (¬ (l[i]!.Open = true ∧ _) → ¬ tagCmp l[i]!.Tag la < 0 ∧ riseI (if l[i]!.Put = true then _ else _) l[i]!.Tag)
    rw [if_neg hp, ht]
    refine ⟨fun z => absurd z.1 ho, fun _ => ?_⟩
    rw [hf, e2] at hr ⊢
    rcases hr with ⟨z, _⟩ | ⟨j, z, z2 | ⟨j2, z3, z4⟩⟩
    · omega
    · rw [z2]; exact ⟨cmpI0 p, .inr ⟨p, rfl, .inr ⟨p, Nat.le_refl _, rfl⟩⟩⟩
    · rw [z4]; exact ⟨cmpIJ (by omega), .inr ⟨p, rfl, .inr ⟨p, Nat.le_refl _, rfl⟩⟩⟩
/-! ### what does not explain -/
theorem twice_no {w : World} (h : His l) {i : Nat} (hi : i < l.length) : chkO w l (idsI l.length ++ [(i : Int)]) = 81 := chkO_81 h.fit fun q => by
  have hlen : (idsI l.length ++ [(i : Int)]).length = l.length + 1 := by rw [List.length_append, idsI_len]; rfl
  have h1 := (q.1.1 l.length (by omega)).2.2.2 i hi
  rw [appI_left (by rw [idsI_len]; exact hi), idsI_get hi] at h1
  have h2 : (idsI l.length ++ [(i : Int)])[l.length]! = (i : Int) := by
    have := appI_get (o := idsI l.length) (g := [(i : Int)]) (j := 0) (by simp)
    rw [idsI_len, Nat.add_zero] at this; exact this
  exact h1 h2.symm
theorem less_no {w : World} (h : His l) {i : Nat} (hi : i < l.length) (ho : ¬ l[i]!.Open = true) : chkO w l ((idsI l.length).take i ++ (idsI l.length).drop (i + 1)) = 81 := chkO_81 h.fit fun q => by
  have hd : dueP l[i]! := by
    rcases h.part hi with z | z
    · exact z
    · exact absurd z ho
  obtain ⟨j, hj, e⟩ := q.1.2 i hi hd
  have hm := List.mem_of_getElem? (get_bang hj)
  rw [e, List.mem_append] at hm
  rcases hm with hm | hm
  · obtain ⟨k, hk⟩ := List.getElem?_of_mem hm
    have hkl := (List.getElem?_eq_some_iff.1 hk).1
    rw [List.length_take, idsI_len] at hkl
    rw [List.getElem?_take_of_lt (by omega), get_bang (by rw [idsI_len]; omega), idsI_get (by omega)] at hk
    have := Option.some.inj hk; omega
  · obtain ⟨k, hk⟩ := List.getElem?_of_mem hm
    have hkl := (List.getElem?_eq_some_iff.1 hk).1
    rw [List.length_drop, idsI_len] at hkl
    rw [List.getElem?_drop, get_bang (by rw [idsI_len]; omega), idsI_get (by omega)] at hk
    have := Option.some.inj hk; omega
theorem setC_get {c : GCall} {i x : Nat} (hi : i < l.length) : (l.set i c)[x]! = if x = i then c else l[x]! := by
  rw [List.getElem!_eq_getElem?_getD, List.getElem!_eq_getElem?_getD, List.getElem?_set]
  by_cases h : x = i
  · subst h; rw [if_pos rfl, if_pos hi, if_pos rfl]; rfl
  · rw [if_neg (fun e => h e.symm), if_neg h]
/-- A Get with another value. -/
def withV (x : GCall) (s : SlH) : GCall := ⟨x.Client, x.Op, x.Put, x.Key, s, x.Status, x.From, x.To, x.Open, x.Tag⟩
theorem withV_other {i : Nat} {s : SlH} (hi : i < l.length) (x : Nat) : (l.set i (withV l[i]! s))[x]!.Put = l[x]!.Put ∧ (l.set i (withV l[i]! s))[x]!.Key = l[x]!.Key ∧ (l.set i (withV l[i]! s))[x]!.Status = l[x]!.Status ∧ (l.set i (withV l[i]! s))[x]!.From = l[x]!.From ∧ (l.set i (withV l[i]! s))[x]!.To = l[x]!.To ∧ (l.set i (withV l[i]! s))[x]!.Open = l[x]!.Open := by
  rw [setC_get hi]
  by_cases e : x = i
  · subst e; rw [if_pos rfl]; exact ⟨rfl, rfl, rfl, rfl, rfl, rfl⟩
  · rw [if_neg e]; exact ⟨rfl, rfl, rfl, rfl, rfl, rfl⟩
theorem withV_fit {i : Nat} {s : SlH} (h : fitP l) (hi : i < l.length) : fitP (l.set i (withV l[i]! s)) := fun j hj => by
  rw [List.length_set] at hj
  have := h j hj
  obtain ⟨a1, a2, a3, a4, a5, a6⟩ := withV_other (s := s) hi j
  obtain ⟨_, b2, _⟩ := withV_other (s := s) hi 0
  unfold fitC openP at *
  rw [a1, a2, a3, a4, a5, a6, b2]; exact this
theorem withV_last {i : Nat} {s : SlH} (hi : i < l.length) (o : List Int) : ∀ k, lastF (l.set i (withV l[i]! s)) o k = lastF l o k
  | 0 => rfl
  | k + 1 => by
    have : (atO (l.set i (withV l[i]! s)) o k).Put = (atO l o k).Put := by unfold atO; exact (withV_other hi _).1
    rw [lastF, lastF, this, withV_last hi o k]
theorem spoilt {w : World} (h : His l) {i : Nat} (hi : i < l.length) (hp : ¬ l[i]!.Put = true) (hs : l[i]!.Status = 0) {s : SlH} (hb : bytesAt w s = bytesAt w l[i]!.Value ++ [120]) {o : List Int} (ho : ∃ j, j < o.length ∧ o[j]! = (i : Int) ∧ lastF l o j = lpI l i) : chkO w (l.set i (withV l[i]! s)) o = 81 := chkO_81 (withV_fit h.fit hi) fun q => by
  obtain ⟨j, hj, e1, e2⟩ := ho
  obtain ⟨p, f1, f2, f3, _, f4, _⟩ := h.read hi hp hs
  have ht := q.2.2 j hj
  have ea : atO (l.set i (withV l[i]! s)) o j = withV l[i]! s := by
    unfold atO; rw [e1]
    show (l.set i (withV l[i]! s))[i]! = _
    rw [setC_get hi, if_pos rfl]
  unfold toldC at ht
  rw [ea, withV_last hi, e2, f1] at ht
  have h3 := (ht hp).2 hs
  have h4 := h3.2
  rw [show ((p : Int)).toNat = p from rfl, setC_get hi, if_neg (by omega)] at h4
  have h5 : bytesAt w s = bytesAt w l[p]!.Value := h4
  rw [hb, f4] at h5
  have := congrArg List.length h5
  simp at this
theorem at_ids {i : Nat} (hi : i < l.length) : ∃ j, j < (idsI l.length).length ∧ (idsI l.length)[j]! = (i : Int) ∧ lastF l (idsI l.length) j = lpI l i := ⟨i, by rw [idsI_len]; exact hi, idsI_get hi, lastF_id i fun k hk => idsI_get (by omega)⟩
theorem at_by (h : His l) (h12 : l.length ≤ 12) {out : List Int} (hb : byH l out) {i : Nat} (hi : i < l.length) (hp : ¬ l[i]!.Put = true) (hs : l[i]!.Status = 0) : ∃ j, j < out.length ∧ out[j]! = (i : Int) ∧ lastF l out j = lpI l i := by
  have hb' := hb
  obtain ⟨m, q, B, hl⟩ := hb
  have hd : dueP l[i]! := by
    rcases h.part hi with z | z
    · exact z
    · obtain ⟨_, _, _, _, _, _, _, z2⟩ := h.read hi hp hs
      exact absurd z z2
  obtain ⟨j, hj⟩ := List.getElem?_of_mem (byL_due h.fit (h.good h12) B hl hi hd)
  have hjl := (List.getElem?_eq_some_iff.1 hj).1
  rw [get_bang hjl] at hj
  have e := Option.some.inj hj
  exact ⟨j, hjl, e, his_last h hb' hjl e hp⟩
end
theorem his_in {l : List GCall} (h : His l) {out : List Int} (hb : byH l out) (k : Nat) : k < out.length → 0 ≤ out[k]! ∧ out[k]! < (l.length : Int) := fun hk => by
  obtain ⟨i, e, hi⟩ := his_pos h hb hk; omega
theorem his_nil {l : List GCall} (h : His l) {out : List Int} (hb : byH l out) (h0 : l.length = 0) : out.length = 0 := by
  apply Classical.byContradiction
  intro hn
  obtain ⟨i, e, hi⟩ := his_pos h hb (show 0 < out.length by omega); omega
theorem set_mem {l : List GCall} {c y : GCall} {i : Nat} (h : y ∈ l.set i c) : y = c ∨ y ∈ l := (List.mem_or_eq_of_mem_set h).symm
theorem VB.ownB {w : World} {a : Option Addr} {n c E : Nat} {ns : List Int} (h : (Res.own E 1 (.slice a n c) n (ns.flatMap u8c)).holds w) : VB w ⟨a, n, c⟩ ∧ bytesAt w ⟨a, n, c⟩ = ns := by
  have hs : SlR w a n (ns.flatMap u8c) := SlR.own h
  have e := bytesAt_of (s := ⟨a, n, c⟩) hs (own_flat (sz := 1) (fun _ => rfl) (by decide) h)
  exact ⟨by unfold VB; rw [e]; exact hs, e⟩
theorem own_max' {w : World} {E : TypeId} {n c sz : Nat} {a : Option Addr} {xs : List Value} (h : (Res.own E sz (.slice a n c) n xs).holds w) : n ≤ 9223372036854775807 := by
  obtain ⟨_, h | ⟨g, cap, cur, hv, _, _, h1, h2, _⟩⟩ := h
  · omega
  · simp only [Value.slice.injEq] at hv
    have : cap ≤ maxLen := h2
    unfold maxLen at this
    omega
end Go.Proofs.Ytdahgdkadfdkeaa.K
