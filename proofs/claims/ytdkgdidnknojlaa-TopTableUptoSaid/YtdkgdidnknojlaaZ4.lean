/- Texts of this claim, merged: what the program's functions compute, and the rules that the walks use. -/
import Derived.Sort.Row
import Derived.Sort.Grow
import Derived.Shelf.GgSortFunc.RowK
import Derived.Shelf.SlSortCmp.NoneTotal
import Derived.Shelf.SlicesG.Cmp
import Derived.Shelf.Sort.Plain
import Derived.Shelf.Slices.In.SortNone
import Derived.Test.YtdkgdidnknojlaaProg
import Derived.Test.YtdkgdidnknojlaaZ1
import Derived.Test.YtdkgdidnknojlaaZ2
import Derived.Test.YtdkgdidnknojlaaZ3
namespace Go.Proofs.Ytdkgdidnknojlaa.K
open Go Go.RowKit
set_option linter.unusedVariables false
section
variable {C C1 C2 : List Ce} {key key' : ByteArray} {t t' f g : GTag} {v : Vt} {y : Ce} {k dl n : Nat} {T T2 : Tb} {l : List (GTag × En)} {D D2 DC DC2 : List (SlH × ByteArray)} {d : ByteArray}
theorem finC_app0 (h : fnC key y = false) : finC (C ++ [y]) key = finC C key := by
  unfold finC
  rw [List.filter_append, List.filter_cons, h]
  simp
theorem finC_set (hk : k < C.length) (h : fnC key y = fnC key C[k]!) (ht : y.c.e.Tag = C[k]!.c.e.Tag) : finC (C.set k y) key = finC C key := by
  obtain ⟨A, B, h1, h2⟩ := split_set hk
  rw [h2]
  generalize C[k]! = x at h1 h ht
  subst h1
  unfold finC
  rw [List.filter_append, List.filter_append, List.filter_cons, List.filter_cons, h]
  by_cases q : fnC key x = true
  · rw [if_pos q, if_pos q]; simp [ht]
  · rw [if_neg q, if_neg q]
theorem nd_app (hd : (C.map ktC).Nodup) (hno : nocell C y.c.key y.c.e.Tag) : ((C ++ [y]).map ktC).Nodup := by
  rw [List.map_append]
  refine List.nodup_append.2 ⟨hd, by simp, fun a ha b hb e => ?_⟩
  obtain ⟨z, hz, rfl⟩ := List.mem_map.1 ha
  obtain rfl := List.mem_singleton.1 hb
  obtain ⟨i, hi, rfl⟩ := List.mem_iff_getElem.1 hz
  have := hno i hi
  rw [getElem!_pos C i hi] at this
  exact this (kt_iff.1 e)
theorem nd_set (hd : (C.map ktC).Nodup) (hk : k < C.length) (h : ktC y = ktC C[k]!) : ((C.set k y).map ktC).Nodup := by
  obtain ⟨A, B, h1, h2⟩ := split_set hk
  rw [h2, List.map_append, List.map_cons, h, ← List.map_cons, ← List.map_append, ← h1]
  exact hd
theorem in_set {z x : Ce} (hk : k < C.length) (hz : z ∈ C.set k x) : z = x ∨ z ∈ C := by
  obtain ⟨A, B, h1, h2⟩ := split_set hk
  rw [h2] at hz
  rcases List.mem_append.1 hz with hz | hz
  · right; rw [h1]; simp [hz]
  · rcases List.mem_cons.1 hz with hz | hz
    · exact .inl hz
    · right; rw [h1]; simp [hz]
theorem floD_of (h : finD C2 key = finD C key) : floD C2 key dl = floD C key dl := by unfold floD; rw [h]
theorem finD_of (h : finC C2 key = finC C key) : finD C2 key = finD C key := by unfold finD; rw [h]
theorem pre_doc (h : DocI C dl) (hp : PreD C DC key t d dl C2 DC2) (hk : 1 ≤ key.size ∧ key.size ≤ 64) (ht : tagProper t) (hs : d.size ≤ 65540) : DocI C2 dl ∧ ∀ key', finD C2 key' = finD C key' := by
  rcases hp with ⟨hno, ⟨_, rfl, _⟩ | ⟨hf, hh, X, rfl, _⟩⟩ | ⟨k, hat, ⟨_, rfl, _⟩ | ⟨hf, hnh, hh, X, rfl, _⟩⟩
  · exact ⟨h, fun _ => rfl⟩
  · have e : ∀ key', finD (C ++ [⟨⟨key, ⟨t, false, true, hh⟩⟩, d⟩]) key' = finD C key' := fun key' => finD_of (finC_app0 (by unfold fnC; simp))
    refine ⟨⟨nd_app h.nd hno, fun y hy => ?_, fun key' => by rw [e]; exact h.fin key', fun y hy => ?_⟩, e⟩
    · rw [floD_of (e _)]
      rcases List.mem_append.1 hy with hy | hy
      · exact h.flo y hy
      · obtain rfl := List.mem_singleton.1 hy; exact hf
    · rcases List.mem_append.1 hy with hy | hy
      · exact h.good y hy
      · obtain rfl := List.mem_singleton.1 hy
        exact ⟨.inr rfl, fun q => absurd rfl q, hs, hk, ht⟩
  · exact ⟨h, fun _ => rfl⟩
  · obtain ⟨hkl, his, _⟩ := hat
    have e : ∀ key', finD (C.set k ⟨⟨C[k]!.c.key, ⟨C[k]!.c.e.Tag, C[k]!.c.e.Fin, true, hh⟩⟩, d⟩) key' = finD C key' := fun key' => finD_of (finC_set hkl rfl rfl)
    have hg := h.good _ (bang_mem hkl)
    refine ⟨⟨nd_set h.nd hkl rfl, fun y hy => ?_, fun key' => by rw [e]; exact h.fin key', fun y hy => ?_⟩, e⟩
    · rw [floD_of (e _)]
      rcases in_set hkl hy with rfl | hy
      · exact h.flo C[k]! (bang_mem hkl)
      · exact h.flo y hy
    · rcases in_set hkl hy with rfl | hy
      · exact ⟨.inr rfl, fun q => absurd rfl q, hs, hg.key, hg.tag⟩
      · exact h.good y hy
/-- The highest tags, cut at the floor. -/
theorem cut_flo {S : List GTag} {f : GTag} (hS : S.Pairwise fun x y => ¬ tlt x y) (hn : S.Nodup) (hz : ∀ x ∈ S, ¬ tlt x ⟨0, 0⟩) (hf : f = (S[dl]?).getD ⟨0, 0⟩) : (S.filter fun x => !decide (tlt x f)).length ≤ dl + 1 ∧ ((S.filter fun x => !decide (tlt x f))[dl]?).getD ⟨0, 0⟩ = f := by
  rcases Nat.lt_or_ge dl S.length with q | q
  · have e : S = S.take dl ++ f :: S.drop (dl + 1) := by
      rw [List.getElem?_eq_getElem q] at hf
      rw [hf]
      show S = S.take dl ++ S[dl] :: S.drop (dl + 1)
      rw [List.getElem_cons_drop, List.take_append_drop]
    have hl : (S.take dl).length = dl := by rw [List.length_take]; omega
    generalize S.take dl = A at e hl
    generalize S.drop (dl + 1) = B at e
    subst e
    have h1 := List.pairwise_append.1 hS
    have h2 := List.pairwise_cons.1 h1.2.1
    have n1 := List.nodup_append.1 hn
    have n2 := List.nodup_cons.1 n1.2.1
    have eA : A.filter (fun x => !decide (tlt x f)) = A := by
      rw [List.filter_eq_self]; intro x hx
      have := h1.2.2 x hx f (by simp)
      simp [this]
    have eB : B.filter (fun x => !decide (tlt x f)) = [] := by
      rw [List.filter_eq_nil_iff]; intro x hx
      have h3 := h2.1 x hx
      have h4 : tlt x f := by
        rcases Classical.em (tlt x f) with z | z
        · exact z
        · exact absurd (tlt_tri h3 z) (fun e => n2.1 (e ▸ hx))
      simp [h4]
    have e2 : (A ++ f :: B).filter (fun x => !decide (tlt x f)) = A ++ [f] := by
      rw [List.filter_append, List.filter_cons, eA, eB]
      simp [tlt_irr]
    rw [e2]
    constructor
    · simp [hl]
    · rw [List.getElem?_append_right (by omega), hl]; simp
  · have h0 : f = ⟨0, 0⟩ := by rw [hf, List.getElem?_eq_none q]; rfl
    have e2 : S.filter (fun x => !decide (tlt x f)) = S := by
      rw [List.filter_eq_self]; intro x hx
      have := hz x hx
      simp [h0, this]
    rw [e2]
    exact ⟨by omega, by rw [List.getElem?_eq_none q, h0]; rfl⟩
theorem finC_left : finC (leftC C key f) key = (finC C key).filter fun x => !decide (tlt x f) := by
  unfold finC leftC
  rw [List.filter_map, List.filter_filter, List.filter_filter]
  congr 1
  refine List.filter_congr fun y hy => ?_
  unfold fnC
  simp only [Function.comp_apply]
  by_cases h1 : y.c.key = key
  · simp [h1, Bool.and_comm]
  · simp [h1]
theorem finC_left2 (hk : key' ≠ key) : finC (leftC C key f) key' = finC C key' := by
  unfold finC leftC
  rw [List.filter_filter]
  congr 1
  refine List.filter_congr fun y hy => ?_
  unfold fnC
  by_cases h1 : y.c.key = key'
  · simp [h1, hk]
  · simp [h1]
theorem finD_left : finD (leftC C key f) key = (finD C key).filter fun x => !decide (tlt x f) := by
  symm
  refine finD_uniq ?_ ((finD_desc C key).sublist List.filter_sublist)
  rw [finC_left]
  exact (List.mergeSort_perm _ _).filter _
theorem proper_zero (h : tagProper t) : ¬ tlt t ⟨0, 0⟩ := by unfold tagProper at h; unfold tlt; show ¬ (t.Count < 0 ∨ t.Count = 0 ∧ t.Client < 0); omega
/-- A shelf of good cells, cut at its floor. -/
theorem left_doc (hnd : (C1.map ktC).Nodup) (hg : ∀ y ∈ C1, GoodC y) (ho : ∀ key', key' ≠ key → (finD C1 key').length ≤ dl + 1 ∧ ∀ y ∈ C1, y.c.key = key' → ¬ tlt y.c.e.Tag (floD C1 key' dl)) : DocI (leftC C1 key (floD C1 key dl)) dl := by
  have hz : ∀ x ∈ finD C1 key, ¬ tlt x ⟨0, 0⟩ := fun x hx => by
    obtain ⟨y, h1, h2, _⟩ := mem_finD.1 hx
    have := (hg y h1).tag
    rw [h2.2] at this
    exact proper_zero this
  have hc := cut_flo (f := floD C1 key dl) (dl := dl) (finD_desc C1 key) (finD_nd hnd) hz rfl
  rw [← finD_left] at hc
  have hin : ∀ y, y ∈ leftC C1 key (floD C1 key dl) → y ∈ C1 ∧ ¬ (y.c.key = key ∧ tlt y.c.e.Tag (floD C1 key dl)) := fun y hy => by
    unfold leftC at hy
    rw [List.mem_filter] at hy
    exact ⟨hy.1, by have h_ := hy.2; rw [Bool.not_eq_true', decide_eq_false_iff_not] at h_; exact h_⟩
  refine ⟨?_, fun y hy => ?_, fun key' => ?_, fun y hy => hg y (hin y hy).1⟩
  · unfold leftC; exact hnd.sublist ((List.filter_sublist).map _)
  · rcases Classical.em (y.c.key = key) with q | q
    · rw [q]
      show ¬ tlt y.c.e.Tag (((finD (leftC C1 key (floD C1 key dl)) key)[dl]?).getD ⟨0, 0⟩)
      rw [hc.2]
      exact fun z => (hin y hy).2 ⟨q, z⟩
    · rw [floD_of (finD_of (finC_left2 q))]
      exact (ho _ q).2 y (hin y hy).1 rfl
  · rcases Classical.em (key' = key) with q | q
    · subst q; exact hc.1
    · rw [finD_of (finC_left2 q)]; exact (ho _ q).1
/-- Nothing is cut where all stands above the floor. -/
theorem left_self (h : DocI C dl) : leftC C key (floD C key dl) = C := by
  unfold leftC
  rw [List.filter_eq_self]
  intro y hy
  have := h.flo y hy
  by_cases q : y.c.key = key
  · rw [q] at this; simp [q, this]
  · simp [q]
theorem atK_one (h : DocI C dl) (ha : atK C key t k) (hm : memC C key t v) : v = vC C[k]! := by
  obtain ⟨y, hy, h1, h2⟩ := hm
  obtain ⟨hk, hx, _⟩ := ha
  have hnd := h.nd
  obtain ⟨A, B, e, _⟩ := split_set hk
  have hkx := kt_iff.2 hx
  generalize C[k]! = x at e hx hkx ⊢
  subst e
  rw [List.map_append, List.map_cons] at hnd
  have hd2 := List.nodup_append.1 hnd
  have hd3 := List.nodup_cons.1 hd2.2.1
  have hky := kt_iff.2 h1
  rcases List.mem_append.1 hy with hz | hz
  · exact absurd (hky.trans hkx.symm) (hd2.2.2 _ (List.mem_map_of_mem hz) _ (List.mem_cons_self ..))
  · rcases List.mem_cons.1 hz with rfl | hz
    · exact h2.symm
    · exact absurd (by rw [hkx, ← hky]; exact List.mem_map_of_mem hz) hd3.1
theorem atK_mem (ha : atK C key t k) : memC C key t (vC C[k]!) := ⟨_, bang_mem ha.1, ha.2.1, rfl⟩
theorem no_mem (h : nocell C key t) : ¬ memC C key t v := by
  rintro ⟨y, hy, h1, _⟩
  obtain ⟨i, hi, rfl⟩ := List.mem_iff_getElem.1 hy
  have := h i hi
  rw [getElem!_pos C i hi] at this
  exact this h1
/-- The middle of fin: a cell that is finalized. -/
def MidC (C : List Ce) (key : ByteArray) (t : GTag) (C1 : List Ce) : Prop :=
  (nocell C key t ∧ C1 = C ++ [⟨⟨key, ⟨t, true, false, ⟨none, 0, 0⟩⟩⟩, ⟨#[]⟩⟩]) ∨ (∃ k, atK C key t k ∧ C1 = C.set k ⟨⟨C[k]!.c.key, ⟨C[k]!.c.e.Tag, true, C[k]!.c.e.Has, C[k]!.c.e.Data⟩⟩, C[k]!.d⟩)
theorem FinD.mid (h : FinD C key t dl C2) : (tlt t (floD C key dl) ∧ C2 = C) ∨ (¬ tlt t (floD C key dl) ∧ ∃ C1, MidC C key t C1 ∧ C2 = leftC C1 key (floD C1 key dl)) := by
  rcases h with ⟨hno, ⟨h1, rfl⟩ | ⟨h1, C1, rfl, rfl⟩⟩ | ⟨k, hat, ⟨h1, rfl⟩ | ⟨h1, C1, rfl, rfl⟩⟩
  · exact .inl ⟨h1, rfl⟩
  · exact .inr ⟨h1, _, .inl ⟨hno, rfl⟩, rfl⟩
  · exact .inl ⟨h1, rfl⟩
  · exact .inr ⟨h1, _, .inr ⟨k, hat, rfl⟩, rfl⟩
theorem MidC.nd (h : MidC C key t C1) (hd : DocI C dl) : (C1.map ktC).Nodup := by
  rcases h with ⟨hno, rfl⟩ | ⟨k, hat, rfl⟩
  · exact nd_app hd.nd hno
  · exact nd_set hd.nd hat.1 rfl
theorem MidC.good (h : MidC C key t C1) (hd : DocI C dl) (hk : 1 ≤ key.size ∧ key.size ≤ 64) (ht : tagProper t) : ∀ y ∈ C1, GoodC y := by
  rcases h with ⟨hno, rfl⟩ | ⟨k, hat, rfl⟩
  · intro y hy
    rcases List.mem_append.1 hy with hy | hy
    · exact hd.good y hy
    · obtain rfl := List.mem_singleton.1 hy
      exact ⟨.inl rfl, fun _ => rfl, Nat.zero_le _, hk, ht⟩
  · intro y hy
    have hg := hd.good _ (bang_mem hat.1)
    rcases in_set hat.1 hy with rfl | hy
    · exact ⟨.inl rfl, hg.nod, hg.size, hg.key, hg.tag⟩
    · exact hd.good y hy
theorem MidC.len (h : MidC C key t C1) : C1.length ≤ C.length + 1 := by
  rcases h with ⟨hno, rfl⟩ | ⟨k, hat, rfl⟩ <;> simp
theorem MidC.dk (h : MidC C key t C1) (hd : ∀ y ∈ C, Dk DC y.c.e.Data y.d) : ∀ y ∈ C1, Dk DC y.c.e.Data y.d := by
  rcases h with ⟨hno, rfl⟩ | ⟨k, hat, rfl⟩
  · intro y hy
    rcases List.mem_append.1 hy with hy | hy
    · exact hd y hy
    · obtain rfl := List.mem_singleton.1 hy
      exact Dk.nil
  · intro y hy
    rcases in_set hat.1 hy with rfl | hy
    · exact hd C[k]! (bang_mem hat.1)
    · exact hd y hy
theorem MidC.other (h : MidC C key t C1) (hk : key' ≠ key) : finD C1 key' = finD C key' := by
  rcases h with ⟨hno, rfl⟩ | ⟨k, hat, rfl⟩
  · exact finD_of (finC_app0 (by unfold fnC; simp [Ne.symm hk]))
  · refine finD_of (finC_set hat.1 ?_ rfl)
    have := hat.2.1.1
    unfold fnC
    generalize C[k]! = x at this ⊢
    simp [this, Ne.symm hk]
theorem MidC.cell (h : MidC C key t C1) : ∀ y ∈ C1, y.c.key ≠ key → y ∈ C := by
  rcases h with ⟨hno, rfl⟩ | ⟨k, hat, rfl⟩
  · intro y hy hk
    rcases List.mem_append.1 hy with hy | hy
    · exact hy
    · obtain rfl := List.mem_singleton.1 hy; exact absurd rfl hk
  · intro y hy hk
    rcases in_set hat.1 hy with rfl | hy
    · exact absurd hat.2.1.1 hk
    · exact hy
theorem MidC.doc (h : MidC C key t C1) (hd : DocI C dl) (hk : 1 ≤ key.size ∧ key.size ≤ 64) (ht : tagProper t) : DocI (leftC C1 key (floD C1 key dl)) dl := by
  refine left_doc (h.nd hd) (h.good hd hk ht) fun key' hq => ⟨by rw [h.other hq]; exact hd.fin _, fun y hy e => ?_⟩
  have hy2 := h.cell y hy (by rw [e]; exact hq)
  rw [floD_of (h.other hq), ← e]
  exact hd.flo y hy2
/-- The content behind it: what the cell said of its data stays. -/
theorem MidC.mem (h : MidC C key t C1) (hd : DocI C dl) : ∃ hh dd, ((¬ ∃ v, memC C key t v) ∧ hh = false ∧ dd = ⟨#[]⟩ ∨ ∃ ff, memC C key t (ff, hh, dd)) ∧ ∀ key' t' v, memC C1 key' t' v ↔ (key' = key ∧ t' = t ∧ v = (true, hh, dd)) ∨ (¬ (key' = key ∧ t' = t) ∧ memC C key' t' v) := by
  rcases h with ⟨hno, rfl⟩ | ⟨k, hat, rfl⟩
  · exact ⟨false, ⟨#[]⟩, .inl ⟨fun ⟨v, h⟩ => no_mem hno h, rfl, rfl⟩, fun key' t' v => memC_app ⟨rfl, rfl⟩ hno⟩
  · exact ⟨C[k]!.c.e.Has, C[k]!.d, .inr ⟨C[k]!.c.e.Fin, atK_mem hat⟩, fun key' t' v => memC_set hd.nd hat.1 hat.2.1 hat.2.1⟩
theorem MidC.idle (h : MidC C key t C1) (hd : DocI C dl) {hh : Bool} {dd : ByteArray} (hf : memC C key t (true, hh, dd)) : C1 = C := by
  rcases h with ⟨hno, rfl⟩ | ⟨k, hat, rfl⟩
  · exact absurd hf (no_mem hno)
  · have e := atK_one hd hat hf
    have e2 : C[k]!.c.e.Fin = true := by unfold vC at e; exact (congrArg Prod.fst e).symm
    have : (⟨⟨C[k]!.c.key, ⟨C[k]!.c.e.Tag, true, C[k]!.c.e.Has, C[k]!.c.e.Data⟩⟩, C[k]!.d⟩ : Ce) = C[k]! := by rw [← e2]
    rw [this, getElem!_pos C k hat.1, List.set_getElem_self]
/-- A tag that is finalized above the floor stays. -/
theorem stay {S0 S1 : List GTag} (h0 : S0.Pairwise fun x y => ¬ tlt x y) (h1 : S1.Pairwise fun x y => ¬ tlt x y) (hp : S1.Perm (t :: S0)) (ht : ¬ tlt t ((S0[dl]?).getD ⟨0, 0⟩)) (hz : ¬ tlt t ⟨0, 0⟩) : ¬ tlt t ((S1[dl]?).getD ⟨0, 0⟩) := by
  obtain ⟨A, B, rfl⟩ := List.append_of_mem (hp.symm.subset (List.mem_cons_self ..))
  have p1 := List.pairwise_append.1 h1
  have p2 := List.pairwise_cons.1 p1.2.1
  rcases Nat.lt_trichotomy dl A.length with q | q | q
  · have e : A ++ B = S0 := by
      refine List.Perm.eq_of_pairwise (le := fun x y => geT x y = true) (fun a b _ _ h1 h2 => ?_) ?_ (h0.imp fun h => geT_iff.2 h) (List.Perm.cons_inv (List.perm_middle.symm.trans hp))
      · rw [geT_iff] at h1 h2; exact tlt_tri h1 h2
      · exact List.pairwise_append.2 ⟨p1.1.imp fun h => geT_iff.2 h, p2.2.imp fun h => geT_iff.2 h, fun x hx z hz => geT_iff.2 (p1.2.2 x hx z (by simp [hz]))⟩
    rw [← e, List.getElem?_append_left q] at ht
    rwa [List.getElem?_append_left q]
  · rw [q, List.getElem?_append_right (Nat.le_refl _)]
    simpa using tlt_irr
  · rw [List.getElem?_append_right (by omega)]
    cases hb : (t :: B)[dl - A.length]? with
    | none => exact hz
    | some z =>
      obtain ⟨i, hi⟩ : ∃ i, dl - A.length = i + 1 := ⟨dl - A.length - 1, by omega⟩
      rw [hi, List.getElem?_cons_succ] at hb
      exact p2.1 z (List.mem_of_getElem? hb)
end
end Go.Proofs.Ytdkgdidnknojlaa.K
namespace Go.Proofs.Ytdkgdidnknojlaa.K
open Go Go.RowKit Go.Sort
theorem flat_one {α : Type} (f : α → Value) (l : List α) : List.flatMap (fun y => [f y]) l = l.map f := by
  induction l with
  | nil => rfl
  | cons x l ih => rw [List.flatMap_cons, ih]; rfl
section
variable {α : Type} [Inhabited α] {w : World} {E : TypeId} {n c : Nat} {a : Option Addr} {enc : α → Value} {l : List α}
end
end Go.Proofs.Ytdkgdidnknojlaa.K
namespace Go.Proofs.Ytdkgdidnknojlaa.K
open Go Go.RowKit Go.Sort
set_option linter.unusedVariables false
section
variable {w : World} {E : TypeId} {k n c : Nat} {a : Option Addr} {xs : List Value}
theorem ownK_holds (h : (Res.own E k (.slice a n c) n xs).holds w) (hn : 0 < n) :
    ∃ g, a = some ⟨g, 0, none⟩ ∧ Holds id w g 0 xs.toArray ∧ g < w.heap.size ∧ xs.length = n * k := by
  obtain ⟨hl, h | ⟨g, cap, cur, hv, hg, hh, hn2, hcap, hsz, hx⟩⟩ := h
  · omega
  · simp only [Value.slice.injEq] at hv
    obtain ⟨rfl, _, rfl⟩ := hv
    refine ⟨g, rfl, fun j hj => ?_, (Array.getElem?_eq_some_iff.1 hh).1, hl⟩
    have hj' : j < xs.length := by simpa using hj
    have hc : cur[j]? = some xs[j] := by
      have := congrArg (fun q => q[j]?) hx
      simp only [List.getElem?_eq_getElem hj'] at this
      rw [List.getElem?_take_of_lt (by omega), Array.getElem?_toList] at this
      exact this
    constructor
    · unfold World.cell?
      simp only [hh, Nat.zero_add, Option.isSome_none, Bool.false_eq_true, if_false, hc]
      rw [getElem!_pos xs.toArray j (by simpa using hj')]; simp
    · unfold World.frozen?
      simp only [hh]; simp
theorem ownK_sorted {ys : List Value} {g : Nat} {m : Nat} {os : Array Obj} (h : (Res.own E k (.slice (some ⟨g, 0, none⟩) n c) n xs).holds w) (hl : ys.length = xs.length) :
    (Res.own E k (.slice (some ⟨g, 0, none⟩) n c) n ys).holds (grow (putRow id (Sort.ahead w m) g 0 ys.toArray) os) ∧ Fram (fun x => x = g) w (grow (putRow id (Sort.ahead w m) g 0 ys.toArray) os) := by
  obtain ⟨hl0, h | ⟨g', cap, cur, hv, hg, hh, hn2, hcap, hsz, hx⟩⟩ := h
  · obtain ⟨h, _⟩ := h; simp at h
  · simp only [Value.slice.injEq, Option.some.injEq, Addr.mk.injEq] at hv
    obtain ⟨⟨rfl, _, _⟩, _, rfl⟩ := hv
    have hgs := (Array.getElem?_eq_some_iff.1 hh).1
    have hle : n * k ≤ cur.size := by rw [hsz]; exact Nat.mul_le_mul_right _ hn2
    have hb : (grow (putRow id (Sort.ahead w m) g 0 ys.toArray) os).heap[g]? = some (.cells (putCells id 0 ys.toArray cur) E (0, 0)) := by
      show ((w.heap.modify g (onCells (putCells id 0 ys.toArray))) ++ os)[g]? = _
      rw [Array.getElem?_append_left (by simpa using hgs), Array.getElem?_modify, if_pos rfl, hh]; rfl
    refine ⟨⟨by omega, .inr ⟨g, c, putCells id 0 ys.toArray cur, rfl, hg, hb, hn2, hcap, ?_, ?_⟩⟩, rfl, rfl, rfl, ?_, fun j hj hne => ?_⟩
    · unfold putCells; rw [Array.size_mapIdx]; exact hsz
    · apply List.ext_getElem?
      intro i
      by_cases hi : i < n * k
      · have hi2 : i < ys.length := by omega
        have hc : i < cur.size := by omega
        rw [List.getElem?_take_of_lt (by omega), Array.getElem?_toList, List.getElem?_eq_getElem hi2]
        unfold putCells
        rw [Array.getElem?_mapIdx, Array.getElem?_eq_getElem hc]
        simp only [Option.map_some, Nat.zero_le, Nat.zero_add, true_and, Nat.sub_zero]
        rw [if_pos (by simpa using hi2), getElem!_pos ys.toArray i (by simpa using hi2)]; simp
      · rw [List.getElem?_eq_none (by rw [List.length_take]; omega), List.getElem?_eq_none (by omega)]
    · show w.heap.size ≤ ((w.heap.modify g _) ++ os).size
      simp
    · show ((w.heap.modify g (onCells (putCells id 0 ys.toArray))) ++ os)[j]? = _
      rw [Array.getElem?_append_left (by simpa using hj), Array.getElem?_modify, if_neg (fun e => hne e.symm)]
end
theorem flatK_list {α : Type} [Inhabited α] {enc : α → List Value} {k : Nat} (hk : ∀ x, (enc x).length = k) (l : List α) : flatK enc k l.toArray = (l.flatMap enc).toArray := by
  apply ext_get!
  · simp [flat_len hk]
  · intro t ht
    have ht' : t < l.length * k := by simpa using ht
    have hk0 : 0 < k := by rcases Nat.eq_zero_or_pos k with h | h; (subst h; simp at ht'); exact h
    rw [get_flatK enc k l.toArray t (by simpa using ht')]
    have hq : t / k < l.length := (Nat.div_lt_iff_lt_mul hk0).2 ht'
    have hr : t % k < k := Nat.mod_lt _ hk0
    have e1 : l.toArray[t / k]! = l[t / k] := by rw [getElem!_pos l.toArray (t / k) (by simpa using hq)]; simp
    rw [e1]
    have hx : l[t / k]? = some l[t / k] := List.getElem?_eq_getElem hq
    have hu : (enc l[t / k])[t % k]? = some ((enc l[t / k])[t % k]'(by rw [hk]; exact hr)) := List.getElem?_eq_getElem _
    have h := flat_get (f := enc) (sz := k) (l := l) (fun y _ => hk y) hx hu
    rw [show t / k * k + t % k = t from by rw [Nat.mul_comm]; exact Nat.div_add_mod t k] at h
    have hlen : t < (l.flatMap enc).length := by rw [flat_len hk]; exact ht'
    rw [getElem!_pos (enc l[t / k]) (t % k) (by rw [hk]; exact hr), getElem!_pos (l.flatMap enc).toArray t (by simpa using hlen)]
    have := (List.getElem?_eq_some_iff.1 h).2
    simp [this]
end Go.Proofs.Ytdkgdidnknojlaa.K
namespace Go.Proofs.Ytdkgdidnknojlaa.K
open Go Go.Proofs Go.RowKit Go.Shelf Go.Sort Go.Lib
set_option linter.unusedVariables false
set_option linter.unusedSimpArgs false
def laysTR : Go.Shelf.Ren := ⟨fun | 6 => 46 | 15 => 49 | 14 => 54 | 28 => 63 | 29 => 64 | 20 => 74 | 21 => 75 | 22 => 76 | 23 => 77 | 24 => 78 | 25 => 79 | 26 => 80 | 27 => 81 | 46 => 91 | 47 => 83 | 48 => 84 | 49 => 92 | 50 => 93 | 57 => 96 | n => n,
  fun | 22 => 75 | 24 => 31 | 25 => 57 | 3 => 3 | 39 => 90 | 0 => 0 | 53 => 104 | 55 => 106 | 4 => 4 | 46 => 97 | 45 => 96 | 50 => 101 | 5 => 5 | 9 => 9 | 66 => 118 | 70 => 122 | 76 => 129 | 77 => 130 | n => n,
  fun | _ => 0⟩
theorem laysTL : SlLaysF0.n6 Try.prog laysTR := {
  mixed := (by kernel_rfl),
  f6 := ⟨"slices.SortFunc[[]sherd/api.Tag,sherd/api.Tag]", of_decide_eq_true (by kernel_rfl), Try.func46.trans (congrArg some (by kernel_rfl))⟩,
  f14 := ⟨"slices.pdqsortCmpFunc[sherd/api.Tag]", of_decide_eq_true (by kernel_rfl), Try.func54.trans (congrArg some (by kernel_rfl))⟩,
  f15 := Try.func49.trans (congrArg some (by kernel_rfl)),
  f20 := ⟨"slices.insertionSortCmpFunc[sherd/api.Tag]", of_decide_eq_true (by kernel_rfl), Try.func74.trans (congrArg some (by kernel_rfl))⟩,
  f21 := ⟨"slices.heapSortCmpFunc[sherd/api.Tag]", of_decide_eq_true (by kernel_rfl), Try.func75.trans (congrArg some (by kernel_rfl))⟩,
  f22 := ⟨"slices.breakPatternsCmpFunc[sherd/api.Tag]", of_decide_eq_true (by kernel_rfl), Try.func76.trans (congrArg some (by kernel_rfl))⟩,
  f23 := ⟨"slices.choosePivotCmpFunc[sherd/api.Tag]", of_decide_eq_true (by kernel_rfl), Try.func77.trans (congrArg some (by kernel_rfl))⟩,
  f24 := ⟨"slices.reverseRangeCmpFunc[sherd/api.Tag]", of_decide_eq_true (by kernel_rfl), Try.func78.trans (congrArg some (by kernel_rfl))⟩,
  f25 := ⟨"slices.partialInsertionSortCmpFunc[sherd/api.Tag]", of_decide_eq_true (by kernel_rfl), Try.func79.trans (congrArg some (by kernel_rfl))⟩,
  f26 := ⟨"slices.partitionEqualCmpFunc[sherd/api.Tag]", of_decide_eq_true (by kernel_rfl), Try.func80.trans (congrArg some (by kernel_rfl))⟩,
  f27 := ⟨"slices.partitionCmpFunc[sherd/api.Tag]", of_decide_eq_true (by kernel_rfl), Try.func81.trans (congrArg some (by kernel_rfl))⟩,
  f28 := Try.func63.trans (congrArg some (by kernel_rfl)),
  f29 := Try.func64.trans (congrArg some (by kernel_rfl)),
  f46 := ⟨"slices.siftDownCmpFunc[sherd/api.Tag]", of_decide_eq_true (by kernel_rfl), Try.func91.trans (congrArg some (by kernel_rfl))⟩,
  f47 := Try.func83.trans (congrArg some (by kernel_rfl)),
  f48 := Try.func84.trans (congrArg some (by kernel_rfl)),
  f49 := ⟨"slices.medianAdjacentCmpFunc[sherd/api.Tag]", of_decide_eq_true (by kernel_rfl), Try.func92.trans (congrArg some (by kernel_rfl))⟩,
  f50 := ⟨"slices.medianCmpFunc[sherd/api.Tag]", of_decide_eq_true (by kernel_rfl), Try.func93.trans (congrArg some (by kernel_rfl))⟩,
  f57 := ⟨"slices.order2CmpFunc[sherd/api.Tag]", of_decide_eq_true (by kernel_rfl), Try.func96.trans (congrArg some (by kernel_rfl))⟩,
  t0 := Try.underlying0,
  a0 := Try.isAgg0,
  z0 := Try.sizeOf0,
  v0 := Try.zeroValue0,
  t3 := Try.underlying3,
  a3 := Try.isAgg3,
  z3 := Try.sizeOf3,
  v3 := Try.zeroValue3,
  t4 := Try.underlying4,
  a4 := Try.isAgg4,
  z4 := Try.sizeOf4,
  v4 := Try.zeroValue4,
  t5 := Try.underlying5,
  a5 := Try.isAgg5,
  z5 := Try.sizeOf5,
  v5 := Try.zeroValue5,
  t9 := Try.underlying9,
  a9 := Try.isAgg9,
  z9 := Try.sizeOf9,
  v9 := Try.zeroValue9,
  t22 := Try.underlying75,
  a22 := Try.isAgg75,
  z22 := Try.sizeOf75,
  v22 := Try.zeroValue75,
  t25 := Try.underlying57,
  a25 := Try.isAgg57,
  z25 := Try.sizeOf57,
  v25 := Try.zeroValue57,
  t39 := Try.underlying90,
  a39 := Try.isAgg90,
  z39 := Try.sizeOf90,
  v39 := Try.zeroValue90,
  t45 := Try.underlying96,
  a45 := Try.isAgg96,
  z45 := Try.sizeOf96,
  v45 := Try.zeroValue96,
  t46 := Try.underlying97,
  a46 := Try.isAgg97,
  z46 := Try.sizeOf97,
  v46 := Try.zeroValue97,
  t50 := Try.underlying101,
  a50 := Try.isAgg101,
  z50 := Try.sizeOf101,
  v50 := Try.zeroValue101,
  t53 := Try.underlying104,
  a53 := Try.isAgg104,
  z53 := Try.sizeOf104,
  v53 := Try.zeroValue104,
  t55 := Try.underlying106,
  a55 := Try.isAgg106,
  z55 := Try.sizeOf106,
  v55 := Try.zeroValue106,
  t66 := Try.underlying118,
  a66 := Try.isAgg118,
  z66 := Try.sizeOf118,
  v66 := Try.zeroValue118,
  t70 := Try.underlying122,
  a70 := Try.isAgg122,
  z70 := Try.sizeOf122,
  v70 := Try.zeroValue122,
  t76 := Try.underlying129,
  a76 := Try.isAgg129,
  z76 := Try.sizeOf129,
  v76 := Try.zeroValue129,
  t77 := Try.underlying130,
  a77 := Try.isAgg130,
  z77 := Try.sizeOf130,
  v77 := Try.zeroValue130 }
def laysER : Go.Shelf.Ren := ⟨fun | 6 => 36 | 15 => 49 | 14 => 48 | 28 => 63 | 29 => 64 | 20 => 55 | 21 => 56 | 22 => 57 | 23 => 58 | 24 => 59 | 25 => 60 | 26 => 61 | 27 => 62 | 46 => 82 | 47 => 83 | 48 => 84 | 49 => 85 | 50 => 86 | 57 => 94 | n => n,
  fun | 22 => 48 | 24 => 34 | 25 => 80 | 3 => 3 | 39 => 90 | 0 => 0 | 53 => 104 | 55 => 106 | 4 => 4 | 46 => 97 | 45 => 96 | 50 => 101 | 5 => 5 | 9 => 9 | 66 => 118 | 70 => 122 | 76 => 129 | 77 => 130 | n => n,
  fun | _ => 0⟩
theorem laysEL : SlLaysF0.n6 Try.prog laysER := {
  mixed := (by kernel_rfl),
  f6 := ⟨"slices.SortFunc[[]sherd/api.Entry,sherd/api.Entry]", of_decide_eq_true (by kernel_rfl), Try.func36.trans (congrArg some (by kernel_rfl))⟩,
  f14 := ⟨"slices.pdqsortCmpFunc[sherd/api.Entry]", of_decide_eq_true (by kernel_rfl), Try.func48.trans (congrArg some (by kernel_rfl))⟩,
  f15 := Try.func49.trans (congrArg some (by kernel_rfl)),
  f20 := ⟨"slices.insertionSortCmpFunc[sherd/api.Entry]", of_decide_eq_true (by kernel_rfl), Try.func55.trans (congrArg some (by kernel_rfl))⟩,
  f21 := ⟨"slices.heapSortCmpFunc[sherd/api.Entry]", of_decide_eq_true (by kernel_rfl), Try.func56.trans (congrArg some (by kernel_rfl))⟩,
  f22 := ⟨"slices.breakPatternsCmpFunc[sherd/api.Entry]", of_decide_eq_true (by kernel_rfl), Try.func57.trans (congrArg some (by kernel_rfl))⟩,
  f23 := ⟨"slices.choosePivotCmpFunc[sherd/api.Entry]", of_decide_eq_true (by kernel_rfl), Try.func58.trans (congrArg some (by kernel_rfl))⟩,
  f24 := ⟨"slices.reverseRangeCmpFunc[sherd/api.Entry]", of_decide_eq_true (by kernel_rfl), Try.func59.trans (congrArg some (by kernel_rfl))⟩,
  f25 := ⟨"slices.partialInsertionSortCmpFunc[sherd/api.Entry]", of_decide_eq_true (by kernel_rfl), Try.func60.trans (congrArg some (by kernel_rfl))⟩,
  f26 := ⟨"slices.partitionEqualCmpFunc[sherd/api.Entry]", of_decide_eq_true (by kernel_rfl), Try.func61.trans (congrArg some (by kernel_rfl))⟩,
  f27 := ⟨"slices.partitionCmpFunc[sherd/api.Entry]", of_decide_eq_true (by kernel_rfl), Try.func62.trans (congrArg some (by kernel_rfl))⟩,
  f28 := Try.func63.trans (congrArg some (by kernel_rfl)),
  f29 := Try.func64.trans (congrArg some (by kernel_rfl)),
  f46 := ⟨"slices.siftDownCmpFunc[sherd/api.Entry]", of_decide_eq_true (by kernel_rfl), Try.func82.trans (congrArg some (by kernel_rfl))⟩,
  f47 := Try.func83.trans (congrArg some (by kernel_rfl)),
  f48 := Try.func84.trans (congrArg some (by kernel_rfl)),
  f49 := ⟨"slices.medianAdjacentCmpFunc[sherd/api.Entry]", of_decide_eq_true (by kernel_rfl), Try.func85.trans (congrArg some (by kernel_rfl))⟩,
  f50 := ⟨"slices.medianCmpFunc[sherd/api.Entry]", of_decide_eq_true (by kernel_rfl), Try.func86.trans (congrArg some (by kernel_rfl))⟩,
  f57 := ⟨"slices.order2CmpFunc[sherd/api.Entry]", of_decide_eq_true (by kernel_rfl), Try.func94.trans (congrArg some (by kernel_rfl))⟩,
  t0 := Try.underlying0,
  a0 := Try.isAgg0,
  z0 := Try.sizeOf0,
  v0 := Try.zeroValue0,
  t3 := Try.underlying3,
  a3 := Try.isAgg3,
  z3 := Try.sizeOf3,
  v3 := Try.zeroValue3,
  t4 := Try.underlying4,
  a4 := Try.isAgg4,
  z4 := Try.sizeOf4,
  v4 := Try.zeroValue4,
  t5 := Try.underlying5,
  a5 := Try.isAgg5,
  z5 := Try.sizeOf5,
  v5 := Try.zeroValue5,
  t9 := Try.underlying9,
  a9 := Try.isAgg9,
  z9 := Try.sizeOf9,
  v9 := Try.zeroValue9,
  t22 := Try.underlying48,
  a22 := Try.isAgg48,
  z22 := Try.sizeOf48,
  v22 := Try.zeroValue48,
  t25 := Try.underlying80,
  a25 := Try.isAgg80,
  z25 := Try.sizeOf80,
  v25 := Try.zeroValue80,
  t39 := Try.underlying90,
  a39 := Try.isAgg90,
  z39 := Try.sizeOf90,
  v39 := Try.zeroValue90,
  t45 := Try.underlying96,
  a45 := Try.isAgg96,
  z45 := Try.sizeOf96,
  v45 := Try.zeroValue96,
  t46 := Try.underlying97,
  a46 := Try.isAgg97,
  z46 := Try.sizeOf97,
  v46 := Try.zeroValue97,
  t50 := Try.underlying101,
  a50 := Try.isAgg101,
  z50 := Try.sizeOf101,
  v50 := Try.zeroValue101,
  t53 := Try.underlying104,
  a53 := Try.isAgg104,
  z53 := Try.sizeOf104,
  v53 := Try.zeroValue104,
  t55 := Try.underlying106,
  a55 := Try.isAgg106,
  z55 := Try.sizeOf106,
  v55 := Try.zeroValue106,
  t66 := Try.underlying118,
  a66 := Try.isAgg118,
  z66 := Try.sizeOf118,
  v66 := Try.zeroValue118,
  t70 := Try.underlying122,
  a70 := Try.isAgg122,
  z70 := Try.sizeOf122,
  v70 := Try.zeroValue122,
  t76 := Try.underlying129,
  a76 := Try.isAgg129,
  z76 := Try.sizeOf129,
  v76 := Try.zeroValue129,
  t77 := Try.underlying130,
  a77 := Try.isAgg130,
  z77 := Try.sizeOf130,
  v77 := Try.zeroValue130 }
def laysCR : Go.Shelf.Ren := ⟨fun | 5 => 40 | 7 => 51 | n => n,
  fun | 22 => 2 | 3 => 3 | 4 => 4 | n => n,
  fun | _ => 0⟩
theorem laysCL : SlLaysC2.n5 Try.prog laysCR := {
  mixed := (by kernel_rfl),
  f5 := ⟨"cmp.Compare[int64]", of_decide_eq_true (by kernel_rfl), Try.func40.trans (congrArg some (by kernel_rfl))⟩,
  f7 := ⟨"cmp.isNaN[int64]", of_decide_eq_true (by kernel_rfl), Try.func51.trans (congrArg some (by kernel_rfl))⟩,
  t3 := Try.underlying3,
  a3 := Try.isAgg3,
  z3 := Try.sizeOf3,
  v3 := Try.zeroValue3,
  t4 := Try.underlying4,
  a4 := Try.isAgg4,
  z4 := Try.sizeOf4,
  v4 := Try.zeroValue4,
  t22 := Try.underlying2,
  a22 := Try.isAgg2,
  z22 := Try.sizeOf2,
  v22 := Try.zeroValue2 }
def laysIR : Go.Shelf.Ren := ⟨fun | 5 => 41 | 7 => 52 | n => n,
  fun | 22 => 3 | 3 => 3 | 4 => 4 | n => n,
  fun | _ => 0⟩
theorem laysIL : SlLaysC2.n5 Try.prog laysIR := {
  mixed := (by kernel_rfl),
  f5 := ⟨"cmp.Compare[int]", of_decide_eq_true (by kernel_rfl), Try.func41.trans (congrArg some (by kernel_rfl))⟩,
  f7 := ⟨"cmp.isNaN[int]", of_decide_eq_true (by kernel_rfl), Try.func52.trans (congrArg some (by kernel_rfl))⟩,
  t3 := Try.underlying3,
  a3 := Try.isAgg3,
  z3 := Try.sizeOf3,
  v3 := Try.zeroValue3,
  t4 := Try.underlying4,
  a4 := Try.isAgg4,
  z4 := Try.sizeOf4,
  v4 := Try.zeroValue4,
  t22 := Try.underlying3,
  a22 := Try.isAgg3,
  z22 := Try.sizeOf3,
  v22 := Try.zeroValue3 }
def laysSR : Go.Shelf.Ren := ⟨fun | 190 => 44 | 125 => 49 | 258 => 53 | 128 => 63 | 129 => 64 | 302 => 65 | 303 => 66 | 304 => 67 | 305 => 68 | 306 => 69 | 307 => 70 | 308 => 71 | 309 => 72 | 310 => 73 | 333 => 87 | 329 => 83 | 330 => 84 | 334 => 88 | 335 => 89 | 336 => 90 | 344 => 95 | n => n,
  fun | 31 => 72 | 9 => 9 | 3 => 3 | 46 => 90 | 0 => 0 | 51 => 104 | 53 => 106 | 4 => 4 | 183 => 97 | 182 => 96 | 131 => 101 | 5 => 5 | 218 => 118 | 222 => 122 | 228 => 129 | 229 => 130 | n => n,
  fun | _ => 0⟩
theorem laysSL : Lays.n190 Try.prog laysSR := {
  mixed := (by kernel_rfl),
  f125 := Try.func49.trans (congrArg some (by kernel_rfl)),
  f128 := Try.func63.trans (congrArg some (by kernel_rfl)),
  f129 := Try.func64.trans (congrArg some (by kernel_rfl)),
  f190 := Try.func44.trans (congrArg some (by kernel_rfl)),
  f258 := Try.func53.trans (congrArg some (by kernel_rfl)),
  f302 := Try.func65.trans (congrArg some (by kernel_rfl)),
  f303 := Try.func66.trans (congrArg some (by kernel_rfl)),
  f304 := Try.func67.trans (congrArg some (by kernel_rfl)),
  f305 := Try.func68.trans (congrArg some (by kernel_rfl)),
  f306 := Try.func69.trans (congrArg some (by kernel_rfl)),
  f307 := Try.func70.trans (congrArg some (by kernel_rfl)),
  f308 := Try.func71.trans (congrArg some (by kernel_rfl)),
  f309 := Try.func72.trans (congrArg some (by kernel_rfl)),
  f310 := Try.func73.trans (congrArg some (by kernel_rfl)),
  f329 := Try.func83.trans (congrArg some (by kernel_rfl)),
  f330 := Try.func84.trans (congrArg some (by kernel_rfl)),
  f333 := Try.func87.trans (congrArg some (by kernel_rfl)),
  f334 := Try.func88.trans (congrArg some (by kernel_rfl)),
  f335 := Try.func89.trans (congrArg some (by kernel_rfl)),
  f336 := Try.func90.trans (congrArg some (by kernel_rfl)),
  f344 := Try.func95.trans (congrArg some (by kernel_rfl)),
  t0 := Try.underlying0,
  a0 := Try.isAgg0,
  z0 := Try.sizeOf0,
  v0 := Try.zeroValue0,
  t3 := Try.underlying3,
  a3 := Try.isAgg3,
  z3 := Try.sizeOf3,
  v3 := Try.zeroValue3,
  t4 := Try.underlying4,
  a4 := Try.isAgg4,
  z4 := Try.sizeOf4,
  v4 := Try.zeroValue4,
  t5 := Try.underlying5,
  a5 := Try.isAgg5,
  z5 := Try.sizeOf5,
  v5 := Try.zeroValue5,
  t9 := Try.underlying9,
  a9 := Try.isAgg9,
  z9 := Try.sizeOf9,
  v9 := Try.zeroValue9,
  t31 := Try.underlying72,
  a31 := Try.isAgg72,
  z31 := Try.sizeOf72,
  v31 := Try.zeroValue72,
  t46 := Try.underlying90,
  a46 := Try.isAgg90,
  z46 := Try.sizeOf90,
  v46 := Try.zeroValue90,
  t51 := Try.underlying104,
  a51 := Try.isAgg104,
  z51 := Try.sizeOf104,
  v51 := Try.zeroValue104,
  t53 := Try.underlying106,
  a53 := Try.isAgg106,
  z53 := Try.sizeOf106,
  v53 := Try.zeroValue106,
  t131 := Try.underlying101,
  a131 := Try.isAgg101,
  z131 := Try.sizeOf101,
  v131 := Try.zeroValue101,
  t182 := Try.underlying96,
  a182 := Try.isAgg96,
  z182 := Try.sizeOf96,
  v182 := Try.zeroValue96,
  t183 := Try.underlying97,
  a183 := Try.isAgg97,
  z183 := Try.sizeOf97,
  v183 := Try.zeroValue97,
  t218 := Try.underlying118,
  a218 := Try.isAgg118,
  z218 := Try.sizeOf118,
  v218 := Try.zeroValue118,
  t222 := Try.underlying122,
  a222 := Try.isAgg122,
  z222 := Try.sizeOf122,
  v222 := Try.zeroValue122,
  t228 := Try.underlying129,
  a228 := Try.isAgg129,
  z228 := Try.sizeOf129,
  v228 := Try.zeroValue129,
  t229 := Try.underlying130,
  a229 := Try.isAgg130,
  z229 := Try.sizeOf130,
  v229 := Try.zeroValue130 }
theorem cmpI_lib (a b : Int) : Lib.compareInt a b = cmpI a b := by unfold Lib.compareInt cmpI; rfl
set_option maxHeartbeats 2000000 in
theorem cmpX (x y : GTag) (W : World) : Calls Try.prog 21 #[GTag.val x, GTag.val y] W fun e w' => e = .returned (.int .i64 (tagCmp x y)) ∧ ∃ q os', w' = grow (W.drewN q) os' := by
  show Calls Try.prog 21 #[.agg #[.int .i64 x.Count, .int .i64 x.Client], .agg #[.int .i64 y.Count, .int .i64 y.Client]] W _
  have h1 : ∀ W', Calls Try.prog 40 #[.int .i64 x.Count, .int .i64 y.Count] W' fun e w' => e = .returned (.int .i64 (cmpI x.Count y.Count)) ∧ w' = W' := fun W' => by rw [← cmpI_lib]; exact AnyG.cmp_Compare_int laysCL x.Count y.Count W'
  have h2 : ∀ W', Calls Try.prog 41 #[.int .i64 x.Client, .int .i64 y.Client] W' fun e w' => e = .returned (.int .i64 (cmpI x.Client y.Client)) ∧ w' = W' := fun W' => by rw [← cmpI_lib]; exact AnyG.cmp_Compare_int laysIL x.Client y.Client W'
  unfold tagCmp
  generalize cmpI x.Count y.Count = r1 at h1 ⊢
  generalize cmpI x.Client y.Client = r2 at h2 ⊢
  go_enter Try.func21, Try.ntmps21
  go_wp2_with (first | (go_at_call 40; refine (h1 _).mono ?_; rintro e w' ⟨rfl, rfl⟩) | (go_at_call 41; refine (h2 _).mono ?_; rintro e w' ⟨rfl, rfl⟩))
  all_goals (go_ret; refine ⟨?_, 0, _, by rw [alloc_eq_grow, alloc_eq_grow, grow_grow]; rfl⟩; simp_all)
theorem drewN_grow' (W : World) (os : Array Obj) (q : Nat) : (grow W os).drewN q = grow (W.drewN q) os := rfl
set_option maxHeartbeats 2000000 in
theorem clT (x y : GTag) (W : World) : Calls Try.prog 47 #[GTag.val x, GTag.val y] W fun e w' => e = .returned (.int .i64 (tagCmp y x)) ∧ ∃ q os', w' = grow (W.drewN q) os' := by
  have h1 := fun W' => cmpX y x W'
  show Calls Try.prog 47 #[.agg #[.int .i64 x.Count, .int .i64 x.Client], .agg #[.int .i64 y.Count, .int .i64 y.Client]] W _
  change ∀ W', Calls Try.prog 21 #[.agg #[.int .i64 y.Count, .int .i64 y.Client], .agg #[.int .i64 x.Count, .int .i64 x.Client]] W' _ at h1
  generalize tagCmp y x = r at h1 ⊢
  go_enter Try.func47, Try.ntmps47
  go_wp2_with (go_at_call 21; refine (h1 _).mono ?_; rintro e w' ⟨rfl, q, os', rfl⟩)
  go_ret
  exact ⟨rfl, _, _, by rw [alloc_eq_grow, alloc_eq_grow, grow_grow, drewN_grow', grow_grow]⟩
set_option maxHeartbeats 2000000 in
theorem clE (x y : GEntry) (W : World) : Calls Try.prog 37 #[GEntry.val x, GEntry.val y] W fun e w' => e = .returned (.int .i64 (tagCmp x.Tag y.Tag)) ∧ ∃ q os', w' = grow (W.drewN q) os' := by
  have h1 := fun W' => cmpX x.Tag y.Tag W'
  show Calls Try.prog 37 #[.agg #[.int .i64 x.Tag.Count, .int .i64 x.Tag.Client, .bool x.Fin, .bool x.Has, .slice x.Data.a x.Data.n x.Data.c], .agg #[.int .i64 y.Tag.Count, .int .i64 y.Tag.Client, .bool y.Fin, .bool y.Has, .slice y.Data.a y.Data.n y.Data.c]] W _
  change ∀ W', Calls Try.prog 21 #[.agg #[.int .i64 x.Tag.Count, .int .i64 x.Tag.Client], .agg #[.int .i64 y.Tag.Count, .int .i64 y.Tag.Client]] W' _ at h1
  generalize tagCmp x.Tag y.Tag = r at h1 ⊢
  go_enter Try.func37, Try.ntmps37
  go_wp2_with (go_at_call 21; refine (h1 _).mono ?_; rintro e w' ⟨rfl, q, os', rfl⟩)
  go_ret
  exact ⟨rfl, _, _, by rw [alloc_eq_grow, alloc_eq_grow, grow_grow, drewN_grow', grow_grow]⟩
theorem swoT : SWO (ltOf fun x y : GTag => tagCmp y x) where
  irrefl x := by simp only [ltOf, decide_eq_false_iff_not, cmp_lt]; exact tlt_irr
  trans x y z h1 h2 := by simp only [ltOf, decide_eq_true_eq, cmp_lt] at *; exact tlt_trans h2 h1
  ntrans x y z h1 h2 := by simp only [ltOf, decide_eq_false_iff_not, cmp_lt] at *; unfold tlt at *; omega
theorem swoE : SWO (ltOf fun x y : En => tagCmp x.e.Tag y.e.Tag) where
  irrefl x := by simp only [ltOf, decide_eq_false_iff_not, cmp_lt]; exact tlt_irr
  trans x y z h1 h2 := by simp only [ltOf, decide_eq_true_eq, cmp_lt] at *; exact tlt_trans h1 h2
  ntrans x y z h1 h2 := by simp only [ltOf, decide_eq_false_iff_not, cmp_lt] at *; unfold tlt at *; omega
theorem sort_tags {w0 w : World} {L : List Res} {a : Option Addr} {n c : Nat} {l : List GTag} (hb : n ≤ 1048600) (hp : Hp w0 Non (Res.own 31 2 (.slice a n c) n (List.flatMap GTag.cells l) :: L) w) :
    Calls Try.prog 46 #[.slice a n c, .func (.func 47) #[] #[]] w (fun x w' => x = .returned (.tuple #[]) ∧ Hp w0 Non (Res.own 31 2 (.slice a n c) n (List.flatMap GTag.cells (List.mergeSort l geT)) :: L) w') := by
  have hl : l.length = n := own_flat (f := GTag.cells) (sz := 2) (fun _ => rfl) (by decide) hp.get0
  by_cases h0 : n = 0
  · subst h0
    obtain rfl : l = [] := List.eq_nil_of_length_eq_zero hl
    refine (AnyF.slices_SortFunc_none laysTL a c (.func (.func 47) #[] #[]) w).mono ?_
    rintro x w' ⟨rfl, rfl⟩
    exact ⟨rfl, by rw [List.mergeSort_nil]; exact hp⟩
  · obtain ⟨g, rfl, hH, hg, _⟩ := ownK_holds hp.get0 (by omega)
    have hH' : HoldsK GTag.cells 2 w g 0 l.toArray := by unfold HoldsK; rw [flatK_list (enc := GTag.cells) (k := 2) (fun _ => rfl)]; exact hH
    have hc := AnyQ.slices_SortFunc_total laysTL 2 (fun w => Try.isAgg31 w) (fun w => Try.sizeOf31 w) GTag.cells (fun _ => rfl) (fun x v hv => by simp [GTag.cells] at hv; rcases hv with rfl | rfl <;> rfl) (fun x y : GTag => tagCmp y x) swoT 47 #[] g 0 c l.toArray w (enter_of Try.func47 (by kernel_rfl) (by kernel_rfl)) (fun m os dk _ x y => clT x y _) hH' hg (by simp; omega) (fun x y h1 h2 => by simp only [ltOf, decide_eq_false_iff_not, cmp_lt] at h1 h2; exact tlt_tri h2 h1)
    rw [show l.toArray.size = n from by simpa using hl] at hc
    refine hc.mono ?_
    rintro x w' ⟨rfl, k, os, rfl⟩
    have e : sortWorldK GTag.cells 2 w g 0 k (List.mergeSort l geT).toArray os = grow (putRow id (Sort.ahead w k) g 0 (List.flatMap GTag.cells (List.mergeSort l geT)).toArray) os := by
      unfold sortWorldK putRowK
      rw [flatK_list (enc := GTag.cells) (k := 2) (fun _ => rfl)]
    obtain ⟨h1, h2⟩ := ownK_sorted (ys := List.flatMap GTag.cells (List.mergeSort l geT)) (m := k) (os := os) hp.get0 (by rw [flat_len (sz := 2) (fun _ => rfl), flat_len (sz := 2) (fun _ => rfl), List.length_mergeSort])
    rw [← e] at h1 h2
    exact ⟨rfl, Hp.mod (A := []) hp (h2.mono fun b _ hb => by subst hb; rfl) _ h1 fun b hb => ⟨Nat.lt_of_lt_of_le (hp.lt0 b hb) h2.size, .inl hb⟩⟩
theorem sort_ents {w0 w : World} {L : List Res} {a : Option Addr} {n c : Nat} {l : List En} (hb : n ≤ 1048600) (hp : Hp w0 Non (Res.own 34 5 (.slice a n c) n (List.flatMap eC l) :: L) w) :
    Calls Try.prog 36 #[.slice a n c, .func (.func 37) #[] #[]] w (fun x w' => ∃ l', x = .returned (.tuple #[]) ∧ (l'.Perm l ∧ l'.Pairwise fun x y => ¬ tlt y.e.Tag x.e.Tag) ∧ Hp w0 Non (Res.own 34 5 (.slice a n c) n (List.flatMap eC l') :: L) w') := by
  have hl : l.length = n := own_flat (f := eC) (sz := 5) (fun _ => rfl) (by decide) hp.get0
  by_cases h0 : n = 0
  · subst h0
    obtain rfl : l = [] := List.eq_nil_of_length_eq_zero hl
    refine (AnyF.slices_SortFunc_none laysEL a c (.func (.func 37) #[] #[]) w).mono ?_
    rintro x w' ⟨rfl, rfl⟩
    exact ⟨[], rfl, ⟨List.Perm.refl _, List.Pairwise.nil⟩, hp⟩
  · obtain ⟨g, rfl, hH, hg, _⟩ := ownK_holds hp.get0 (by omega)
    have hH' : HoldsK eC 5 w g 0 l.toArray := by unfold HoldsK; rw [flatK_list (enc := eC) (k := 5) (fun _ => rfl)]; exact hH
    have hc := AnyQ.slices_SortFunc laysEL 5 (fun w => Try.isAgg34 w) (fun w => Try.sizeOf34 w) eC (fun _ => rfl) (fun x v hv => by simp [eC, GEntry.cells] at hv; rcases hv with rfl | rfl | rfl | rfl | rfl <;> rfl) (fun x y : En => tagCmp x.e.Tag y.e.Tag) swoE 37 #[] g 0 c l.toArray w (enter_of Try.func37 (by kernel_rfl) (by kernel_rfl)) (fun m os dk _ x y => clE x.e y.e _) hH' hg (by simp; omega)
    rw [show l.toArray.size = n from by simpa using hl] at hc
    refine hc.mono ?_
    rintro x w' ⟨rfl, d', k, os, hP, hS, rfl⟩
    obtain ⟨p1, _, p3⟩ := hP
    have hdn : d'.size = n := by rw [p1]; simpa using hl
    have hperm : d'.toList.Perm l := by
      have q : (d'.extract 0 n).toList = d'.toList := by rw [← hdn]; simp
      have r : (l.toArray.extract 0 n).toList = l := by rw [← hl]; simp
      rw [q, r] at p3; exact p3
    have hsort : d'.toList.Pairwise fun x y => ¬ tlt y.e.Tag x.e.Tag := by
      rw [List.pairwise_iff_getElem]
      intro i j hi hj hij
      have := hS i j (Nat.zero_le _) hij (by simpa [hdn] using hj)
      rw [getElem!_pos d' j (by simpa using hj), getElem!_pos d' i (by simpa using hi)] at this
      simp only [ltOf, decide_eq_false_iff_not, cmp_lt] at this
      simpa using this
    have e : sortWorldK eC 5 w g 0 k d' os = grow (putRow id (Sort.ahead w k) g 0 (List.flatMap eC d'.toList).toArray) os := by
      unfold sortWorldK putRowK
      rw [← flatK_list (enc := eC) (k := 5) (fun _ => rfl) d'.toList, Array.toArray_toList]
    obtain ⟨h1, h2⟩ := ownK_sorted (ys := List.flatMap eC d'.toList) (m := k) (os := os) hp.get0 (by rw [flat_len (f := eC) (sz := 5) (fun _ => rfl), flat_len (f := eC) (sz := 5) (fun _ => rfl), hperm.length_eq])
    rw [← e] at h1 h2
    exact ⟨d'.toList, rfl, ⟨hperm, hsort⟩, Hp.mod (A := []) hp (h2.mono fun b _ hb => by subst hb; rfl) _ h1 fun b hb => ⟨Nat.lt_of_lt_of_le (hp.lt0 b hb) h2.size, .inl hb⟩⟩
theorem sort_strs {w0 w : World} {L : List Res} {a : Option Addr} {n c : Nat} {l : List ByteArray} (hb : n ≤ 1048600) (hp : Hp w0 Non (Res.own 9 1 (.slice a n c) n (List.flatMap (fun y => [Go.Value.string y]) l) :: L) w) :
    Calls Try.prog 44 #[.slice a n c] w (fun x w' => ∃ l', x = .returned (.tuple #[]) ∧ (l'.Perm l ∧ l'.Pairwise fun x y => Op.bytesLess y.toList x.toList = false) ∧ Hp w0 Non (Res.own 9 1 (.slice a n c) n (List.flatMap (fun y => [Go.Value.string y]) l') :: L) w') := by
  have hl : l.length = n := own_flat (sz := 1) (fun _ => rfl) (by decide) hp.get0
  by_cases h0 : n = 0
  · subst h0
    obtain rfl : l = [] := List.eq_nil_of_length_eq_zero hl
    refine (Any.slices_Sort_string_none laysSL a c w).mono ?_
    rintro x w' ⟨rfl, rfl⟩
    exact ⟨[], rfl, ⟨List.Perm.refl _, List.Pairwise.nil⟩, hp⟩
  · have hinv : ∀ l : List ByteArray, (l.map fun b => b.data.toList).map (fun z => (⟨z.toArray⟩ : ByteArray)) = l := fun l => by rw [List.map_map]; exact (List.map_congr_left fun b _ => by cases b; simp).trans (List.map_id _)
    obtain ⟨g, rfl, hH, hg, _⟩ := ownK_holds hp.get0 (by omega)
    have hH' : Holds encStr w g 0 (l.map fun b => b.data.toList).toArray := fun j hj => by
      have hj2 : j < l.length := by simpa using hj
      have := hH j (by rw [flat_one]; simpa using hj2)
      rw [flat_one, getElem!_pos (l.map Go.Value.string).toArray j (by simpa using hj2)] at this
      rw [getElem!_pos (l.map fun b => b.data.toList).toArray j hj]
      simpa [encStr] using this
    have hc := Any.slices_Sort_string laysSL g 0 c (l.map fun b => b.data.toList) w hH' hg (by simp; omega)
    rw [show (l.map fun b => b.data.toList).length = n from by simpa using hl] at hc
    refine hc.mono ?_
    rintro x w' ⟨rfl, k, os, rfl⟩
    generalize hz : List.mergeSort (l.map fun b => b.data.toList) (fun x y => decide (x ≤ y)) = zs
    have hzp : zs.Perm (l.map fun b => b.data.toList) := hz ▸ List.mergeSort_perm _ _
    have hzs : zs.Pairwise fun x y => decide (x ≤ y) = true := hz ▸ List.pairwise_mergeSort (le := fun (x y : List UInt8) => decide (x ≤ y)) (fun a b c h1 h2 => by simp only [decide_eq_true_eq] at *; exact List.le_trans h1 h2) (fun a b => by simp only [Bool.or_eq_true, decide_eq_true_eq]; exact List.le_total a b) _
    have e : grow (putRow encStr (Sort.ahead w k) g 0 zs.toArray) os = grow (putRow id (Sort.ahead w k) g 0 (List.flatMap (fun y => [Go.Value.string y]) (zs.map fun z => (⟨z.toArray⟩ : ByteArray))).toArray) os := by
      have hcells : putCells encStr 0 zs.toArray = putCells id 0 (List.flatMap (fun y => [Go.Value.string y]) (zs.map fun z => (⟨z.toArray⟩ : ByteArray))).toArray := by
        funext cs
        rw [flat_one, List.map_map]
        unfold putCells
        apply Array.ext
        · simp
        · intro i h1 h2
          simp only [Array.getElem_mapIdx, List.size_toArray, List.length_map]
          split
          · rename_i hc
            have hi : i - 0 < zs.length := by omega
            rw [getElem!_pos zs.toArray (i - 0) (by simpa using hi), getElem!_pos (zs.map _).toArray (i - 0) (by simpa using hi)]
            simp [encStr]
          · rfl
      unfold putRow
      rw [hcells]
    have hlen : (zs.map fun z => (⟨z.toArray⟩ : ByteArray)).length = l.length := by rw [List.length_map, hzp.length_eq, List.length_map]
    obtain ⟨h1, h2⟩ := ownK_sorted (ys := List.flatMap (fun y => [Go.Value.string y]) (zs.map fun z => (⟨z.toArray⟩ : ByteArray))) (m := k) (os := os) hp.get0 (by rw [flat_len (sz := 1) (fun _ => rfl), flat_len (sz := 1) (fun _ => rfl), hlen])
    rw [← e] at h1 h2
    refine ⟨_, rfl, ⟨?_, ?_⟩, Hp.mod (A := []) hp (h2.mono fun b _ hb => by subst hb; rfl) _ h1 fun b hb => ⟨Nat.lt_of_lt_of_le (hp.lt0 b hb) h2.size, .inl hb⟩⟩
    · have := hzp.map (fun z => (⟨z.toArray⟩ : ByteArray))
      rw [hinv] at this
      exact this
    · rw [List.pairwise_map]
      refine hzs.imp fun {x y} h => ?_
      rw [bytesLess_eq, Lib.toList_data, Lib.toList_data]
      simp only [decide_eq_true_eq] at h
      simp only [decide_eq_false_iff_not]
      exact List.not_lt.2 (by simpa using h)
end Go.Proofs.Ytdkgdidnknojlaa.K
namespace Go.Proofs.Ytdkgdidnknojlaa.K
open Go Go.Proofs Go.RowKit
set_option linter.unusedVariables false
set_option linter.unusedSimpArgs false
set_option maxRecDepth 20000
set_option maxHeartbeats 4000000


theorem fz_c (sm : Option Nat) (l : List (GTag × En)) (w : World) (hm : MO w sm kT vE l) (hl : l.length ≤ 1048600) :
    Calls Try.prog 33 #[.map sm] w (fun r_ w' => ∃ a n c, r_ = .returned (.slice a n c) ∧ Hp w Non [Res.own 31 2 (.slice a n c) n ((finS l).flatMap GTag.cells)] w') := by
  obtain ⟨es, cc, hmo⟩ := hm
  refine calls_of Try.func33 rfl 22 rfl (by simp) ?_
  have hp0 := Hp.init w
  have he0 : List.map (env0 [.map sm]) [0] = [.map sm] := by kernel_rfl
  obtain ⟨b0, he0⟩ := toMk he0
  rw [he0]
  clear he0
  refine WP.seq ?_
  refine WP.pure {} [] [0] [.map sm] .nil (by kernel_rfl) (fun b1 => ?_)
  refine thn_n ?_
  refine WP.seq ?_
  refine WP.pure {} [] [0, 3] [.map sm, .slice none 0 0] .nil (by kernel_rfl) (fun b2 => ?_)
  refine thn_n ?_
  refine WP.seq ?_
  refine WP.seq ?_
  refine WP.region _ rfl (by kernel_rfl) ?_
  refine OPS.batch 1 {} [] [3, 6] [.slice none 0 0, .map sm] .nil (by kernel_rfl) (fun b3 => ?_)
  refine OPS.cons (opStep.rangeX (by exact Try.underlying56) hp0 (hmo.fram hp0.fr) (by kernel_rfl) (fun it6 w4 hp5 => ?_))
  refine OPS.nil ?_
  refine thn_n ?_
  refine WP.block ?_
  have hp7 := (show Hp w Non [Res.own 31 2 (.slice none 0 0) 0 (List.flatMap GTag.cells ([] : List GTag)), Res.mit it6 sm es cc ([] : List Nat)] w4 from hp5.nilOwn 31 2)
  refine WP.loop (fun mz_ e8 w9 => ∃ (dn : List Nat) (xs : List GTag) (ao : Option Addr) (no : Nat) (co : Nat), mz_ = l.length - dn.length ∧ (xs = finM l dn ∧ xs.length ≤ dn.length) ∧ List.map e8 [3, 7] = [.slice ao no co, .pointer (some ⟨it6, 0, none⟩)] ∧ Hp w Non [Res.own 31 2 (.slice ao no co) no (List.flatMap GTag.cells xs), Res.mit it6 sm es cc dn] w9) (l.length - ([]).length) ⟨[], [], none, 0, 0, rfl, ⟨rfl, Nat.le_refl _⟩, by kernel_rfl, hp7⟩ ?_
  rintro _ e8 w9 ⟨dn, xs, ao, no, co, rfl, hI11, hE12, hp10⟩
  obtain ⟨b13, rfl⟩ := toMk hE12
  clear hE12
  obtain ⟨pa, pb⟩ := hI11
  have pe := own_flat (f := GTag.cells) (sz := 2) (fun _ => rfl) (by decide) hp10.get0
  have pd := mit_done (Hp.get (A := []) hp10.pull1)
  have pd2 := nodup_le pd.1 pd.2
  rw [hmo.len] at pd2
  refine WP.seq ?_
  refine WP.region _ rfl (by kernel_rfl) ?_
  have hp16 := hp10.pull1
  refine OPS.cons (opStep.nextX hp16 (hmo.fram hp16.fr) (by kernel_rfl) (fun ha21 => ?_) (fun n17 p18 w14 hn19 hm20 hp15 => ?_))
  · have ha21d := mit_done (Hp.get (A := []) hp16)
    refine OPS.batch 1 {} [] [3, 7, 9] [.slice ao no co, .pointer (some ⟨it6, 0, none⟩), .bool false] .nil (by kernel_rfl) (fun b22 => ?_)
    refine OPS.nil ?_
    refine thn_n ?_
    refine WP.seq ?_
    refine WP.condF rfl ?_
    refine WP.exit ?_
    refine thn_x ?_
    refine thn_x ?_
    refine blk_hit ?_
    refine thn_n ?_
    refine WP.seq ?_
    refine WP.region _ rfl (by kernel_rfl) ?_
    refine OPS.batch 1 {} [] [3, 19] [.slice ao no co, .slice ao no co] .nil (by kernel_rfl) (fun b23 => ?_)
    have hp26 := hp16.pull1
    refine OPS.cons (opStep.call (some 20) [.slice ao no co, .func (.func 47) #[] #[]] (by kernel_rfl) (sort_tags (by omega) hp26) ?_)
    rintro _ w27 ⟨rfl, hp28⟩
    refine ⟨_, rfl, ?_⟩
    refine OPS.nil ?_
    refine thn_n ?_
    refine WP.seq ?_
    refine WP.pure {} [] [2] [.slice ao no co] .nil (by kernel_rfl) (fun b29 => ?_)
    refine thn_n ?_
    refine WP.ret ?_
    refine bodyQ.of _ rfl [.slice ao no co] ⟨rfl, trivial⟩ ?_
    exact ⟨_, _, _, rfl, by rw [show finS l = List.mergeSort xs geT from by rw [pa]; exact (finM_all ha21d.1 (by rw [← hmo.len]; exact ha21d.2) ha21).symm]; exact (hp28.sub (.cons_cons _ (.cons _ (.slnil))))⟩
  · refine OPS.batch 1 {} [] [3, 7, 9] [.slice ao no co, .pointer (some ⟨it6, 0, none⟩), .bool true] .nil (by kernel_rfl) (fun b30 => ?_)
    refine OPS.nil ?_
    refine thn_n ?_
    refine WP.seq ?_
    refine WP.condT rfl ?_
    refine WP.skip ?_
    refine thn_n ?_
    refine WP.block ?_
    refine WP.seq ?_
    refine WP.region _ rfl (by kernel_rfl) ?_
    have hp33 := hp15.pull0
    refine OPS.cons (opStep.entryX hp33 (hmo.fram hp33.fr) hn19 (by kernel_rfl) ?_)
    refine OPS.batch 2 {} [] [3, 7, 11, 12] [.slice ao no co, .pointer (some ⟨it6, 0, none⟩), GTag.val p18.1, GEntry.val p18.2.e] .nil (by kernel_rfl) (fun b34 => ?_)
    refine OPS.cons (opStep.alloc hp33 [.int .i64 0, .int .i64 0] (by kernel_rfl) (fun g37 w35 hp36 => ?_))
    refine OPS.cons (opStep.alloc hp36 [.int .i64 0, .int .i64 0, .bool false, .bool false, .slice none 0 0] (by kernel_rfl) (fun g40 w38 hp39 => ?_))
    refine OPS.cons (opStep.store1 hp39 rfl [.int .i64 p18.1.Count, .int .i64 p18.1.Client] [.int .i64 p18.1.Count, .int .i64 p18.1.Client] (by kernel_rfl) (fun w41 hp42 => ?_))
    refine OPS.cons (opStep.store0 hp42 rfl [.int .i64 p18.2.e.Tag.Count, .int .i64 p18.2.e.Tag.Client, .bool p18.2.e.Fin, .bool p18.2.e.Has, .slice p18.2.e.Data.a p18.2.e.Data.n p18.2.e.Data.c] [.int .i64 p18.2.e.Tag.Count, .int .i64 p18.2.e.Tag.Client, .bool p18.2.e.Fin, .bool p18.2.e.Has, .slice p18.2.e.Data.a p18.2.e.Data.n p18.2.e.Data.c] (by kernel_rfl) (fun w43 hp44 => ?_))
    refine OPS.nil ?_
    refine thn_n ?_
    refine WP.seq ?_
    refine WP.pure {} [.bool p18.2.e.Fin] [3, 4, 7, 14] [.slice ao no co, .pointer (some ⟨g37, 0, none⟩), .pointer (some ⟨it6, 0, none⟩), .bool p18.2.e.Fin] (.cons (Ld.row1 (P := Try.prog) (t := 4) (o := 2) (v := .bool p18.2.e.Fin) hp44.get0 (by kernel_rfl)) .nil) (by kernel_rfl) (fun b45 => ?_)
    refine thn_n ?_
    refine WP.test (p := p18.2.e.Fin = true) rfl Bp.var (fun h46 => ?_) (fun h46 => ?_)
    · refine WP.region _ rfl (by kernel_rfl) ?_
      refine OPS.batch 2 {} [GTag.val p18.1] [7, 15, 16] [.pointer (some ⟨it6, 0, none⟩), .slice ao no co, GTag.val p18.1] (.cons (show Ld Try.prog w43 31 ⟨g37, 0, none⟩ (GTag.val p18.1) from Ld.rowN (cs := [.int .i64 p18.1.Count, .int .i64 p18.1.Client]) hp44.get1 (by kernel_rfl)) .nil) (by kernel_rfl) (fun b47 => ?_)
      refine OPS.cons (opStep.buildSlice (E := 31) hp44 [.int .i64 p18.1.Count, .int .i64 p18.1.Client] (by kernel_rfl) (fun g50 w48 hp49 => ?_))
      refine OPS.cons (opStep.append4 [.int .i64 p18.1.Count, .int .i64 p18.1.Client] hp49 16 (by kernel_rfl) rfl rfl rfl (SlR.row (n := 1) hp49.get0 rfl).rd (List.all_eq_true.1 (by kernel_rfl)) (by decide) (by omega) (by omega) (fun a53 c54 w55 hp56 hn57 => ?_))
      rw [(show List.flatMap GTag.cells xs ++ [.int .i64 p18.1.Count, .int .i64 p18.1.Client] = List.flatMap GTag.cells (xs ++ [p18.1]) from (List.flatMap_append (xs := xs) (ys := [p18.1])).symm)] at hp56
      refine OPS.batch 1 {} [] [3, 7] [.slice a53 (no + 1) c54, .pointer (some ⟨it6, 0, none⟩)] .nil (by kernel_rfl) (fun b58 => ?_)
      refine OPS.nil ?_
      refine blk_n ?_
      refine thn_n ?_
      have hd_ := mit_done (Hp.get (A := []) hp56.pull3)
      have hd2_ := nodup_le hd_.1 hd_.2
      rw [hmo.len] at hd2_
      exact ⟨l.length - ((dn ++ [n17])).length, (by simp only [List.length_append, List.length_cons, List.length_nil] at *; omega), (dn ++ [n17]), xs ++ [p18.1], a53, no + 1, c54, rfl, ⟨by rw [pa]; exact finM_snoc hn19 h46, by simp only [List.length_append, List.length_cons, List.length_nil]; omega⟩, by kernel_rfl, (((hp56.pull3).pull4).sub (.cons_cons _ (.cons_cons _ (.cons _ (.cons _ (.cons _ (.slnil)))))))⟩
    · refine WP.skip ?_
      refine blk_n ?_
      refine thn_n ?_
      have hd_ := mit_done (Hp.get (A := []) hp44.pull2)
      have hd2_ := nodup_le hd_.1 hd_.2
      rw [hmo.len] at hd2_
      exact ⟨l.length - ((dn ++ [n17])).length, (by simp only [List.length_append, List.length_cons, List.length_nil] at *; omega), (dn ++ [n17]), xs, ao, no, co, rfl, ⟨by rw [pa]; exact finM_same hn19 h46, by simp only [List.length_append, List.length_cons, List.length_nil]; omega⟩, by kernel_rfl, (((hp44.pull2).pull3).sub (.cons_cons _ (.cons_cons _ (.cons _ (.cons _ (.slnil))))))⟩

theorem fl_c (sm : Option Nat) (l : List (GTag × En)) (dl : Nat) (w : World) (hm : MO w sm kT vE l) (hl : l.length ≤ 1048600) (hd : dl ≤ 4611686018427387903) :
    Calls Try.prog 22 #[.map sm, .int .i64 ((dl : Nat) : Int)] w (fun r_ w' => r_ = .returned (GTag.val (floT l dl)) ∧ Fram Non w w') := by
  refine calls_of Try.func22 rfl 17 rfl (by simp) ?_
  have hp0 := Hp.init w
  have he0 : List.map (env0 [.map sm, .int .i64 ((dl : Nat) : Int)]) [0, 1] = [.map sm, .int .i64 ((dl : Nat) : Int)] := by kernel_rfl
  obtain ⟨b0, he0⟩ := toMk he0
  rw [he0]
  clear he0
  refine WP.seq ?_
  refine WP.region _ rfl (by kernel_rfl) ?_
  refine OPS.cons (opStep.alloc hp0 [.int .i64 0, .int .i64 0] (by kernel_rfl) (fun g3 w1 hp2 => ?_))
  refine OPS.nil ?_
  refine thn_n ?_
  refine WP.seq ?_
  refine WP.region _ rfl (by kernel_rfl) ?_
  refine OPS.batch 1 {} [] [1, 4, 6] [.int .i64 ((dl : Nat) : Int), .pointer (some ⟨g3, 0, none⟩), .map sm] .nil (by kernel_rfl) (fun b4 => ?_)
  refine OPS.cons (opStep.call (some 7) [.map sm] (by kernel_rfl) (fz_c sm l _ (hm.fram hp2.fr) (by first | omega | (simp; done))) ?_)
  rintro _ w7 ⟨a9, n10, c11, rfl, hp8⟩
  refine ⟨_, rfl, ?_⟩
  have hfz := own_flat (f := GTag.cells) (sz := 2) (fun _ => rfl) (by decide) hp8.get0
  have hfs := finS_len (l := l)
  have hp12 := hp2.madeQ hp8
  simp only [List.cons_append, List.nil_append] at hp12
  refine OPS.batch 1 {} [] [1, 4, 5] [.int .i64 ((dl : Nat) : Int), .pointer (some ⟨g3, 0, none⟩), .slice a9 n10 c11] .nil (by kernel_rfl) (fun b14 => ?_)
  refine OPS.nil ?_
  refine thn_n ?_
  refine WP.seq ?_
  refine WP.seq ?_
  refine WP.pure {} [] [1, 4, 5, 11] [.int .i64 ((dl : Nat) : Int), .pointer (some ⟨g3, 0, none⟩), .slice a9 n10 c11, .bool (decide (((dl : Nat) : Int) < ((n10 : Nat) : Int)))] .nil (by kernel_rfl) (fun b15 => ?_)
  refine thn_n ?_
  refine WP.test (p := ((dl : Nat) : Int) < ((n10 : Nat) : Int)) rfl Bp.dec (fun h16 => ?_) (fun h16 => ?_)
  · refine WP.seq ?_
    refine WP.region _ rfl (by kernel_rfl) ?_
    have := own_flat (sz := 2) (fun _ => rfl) (by decide) hp12.get0
    have hy20 : ((finS l))[dl]? = some (finS l)[dl]! := get_bang (by first | (omega) | (simp only [List.length_append, List.length_cons, List.length_nil]; omega) | (simp only [List.length_take, List.length_append, List.length_cons, List.length_nil]; omega))
    refine OPS.batch 4 {} [GTag.val ((finS l)[dl]!)] [4, 15] [.pointer (some ⟨g3, 0, none⟩), GTag.val ((finS l)[dl]!)] (.cons (show InB (((dl : Nat) : Int)) (n10) from ⟨by omega, by omega⟩) (.cons ((SlR.own (hp12.get0)).some (by omega)) (.cons (Ld.add0 (Ld.elN (P := Try.prog) (t := 31) (SlR.own (hp12.get0)).rd 2 (fun _ => rfl) hy20 (o := 0) (cs := [.int .i64 ((finS l)[dl]!.Count), .int .i64 ((finS l)[dl]!.Client)]) (by kernel_rfl))) .nil))) (by kernel_rfl) (fun b21 => ?_)
    refine OPS.cons (opStep.store1 hp12 rfl [.int .i64 ((finS l)[dl]!.Count), .int .i64 ((finS l)[dl]!.Client)] [.int .i64 ((finS l)[dl]!.Count), .int .i64 ((finS l)[dl]!.Client)] (by kernel_rfl) (fun w22 hp23 => ?_))
    refine OPS.nil ?_
    refine thn_n ?_
    refine WP.ret ?_
    refine thn_r ?_
    refine bodyQ.of _ rfl [GTag.val ((finS l)[dl]!)] ⟨⟨_, rfl, (show Ld Try.prog w22 31 ⟨g3, 0, none⟩ (GTag.val ((finS l)[dl]!)) from Ld.rowN (cs := [.int .i64 ((finS l)[dl]!.Count), .int .i64 ((finS l)[dl]!.Client)]) hp23.get1 (by kernel_rfl))⟩, trivial⟩ ?_
    exact ⟨congrArg (fun z => Ending.returned (GTag.val z)) (show ((finS l)[dl]!) = floT l dl from (floT_in (by omega)).symm), hp23.fr⟩
  · refine WP.skip ?_
    refine thn_n ?_
    refine WP.seq ?_
    refine WP.region _ rfl (by kernel_rfl) ?_
    refine OPS.batch 1 {} [] [4, 16] [.pointer (some ⟨g3, 0, none⟩), .agg #[.int .i64 0, .int .i64 0]] .nil (by kernel_rfl) (fun b24 => ?_)
    refine OPS.cons (opStep.store1 hp12 rfl [.int .i64 0, .int .i64 0] [.int .i64 0, .int .i64 0] (by kernel_rfl) (fun w25 hp26 => ?_))
    refine OPS.nil ?_
    refine thn_n ?_
    refine WP.ret ?_
    refine bodyQ.of _ rfl [.agg #[.int .i64 0, .int .i64 0]] ⟨⟨_, rfl, (show Ld Try.prog w25 31 ⟨g3, 0, none⟩ (.agg #[.int .i64 0, .int .i64 0]) from Ld.rowN (cs := [.int .i64 0, .int .i64 0]) hp26.get1 (by kernel_rfl))⟩, trivial⟩ ?_
    exact ⟨congrArg (fun z => Ending.returned (GTag.val z)) (show (⟨0, 0⟩ : GTag) = floT l dl from (floT_out (by omega)).symm), hp26.fr⟩

end Go.Proofs.Ytdkgdidnknojlaa.K
namespace Go.Proofs.Ytdkgdidnknojlaa.K
open Go Go.RowKit

section
variable {P : Program} {N : Nat} {Q : Post} {e : Env} {w : World}
/-- So many rounds at most. -/
def RND (P : Program) (N : Nat) (c : Code) (Q : Post) : Nat → Env → World → Prop
  | 0, _, _ => False
  | n + 1, e, w => WP P N c (thn (RND P N c Q n) Q) e w
theorem RND.step {c : Code} {n : Nat} (h : WP P N c (thn (RND P N c Q n) Q) e w) : RND P N c Q (n + 1) e w := h
theorem WP.rounds {c : Code} (n : Nat) (h : RND P N c Q n e w) : WP P N (.loop c) Q e w := by
  refine WP.loop (fun m e w => RND P N c Q m e w) n h ?_
  intro m e w hm
  cases m with
  | zero => exact hm.elim
  | succ m =>
    refine WP.mono (show WP P N c (thn (RND P N c Q m) Q) e w from hm) ?_
    intro x e w hq
    cases x with
    | normal => exact ⟨m, Nat.lt_succ_self m, hq⟩
    | _ => exact hq
end

section
variable {P : Program} {N : Nat} {ops : Array Oper} {Q : Post} {next : Env → World → Prop} {e : Env} {w w0 : World} {M : Nat → Prop} {L : List Res} {ty : TypeId} {pos : String} {af : Array Edge}
theorem opStep.storeAt {T t : TypeId} {x y : Operand} {b o i : Nat} {c : List Value} (hp : Hp w0 M (Res.row b c t :: L) w) (hx : ev e x = .pointer (some ((⟨b, o, none⟩ : Addr).add (i * 1)))) (v : Value) (c' : List Value)
    (hc : ((ev e y).cells.toList, (P.info? T).map (·.size), v.oneCell') = ([v], some 1, true)) (hl : o + i < c.length) (how : ow c (o + i) [v] = c')
    (h : ∀ w', Hp w0 M (Res.row b c' t :: L) w' → next e w') :
    opStep P N ops Q ⟨none, .store T x y, ty, pos, af, none⟩ next e w := by
  simp only [Prod.mk.injEq] at hc
  obtain ⟨hv, hsz, h1⟩ := hc
  rw [add_mk, Nat.mul_one] at hx
  cases hi : P.info? T with
  | none => simp [hi] at hsz
  | some i' =>
    simp [hi] at hsz
    have hg : w.heap[b]? = some (.cells c.toArray t (0, 0)) := hp.holds (Res.row b c t) (by simp)
    have hlt : b < w.heap.size := (Array.getElem?_eq_some_iff.1 hg).1
    have hrun := run_storeCells_at (P := P) b t (o + i) [v] 0 c w hg (by simp; omega) (by simpa using h1)
    rw [Nat.add_zero, how] at hrun
    refine opStep.skip (w' := w.setRow b c'.toArray) rfl ?_ (h _ ?_)
    · have hs2 : (ev e y).cells.size = i'.size := by rw [hsz]; have := congrArg List.length hv; simpa using this
      simp [execOp, Instr.storeAt, Instr.sureAddr, hx, storeVar, sizeOf, typeInfo, hi, hs2, hv, hrun]
    · refine Hp.mod (A := []) hp (setRow_fram w b _) (Res.row b c' t) (setRow_heap w b _ _ t _ hg) fun k hk => ⟨?_, .inl hk⟩
      have : k = b := hk
      subst this; simpa using hlt
end
end Go.Proofs.Ytdkgdidnknojlaa.K
