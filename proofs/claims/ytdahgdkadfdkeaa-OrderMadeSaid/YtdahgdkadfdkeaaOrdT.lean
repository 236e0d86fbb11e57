/- Calls that took effect one at a time: the plain law of the order in which they did, and of two neighbours that change places. -/
import Derived.Test.YtdahgdkadfdkeaaOrdB
namespace Go.Proofs.Ytdahgdkadfdkeaa.K
open Go Go.RowKit
set_option linter.unusedVariables false
instance : Inhabited SlH := ⟨⟨none, 0, 0⟩⟩
/-- The last Put of the first k calls. -/
def lpI (l : List GCall) : Nat → Int
  | 0 => -1
  | k + 1 => if l[k]!.Put = true then (k : Int) else lpI l k
theorem lpI_lt (l : List GCall) : ∀ k, -1 ≤ lpI l k ∧ lpI l k < (k : Int)
  | 0 => by unfold lpI; omega
  | k + 1 => by have := lpI_lt l k; unfold lpI; split <;> omega
def kK : ByteArray := ⟨#[107]⟩
def tgI (i : Nat) : GTag := ⟨(i : Int) + 1, 100 + (i : Int)⟩
def hisC (l : List GCall) (i : Nat) (c : GCall) : Prop :=
  c.Key = kK ∧ c.Client = 100 + (i : Int) ∧ (0 ≤ c.From ∧ c.From ≤ 100 * (i : Int) + 999) ∧
  (c.Put = true → c.Status = 0 ∧ ((¬ c.Open = true ∧ 100 * (i : Int) + 1001 ≤ c.To ∧ c.Tag = tgI i) ∨ (c.Open = true ∧ c.To = -1 ∧ (c.Tag = tgI i ∨ c.Tag = tag0)))) ∧
  (¬ c.Put = true → ¬ c.Open = true ∧ 100 * (i : Int) + 1001 ≤ c.To ∧ ((lpI l i = -1 ∧ c.Status = 76 ∧ c.Tag = tag0) ∨ (0 ≤ lpI l i ∧ c.Status = 0 ∧ c.Value = l[(lpI l i).toNat]!.Value ∧ c.Tag = tgI (lpI l i).toNat)))
def His (l : List GCall) : Prop := ∀ i, i < l.length → hisC l i l[i]!
theorem appC_get {l : List GCall} {c : GCall} {i : Nat} : (l ++ [c])[i]! = if i < l.length then l[i]! else if i = l.length then c else default := by
  rw [List.getElem!_eq_getElem?_getD, List.getElem!_eq_getElem?_getD, List.getElem?_append]
  by_cases h : i < l.length
  · rw [if_pos h, if_pos h]
  · rw [if_neg h, if_neg h]
    by_cases e : i = l.length
    · subst e; rw [if_pos rfl]; simp
    · rw [if_neg e, List.getElem?_eq_none (by simp; omega)]; rfl
theorem lpI_app {l : List GCall} {c : GCall} : ∀ {k}, k ≤ l.length → lpI (l ++ [c]) k = lpI l k
  | 0, _ => rfl
  | k + 1, h => by
    have e : (l ++ [c])[k]! = l[k]! := by rw [appC_get, if_pos (by omega)]
    unfold lpI; rw [e, lpI_app (by omega)]
theorem hisC_app {l : List GCall} {c x : GCall} {i : Nat} (hi : i ≤ l.length) : hisC (l ++ [c]) i x ↔ hisC l i x := by
  unfold hisC
  rw [lpI_app hi]
  by_cases h : 0 ≤ lpI l i
  · have := (lpI_lt l i).2
    rw [appC_get, if_pos (by omega)]
  · simp [h]
theorem His.app {l : List GCall} {c : GCall} (h : His l) (hc : hisC l l.length c) : His (l ++ [c]) := fun i hi => by
  rw [List.length_append, List.length_singleton] at hi
  rw [hisC_app (by omega), appC_get]
  by_cases e : i < l.length
  · rw [if_pos e]; exact h i e
  · obtain rfl : i = l.length := by omega
    rw [if_neg e, if_pos rfl]; exact hc
theorem His.fit {l : List GCall} (h : His l) : fitP l := fun i hi => by
  have h0 := h 0 (by omega)
  obtain ⟨k, _, f, p, g⟩ := h i hi
  refine ⟨k.trans h0.1.symm, f.1, ?_, ?_, ?_⟩
  · by_cases hp : l[i]!.Put = true
    · rcases (p hp).2 with q | q <;> omega
    · have := (g hp).2.1; omega
  · unfold openP
    by_cases hp : l[i]!.Put = true
    · rcases (p hp).2 with q | q
      · constructor
        · intro e; exact absurd e q.1
        · rintro ⟨_, e | e⟩
          · omega
          · exact absurd (p hp).1 e
      · exact ⟨fun _ => ⟨hp, .inl q.2.1⟩, fun _ => q.1⟩
    · exact ⟨fun e => absurd e (g hp).1, fun e => absurd e.1 hp⟩
  · rintro ⟨⟨hp, _⟩, e⟩
    rcases (p hp).2 with q | q
    · rename_i hh
      rcases hh with hh | hh
      · exact e hh
      · exact hh (p hp).1
    · exact e q.2.1
theorem His.part {l : List GCall} (h : His l) {i : Nat} (hi : i < l.length) : dueP l[i]! ∨ l[i]!.Open = true := by
  obtain ⟨k, _, f, p, g⟩ := h i hi
  by_cases hp : l[i]!.Put = true
  · rcases (p hp).2 with q | q
    · exact .inl (.inl ⟨hp, q.1⟩)
    · exact .inr q.1
  · refine .inl (.inr ⟨hp, by have := (g hp).2.1; omega, ?_⟩)
    rcases (g hp).2.2 with q | q
    · exact .inr q.2.1
    · exact .inl q.2.1
def idsI (n : Nat) : List Int := (List.range n).map fun (i : Nat) => (i : Int)
theorem idsI_len (n : Nat) : (idsI n).length = n := by simp [idsI]
theorem idsI_get {n i : Nat} (h : i < n) : (idsI n)[i]! = (i : Int) := by
  rw [List.getElem!_eq_getElem?_getD]; simp [idsI, h]
theorem idsI_succ (n : Nat) : idsI (n + 1) = idsI n ++ [(n : Int)] := by simp [idsI, List.range_succ]
theorem idsI_nodup (n : Nat) : (idsI n).Nodup := by
  unfold idsI
  rw [List.nodup_iff_pairwise_ne, List.pairwise_map]
  exact List.Pairwise.imp (fun h e => by omega) List.pairwise_lt_range
theorem idsI_mem {n : Nat} {x : Int} : x ∈ idsI n ↔ 0 ≤ x ∧ x < (n : Int) := by
  unfold idsI
  rw [List.mem_map]
  constructor
  · rintro ⟨i, hi, rfl⟩; have := List.mem_range.1 hi; omega
  · rintro ⟨h1, h2⟩; exact ⟨x.toNat, List.mem_range.2 (by omega), by omega⟩
/-- An order that has each call once is whole. -/
theorem perm_whole {l : List GCall} {o : List Int} (hp : o.Perm (idsI l.length)) (hall : ∀ i, i < l.length → dueP l[i]! ∨ l[i]!.Open = true) : wholeP l o := by
  have hlen : o.length = l.length := by rw [hp.length_eq, idsI_len]
  have hnd : o.Nodup := hp.symm.nodup (idsI_nodup _)
  refine ⟨fun j hj => ?_, fun i hi _ => ?_⟩
  · have hm : o[j]! ∈ idsI l.length := mem0 hp hj
    have hr := idsI_mem.1 hm
    refine ⟨hr.1, hr.2, hall _ (by omega), fun i hij e => ?_⟩
    rw [bang_get (by omega), bang_get hj] at e
    exact absurd e (List.pairwise_iff_getElem.1 (List.nodup_iff_pairwise_ne.1 hnd) i j (by omega) hj hij)
  · have hm : (i : Int) ∈ o := hp.symm.subset (idsI_mem.2 ⟨by omega, by omega⟩)
    obtain ⟨j, hj⟩ := List.getElem?_of_mem hm
    have hjl := (List.getElem?_eq_some_iff.1 hj).1
    rw [get_bang hjl] at hj
    exact ⟨j, hjl, Option.some.inj hj⟩
theorem begF_le {l : List GCall} {o : List Int} {B : Int} (hB : -1 ≤ B) : ∀ k, (∀ j, j < k → (atO l o j).From ≤ B) → begF l o k ≤ B
  | 0, _ => by unfold begF; exact hB
  | k + 1, h => by
    unfold begF
    have h1 := begF_le hB k fun j hj => h j (by omega)
    have h2 := h k (by omega)
    omega
theorem His.bd {l : List GCall} (h : His l) {i : Nat} (hi : i < l.length) : l[i]!.From ≤ 100 * (i : Int) + 999 ∧ (¬ l[i]!.Open = true → 100 * (i : Int) + 1001 ≤ l[i]!.To) := by
  obtain ⟨k, _, f, p, g⟩ := h i hi
  refine ⟨f.2, fun ho => ?_⟩
  by_cases hp : l[i]!.Put = true
  · rcases (p hp).2 with q | q
    · exact q.2.1
    · exact absurd q.1 ho
  · exact (g hp).2.1
/-- What each Get tells, where the last Put ahead of it in the order is the last one ahead of it. -/
theorem His.told {l : List GCall} (h : His l) {w : World} {o : List Int} {j i : Nat} (hj : o[j]! = (i : Int)) (hi : i < l.length) (hl : lastF l o j = lpI l i) : toldC w l o j := by
  have e : atO l o j = l[i]! := by unfold atO; rw [hj]; rfl
  intro hp
  rw [e] at hp ⊢
  rw [hl]
  obtain ⟨_, _, _, _, g⟩ := h i hi
  rcases (g hp).2.2 with q | q
  · exact ⟨fun z => by omega, fun z => by rw [q.2.1] at z; cases z⟩
  · exact ⟨fun z => (by rw [q.2.1] at z; cases z.1), fun _ => ⟨q.1, (by rw [q.2.2.1])⟩⟩
/-- Two neighbours change places. -/
def sw2 (n i : Nat) : List Int := ((idsI n).set i ((i + 1 : Nat) : Int)).set (i + 1) (i : Int)
theorem sw2_swp {n i : Nat} (h : i + 1 < n) : sw2 n i = swp (idsI n) i (i + 1) := by
  unfold sw2 swp
  rw [idsI_get h, idsI_get (by omega)]
theorem sw2_get {n i x : Nat} (h : i + 1 < n) (hx : x < n) : (sw2 n i)[x]! = if x = i + 1 then (i : Int) else if x = i then (i : Int) + 1 else (x : Int) := by
  rw [sw2_swp h, swp_get x (by rw [idsI_len]; omega) (by rw [idsI_len]; omega), idsI_get h, idsI_get hx, idsI_get (by omega)]
  rfl
theorem sw2_perm {n i : Nat} (h : i + 1 < n) : (sw2 n i).Perm (idsI n) := by
  rw [sw2_swp h]; exact swp_perm (by rw [idsI_len]; omega) (by rw [idsI_len]; omega)
theorem sw2_len (n i : Nat) : (sw2 n i).length = n := by unfold sw2; rw [List.length_set, List.length_set, idsI_len]
theorem lastF_id {l : List GCall} {o : List Int} : ∀ k : Nat, (∀ j : Nat, j < k → o[j]! = (j : Int)) → lastF l o k = lpI l k
  | 0, _ => rfl
  | k + 1, h => by
    have e : atO l o k = l[k]! := by unfold atO; rw [h k (by omega)]; rfl
    unfold lastF lpI
    rw [e, h k (by omega), lastF_id k fun j hj => h j (by omega)]
theorem his_id {l : List GCall} {w : World} (h : His l) : chkO w l (idsI l.length) = 0 := by
  refine chkO_0 h.fit (perm_whole (List.Perm.refl _) fun i hi => h.part hi) (fun j hj => ?_) (fun j hj => ?_)
  · rw [idsI_len] at hj
    have e : ∀ k, k < l.length → atO l (idsI l.length) k = l[k]! := fun k hk => by unfold atO; rw [idsI_get hk]; rfl
    rw [e j hj]
    rintro ⟨ho, hlt⟩
    have h1 := (h.bd hj).2 ho
    have h2 := begF_le (l := l) (o := idsI l.length) (B := 100 * (j : Int) + 900) (by omega) j fun k hk => by rw [e k (by omega)]; have := (h.bd (show k < l.length by omega)).1; omega
    omega
  · rw [idsI_len] at hj
    exact h.told (idsI_get hj) hj (lastF_id j fun k hk => idsI_get (by omega))
theorem sw2_at {l : List GCall} {i k : Nat} (h : i + 1 < l.length) (hk : k < l.length) : atO l (sw2 l.length i) k = if k = i + 1 then l[i]! else if k = i then l[i + 1]! else l[k]! := by
  unfold atO
  rw [sw2_get h hk]
  split
  · rfl
  · split
    · congr 1
    · rfl
theorem sw2_timely {l : List GCall} (h : His l) {i : Nat} (hi : i + 1 < l.length) : timelyP l (sw2 l.length i) ↔ ¬ (¬ l[i]!.Open = true ∧ l[i]!.To < l[i + 1]!.From) := by
  have hbeg : ∀ k, k ≤ i → begF l (sw2 l.length i) k ≤ 100 * (k : Int) + 900 := fun k hk => begF_le (by omega) k fun j hj => by
    rw [sw2_at hi (by omega), if_neg (by omega), if_neg (by omega)]; have := (h.bd (show j < l.length by omega)).1; omega
  have hb2 : begF l (sw2 l.length i) (i + 1) = max (begF l (sw2 l.length i) i) l[i + 1]!.From := by
    rw [begF, sw2_at hi (by omega), if_neg (by omega), if_pos rfl]
  constructor
  · intro ht hn
    have := ht (i + 1) (by rw [sw2_len]; exact hi)
    rw [sw2_at hi hi, if_pos rfl] at this
    exact this ⟨hn.1, by rw [hb2]; omega⟩
  · intro hn j hj
    rw [sw2_len] at hj
    rw [sw2_at hi hj]
    rintro ⟨ho, hlt⟩
    by_cases e1 : j = i + 1
    · subst e1
      rw [if_pos rfl] at ho hlt
      have h1 := (h.bd (show i < l.length by omega)).2 ho
      have h2 := hbeg i (Nat.le_refl _)
      rw [hb2] at hlt
      exact hn ⟨ho, by omega⟩
    · rw [if_neg e1] at ho hlt
      by_cases e2 : j = i
      · subst e2
        rw [if_pos rfl] at ho hlt
        have h1 := (h.bd hi).2 ho
        have h2 := hbeg j (Nat.le_refl _)
        omega
      · rw [if_neg e2] at ho hlt
        have h1 := (h.bd hj).2 ho
        have h2 : begF l (sw2 l.length i) j ≤ 100 * (j : Int) + 900 := begF_le (by omega) j fun k hk => by
          rw [sw2_at hi (by omega)]
          split
          · have := (h.bd (show i < l.length by omega)).1; omega
          · split
            · have := (h.bd hi).1; omega
            · have := (h.bd (show k < l.length by omega)).1; omega
        omega
theorem sw2_told {l : List GCall} {w : World} (h : His l) {i : Nat} (hi : i + 1 < l.length) (h1 : ¬ l[i]!.Put = true) (h2 : ¬ l[i + 1]!.Put = true) : toldP w l (sw2 l.length i) := by
  have a1 : ∀ k, k ≤ i → lastF l (sw2 l.length i) k = lpI l k := fun k hk => lastF_id k fun j hj => by rw [sw2_get hi (by omega), if_neg (by omega), if_neg (by omega)]
  have b1 : lpI l (i + 1) = lpI l i := by rw [lpI, if_neg h1]
  have b2 : lpI l (i + 1 + 1) = lpI l i := by rw [lpI, if_neg h2, b1]
  have a2 : lastF l (sw2 l.length i) (i + 1) = lpI l i := by
    have e : atO l (sw2 l.length i) i = l[i + 1]! := by rw [sw2_at hi (by omega), if_neg (by omega), if_pos rfl]
    rw [lastF, e, if_neg h2]; exact a1 i (Nat.le_refl _)
  have a3 : lastF l (sw2 l.length i) (i + 2) = lpI l (i + 2) := by
    have e : atO l (sw2 l.length i) (i + 1) = l[i]! := by rw [sw2_at hi hi, if_pos rfl]
    rw [lastF, e, if_neg h1, a2]; exact b2.symm
  have a4 : ∀ d, i + 2 + d ≤ l.length → lastF l (sw2 l.length i) (i + 2 + d) = lpI l (i + 2 + d) := fun d => by
    induction d with
    | zero => intro _; exact a3
    | succ d ih =>
      intro hd
      have e : atO l (sw2 l.length i) (i + 2 + d) = l[i + 2 + d]! := by rw [sw2_at hi (by omega), if_neg (by omega), if_neg (by omega)]
      have e2 : (sw2 l.length i)[i + 2 + d]! = ((i + 2 + d : Nat) : Int) := by rw [sw2_get hi (by omega), if_neg (by omega), if_neg (by omega)]
      rw [show i + 2 + (d + 1) = (i + 2 + d) + 1 from rfl, lastF, lpI, e, ih (by omega), e2]
  intro j hj
  rw [sw2_len] at hj
  by_cases e1 : j = i + 1
  · subst e1; exact h.told (i := i) (by rw [sw2_get hi hj, if_pos rfl]) (by omega) a2
  · by_cases e2 : j = i
    · subst e2; exact h.told (i := j + 1) (by rw [sw2_get hi hj, if_neg (by omega), if_pos rfl]; omega) hi ((a1 j (Nat.le_refl _)).trans b1.symm)
    · refine h.told (i := j) (by rw [sw2_get hi hj, if_neg e1, if_neg e2]) hj ?_
      by_cases e3 : j < i
      · exact a1 j (by omega)
      · have := a4 (j - (i + 2)) (by omega)
        rwa [show i + 2 + (j - (i + 2)) = j from by omega] at this
theorem time_late {l : List GCall} {w : World} (h : His l) {i : Nat} (hi : i + 1 < l.length) (hn : ¬ l[i]!.Open = true ∧ l[i]!.To < l[i + 1]!.From) : chkO w l (sw2 l.length i) = 81 :=
  chkO_81 h.fit fun q => (sw2_timely h hi).1 q.2.1 hn
theorem time_gets {l : List GCall} {w : World} (h : His l) {i : Nat} (hi : i + 1 < l.length) (hn : ¬ (¬ l[i]!.Open = true ∧ l[i]!.To < l[i + 1]!.From)) (h1 : ¬ l[i]!.Put = true) (h2 : ¬ l[i + 1]!.Put = true) : chkO w l (sw2 l.length i) = 0 :=
  chkO_0 h.fit (perm_whole (sw2_perm hi) fun i hi => h.part hi) ((sw2_timely h hi).2 hn) (sw2_told h hi h1 h2)
theorem time_any {l : List GCall} {w : World} (h : His l) (o : List Int) : chkO w l o = 0 ∨ chkO w l o = 81 := by
  by_cases q : wholeP l o ∧ timelyP l o ∧ toldP w l o
  · exact .inl (chkO_0 h.fit q.1 q.2.1 q.2.2)
  · exact .inr (chkO_81 h.fit q)
/-! ### how they are made -/
def opnV (c1 c2 : GCall) : Prop := c2 = c1 ∨ c2 = { c1 with Open := true, To := -1 } ∨ c2 = { c1 with Open := true, To := -1, Tag := tag0 }
theorem opnV.one {c1 c2 : GCall} (h : opnV c1 c2) : opnV c1 ⟨c2.Client, c2.Op, c2.Put, c2.Key, c2.Value, c2.Status, c2.From, -1, true, c2.Tag⟩ := by
  rcases h with rfl | rfl | rfl
  · exact .inr (.inl rfl)
  · exact .inr (.inl rfl)
  · exact .inr (.inr rfl)
theorem opnV.two {c1 c2 : GCall} (h : opnV c1 c2) : opnV c1 ⟨c2.Client, c2.Op, c2.Put, c2.Key, c2.Value, c2.Status, c2.From, -1, true, ⟨0, 0⟩⟩ := by
  rcases h with rfl | rfl | rfl <;> exact .inr (.inr rfl)
def vOk (w : World) (s : SlH) : Prop := VB w s ∧ s.n ≤ 140737488351232
theorem vOk_nil (w : World) : vOk w ⟨none, 0, 0⟩ := ⟨SlR.nil _ 0 rfl, by simp⟩
structure HisW (w : World) (l : List GCall) (o : List Int) (sm : Bool) (la : GCall) (k : Nat) : Prop where
  len : l.length = k
  his : His l
  vals : ∀ y ∈ l, vOk w y.Value
  ids : o = idsI k
  yes : sm = true → 0 ≤ lpI l k ∧ la.Value = l[(lpI l k).toNat]!.Value ∧ la.Tag = tgI (lpI l k).toNat
  no : ¬ sm = true → lpI l k = -1
  lav : vOk w la.Value
theorem HisW.start (w : World) : HisW w [] [] false default 0 := ⟨rfl, fun i hi => by simp at hi, fun y hy => (by simp at hy), rfl, fun h => (by cases h), fun _ => rfl, vOk_nil w⟩
theorem app_mem {w : World} {l : List GCall} {c : GCall} (h : ∀ y ∈ l, vOk w y.Value) (hc : vOk w c.Value) : ∀ y ∈ l ++ [c], vOk w y.Value := fun y hy => by
  rcases List.mem_append.1 hy with hy | hy
  · exact h y hy
  · rw [List.mem_singleton.1 hy]; exact hc
theorem HisW.put {w : World} {l : List GCall} {o : List Int} {sm : Bool} {la c1 c2 : GCall} {k : Nat} (h : HisW w l o sm la k) (hc : opnV c1 c2) (e : c1.Key = kK ∧ c1.Client = 100 + (k : Int) ∧ (0 ≤ c1.From ∧ c1.From ≤ 100 * (k : Int) + 999) ∧ c1.Put = true ∧ c1.Status = 0 ∧ ¬ c1.Open = true ∧ 100 * (k : Int) + 1001 ≤ c1.To ∧ c1.Tag = tgI k) (hv : vOk w c1.Value) :
    HisW w (l ++ [c2]) (o ++ [(k : Int)]) true c1 (k + 1) := by
  obtain ⟨e1, e2, e3, e4, e5, e6, e7, e8⟩ := e
  have hlen := h.len
  have hput : c2.Put = true := by rcases hc with rfl | rfl | rfl <;> exact e4
  have hval : c2.Value = c1.Value := by rcases hc with rfl | rfl | rfl <;> rfl
  have hlp : lpI (l ++ [c2]) (k + 1) = (k : Int) := by
    have : (l ++ [c2])[k]! = c2 := by rw [appC_get, if_neg (by omega), if_pos hlen.symm]
    rw [lpI, this, if_pos hput]
  refine ⟨by rw [List.length_append, hlen]; rfl, h.his.app ?_, app_mem h.vals (by rw [hval]; exact hv), by rw [h.ids, idsI_succ], fun _ => ?_, fun q => absurd rfl q, hv⟩
  · rw [hlen]
    rcases hc with rfl | rfl | rfl
    · exact ⟨e1, e2, e3, fun _ => ⟨e5, .inl ⟨e6, e7, e8⟩⟩, fun q => absurd e4 q⟩
    · exact ⟨e1, e2, e3, fun _ => ⟨e5, .inr ⟨rfl, rfl, .inl e8⟩⟩, fun q => absurd e4 q⟩
    · exact ⟨e1, e2, e3, fun _ => ⟨e5, .inr ⟨rfl, rfl, .inr rfl⟩⟩, fun q => absurd e4 q⟩
  · rw [hlp]
    refine ⟨by omega, ?_, e8⟩
    rw [show ((k : Int)).toNat = k from rfl, appC_get, if_neg (by omega), if_pos hlen.symm, hval]
theorem HisW.get {w : World} {l : List GCall} {o : List Int} {sm : Bool} {la c : GCall} {k : Nat} (h : HisW w l o sm la k) (e : c.Key = kK ∧ c.Client = 100 + (k : Int) ∧ (0 ≤ c.From ∧ c.From ≤ 100 * (k : Int) + 999) ∧ ¬ c.Put = true ∧ ¬ c.Open = true ∧ 100 * (k : Int) + 1001 ≤ c.To) (hg : (sm = true ∧ c.Status = 0 ∧ c.Value = la.Value ∧ c.Tag = la.Tag) ∨ (¬ sm = true ∧ c.Status = 76 ∧ c.Tag = tag0 ∧ c.Value = ⟨none, 0, 0⟩)) :
    HisW w (l ++ [c]) (o ++ [(k : Int)]) sm la (k + 1) := by
  obtain ⟨e1, e2, e3, e4, e6, e7⟩ := e
  have hlen := h.len
  have hlp : lpI (l ++ [c]) (k + 1) = lpI l k := by
    have : (l ++ [c])[k]! = c := by rw [appC_get, if_neg (by omega), if_pos hlen.symm]
    rw [lpI, this, if_neg e4, lpI_app (by omega)]
  refine ⟨by rw [List.length_append, hlen]; rfl, h.his.app ?_, app_mem h.vals ?_, by rw [h.ids, idsI_succ], fun q => ?_, fun q => by rw [hlp]; exact h.no q, h.lav⟩
  · rw [hlen]
    refine ⟨e1, e2, e3, fun q => absurd q e4, fun _ => ⟨e6, e7, ?_⟩⟩
    rcases hg with ⟨g1, g2, g3, g4⟩ | ⟨g1, g2, g3, _⟩
    · obtain ⟨y1, y2, y3⟩ := h.yes g1
      exact .inr ⟨y1, g2, by rw [g3, y2], by rw [g4, y3]⟩
    · exact .inl ⟨h.no g1, g2, g3⟩
  · rcases hg with ⟨_, _, g3, _⟩ | ⟨_, _, _, g4⟩
    · rw [g3]; exact h.lav
    · rw [g4]; exact vOk_nil w
  · obtain ⟨y1, y2, y3⟩ := h.yes q
    rw [hlp]
    refine ⟨y1, ?_, y3⟩
    have := (lpI_lt l k).2
    rw [appC_get, if_pos (by omega)]; exact y2
end Go.Proofs.Ytdahgdkadfdkeaa.K
