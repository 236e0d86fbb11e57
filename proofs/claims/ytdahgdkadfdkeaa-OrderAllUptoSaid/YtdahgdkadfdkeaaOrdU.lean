/- What order.ByTags answers, told of the calls alone. -/
import Derived.Test.YtdahgdkadfdkeaaOrdB
namespace Go.Proofs.Ytdahgdkadfdkeaa.K
open Go Go.RowKit
set_option linter.unusedVariables false
def knw (l : List GCall) (t : GTag) : Prop := ∃ j, j < l.length ∧ ownA l[j]! ∧ l[j]!.Tag = t
def wan (l : List GCall) (k : Nat) (t : GTag) : Prop := ∃ j, j < k ∧ rdC l[j]! ∧ l[j]!.Tag = t
/-- A Put of which only Gets tell the tag. -/
def asg (l : List GCall) (k : Nat) (i : Int) (t : GTag) : Prop := wan l k t ∧ ¬ knw l t ∧ lastP l t.Client l.length = i ∧ 0 ≤ i
def ownT (l : List GCall) (i : Int) (t : GTag) : Prop := ∃ j : Nat, i = (j : Int) ∧ j < l.length ∧ ownA l[j]! ∧ t = l[j]!.Tag
theorem wan_succ {l : List GCall} {k : Nat} {t : GTag} : wan l (k + 1) t ↔ wan l k t ∨ (rdC l[k]! ∧ l[k]!.Tag = t) := by
  unfold wan
  constructor
  · rintro ⟨j, h1, h2, h3⟩
    by_cases e : j = k
    · subst e; exact .inr ⟨h2, h3⟩
    · exact .inl ⟨j, by omega, h2, h3⟩
  · rintro (⟨j, h1, h2, h3⟩ | ⟨h2, h3⟩)
    · exact ⟨j, by omega, h2, h3⟩
    · exact ⟨k, by omega, h2, h3⟩
theorem wan_mono {l : List GCall} {j k : Nat} {t : GTag} (h : j ≤ k) (w : wan l j t) : wan l k t := by
  obtain ⟨i, h1, h2, h3⟩ := w; exact ⟨i, by omega, h2, h3⟩
theorem asg_mono {l : List GCall} {j k : Nat} {i : Int} {t : GTag} (h : j ≤ k) (w : asg l j i t) : asg l k i t := ⟨wan_mono h w.1, w.2⟩
theorem mapV_putq {κ ν : Type} [DecidableEq κ] {l : List (κ × ν)} {k j : κ} {v u : ν} : mapV (mapPut l k v) j = some u ↔ (j = k ∧ u = v) ∨ (¬ j = k ∧ mapV l j = some u) := by
  rw [mapV_put]
  by_cases h : j = k
  · rw [if_pos h]; simp [h, eq_comm]
  · rw [if_neg h]; simp [h]
theorem mapV_puts {κ ν : Type} [DecidableEq κ] {l : List (κ × ν)} {k j : κ} {v : ν} : (mapV (mapPut l k v) j).isSome = true ↔ j = k ∨ (mapV l j).isSome = true := by
  rw [mapV_put]
  by_cases h : j = k
  · simp [h]
  · simp [h]
theorem mapV_nil {κ ν : Type} [DecidableEq κ] (k : κ) : mapV ([] : List (κ × ν)) k = none := rfl
theorem tgA_spec (l : List GCall) : ∀ k, (∀ (i : Int) t, mapV (tgA l k).1 i = some t ↔ ∃ j : Nat, i = (j : Int) ∧ j < k ∧ ownA l[j]! ∧ t = l[j]!.Tag) ∧ ∀ t, (mapV (tgA l k).2 t).isSome = true ↔ ∃ j, j < k ∧ ownA l[j]! ∧ l[j]!.Tag = t
  | 0 => by
    constructor
    · intro i t
      constructor
      · intro h; cases h
      · rintro ⟨j, _, h, _⟩; omega
    · intro t
      constructor
      · intro h; cases h
      · rintro ⟨j, h, _⟩; omega
  | k + 1 => by
    obtain ⟨h1, h2⟩ := tgA_spec l k
    unfold tgA
    by_cases ho : ownA l[k]!
    · rw [if_pos ho]
      constructor
      · intro i t
        rw [mapV_putq, h1]
        constructor
        · rintro (⟨e1, e2⟩ | ⟨e1, j, e2, e3, e4, e5⟩)
          · exact ⟨k, e1, by omega, ho, e2⟩
          · exact ⟨j, e2, by omega, e4, e5⟩
        · rintro ⟨j, e2, e3, e4, e5⟩
          by_cases e : j = k
          · subst e; exact .inl ⟨e2, e5⟩
          · exact .inr ⟨by omega, j, e2, by omega, e4, e5⟩
      · intro t
        rw [mapV_puts, h2]
        constructor
        · rintro (e | ⟨j, e1, e2, e3⟩)
          · exact ⟨k, by omega, ho, e.symm⟩
          · exact ⟨j, by omega, e2, e3⟩
        · rintro ⟨j, e1, e2, e3⟩
          by_cases e : j = k
          · subst e; exact .inl e3.symm
          · exact .inr ⟨j, by omega, e2, e3⟩
    · rw [if_neg ho]
      constructor
      · intro i t
        rw [h1]
        constructor
        · rintro ⟨j, e2, e3, e4, e5⟩; exact ⟨j, e2, by omega, e4, e5⟩
        · rintro ⟨j, e2, e3, e4, e5⟩
          by_cases e : j = k
          · subst e; exact absurd e4 ho
          · exact ⟨j, e2, by omega, e4, e5⟩
      · intro t
        rw [h2]
        constructor
        · rintro ⟨j, e1, e2, e3⟩; exact ⟨j, by omega, e2, e3⟩
        · rintro ⟨j, e1, e2, e3⟩
          by_cases e : j = k
          · subst e; exact absurd e2 ho
          · exact ⟨j, by omega, e2, e3⟩
def lopP (l : List GCall) (cl : Int) (j : Nat) : Prop := l[j]!.Open = true ∧ (l[j]!.Tag.Count = 0 ∧ l[j]!.Tag.Client = 0) ∧ l[j]!.Client = cl
theorem lastP_spec (l : List GCall) (cl : Int) : ∀ k, (lastP l cl k = -1 ∧ ∀ j, j < k → ¬ lopP l cl j) ∨ ∃ i, i < k ∧ lastP l cl k = (i : Int) ∧ lopP l cl i ∧ ∀ j, i < j → j < k → ¬ lopP l cl j
  | 0 => .inl ⟨rfl, fun j h => by omega⟩
  | k + 1 => by
    unfold lastP
    by_cases h : lopP l cl k
    · rw [if_pos (show _ ∧ _ ∧ _ from h)]; exact .inr ⟨k, by omega, rfl, h, fun j h1 h2 => by omega⟩
    · rw [if_neg (show ¬ (_ ∧ _ ∧ _) from h)]
      rcases lastP_spec l cl k with ⟨e, q⟩ | ⟨i, e1, e2, e3, e4⟩
      · refine .inl ⟨e, fun j hj => ?_⟩
        by_cases e : j = k
        · subst e; exact h
        · exact q j (by omega)
      · refine .inr ⟨i, by omega, e2, e3, fun j h1 h2 => ?_⟩
        by_cases e : j = k
        · subst e; exact h
        · exact e4 j h1 (by omega)
theorem asg_at {l : List GCall} {k : Nat} {i : Int} {t : GTag} (h : asg l k i t) : ∃ j : Nat, i = (j : Int) ∧ j < l.length ∧ lopP l t.Client j ∧ ¬ ownA l[j]! := by
  obtain ⟨_, _, h1, h2⟩ := h
  rcases lastP_spec l t.Client l.length with ⟨e, _⟩ | ⟨j, e1, e2, e3, _⟩
  · omega
  · exact ⟨j, by omega, e1, e3, fun ho => by rcases ho.2 with q | q; exact q e3.1; exact q e3.2.1⟩
theorem tgB_spec {l : List GCall} : ∀ (k : Nat) (m : TgM) (kn : KnM), tgB l k = some (m, kn) → (∀ (i : Int) t, mapV m i = some t ↔ ownT l i t ∨ asg l k i t) ∧ ∀ t, (mapV kn t).isSome = true ↔ knw l t ∨ ∃ i, asg l k i t
  | 0, m, kn, h => by
    have h' : tgA l l.length = (m, kn) := Option.some.inj h
    obtain ⟨h1, h2⟩ := tgA_spec l l.length
    rw [h'] at h1 h2
    constructor
    · intro i t
      rw [h1]
      constructor
      · rintro ⟨j, e⟩; exact .inl ⟨j, e⟩
      · rintro (⟨j, e⟩ | ⟨⟨j, hj, _⟩, _⟩)
        · exact ⟨j, e⟩
        · omega
    · intro t
      rw [h2]
      constructor
      · rintro ⟨j, e⟩; exact .inl ⟨j, e⟩
      · rintro (⟨j, e⟩ | ⟨i, ⟨j, hj, _⟩, _⟩)
        · exact ⟨j, e⟩
        · omega
  | k + 1, m', kn', h => by
    rw [tgB] at h
    cases hb : tgB l k with
    | none => rw [hb] at h; cases h
    | some s =>
      obtain ⟨m, kn⟩ := s
      rw [hb, Option.bind_some] at h
      obtain ⟨h1, h2⟩ := tgB_spec k m kn hb
      unfold tgStep at h
      by_cases hr : rdC l[k]!
      · rw [if_neg (fun q => q hr)] at h
        by_cases hk : (mapV kn l[k]!.Tag).isSome = true
        · rw [if_pos hk] at h
          cases h
          have hs : ∀ i t, asg l (k + 1) i t ↔ asg l k i t := by
            intro i t
            constructor
            · rintro ⟨w, n, e⟩
              refine ⟨?_, n, e⟩
              rcases wan_succ.1 w with w | ⟨_, rfl⟩
              · exact w
              · rcases (h2 _).1 hk with q | ⟨_, q⟩
                · exact absurd q n
                · exact q.1
            · exact asg_mono (by omega)
          simp only [hs]; exact ⟨h1, h2⟩
        · rw [if_neg hk] at h
          have hk1 : ¬ knw l l[k]!.Tag := fun q => hk ((h2 _).2 (.inl q))
          have hk2 : ∀ i, ¬ asg l k i l[k]!.Tag := fun i q => hk ((h2 _).2 (.inr ⟨i, q⟩))
          by_cases hl : lastP l l[k]!.Tag.Client l.length < 0
          · rw [if_pos hl] at h
            cases h
            have hs : ∀ i t, asg l (k + 1) i t ↔ asg l k i t := by
              intro i t
              constructor
              · rintro ⟨w, n, e⟩
                refine ⟨?_, n, e⟩
                rcases wan_succ.1 w with w | ⟨_, rfl⟩
                · exact w
                · have := e.1; have := e.2; omega
              · exact asg_mono (by omega)
            simp only [hs]; exact ⟨h1, h2⟩
          · rw [if_neg hl] at h
            by_cases ht : (mapV m (lastP l l[k]!.Tag.Client l.length)).isSome = true
            · rw [if_pos ht] at h; cases h
            · rw [if_neg ht] at h
              cases h
              have hw : ¬ wan l k l[k]!.Tag := fun w => hk2 _ ⟨w, hk1, rfl, by omega⟩
              have hnone : ∀ t, ¬ (ownT l (lastP l l[k]!.Tag.Client l.length) t ∨ asg l k (lastP l l[k]!.Tag.Client l.length) t) := fun t q => ht (by rw [(h1 _ t).2 q]; rfl)
              have hs : ∀ i t, asg l (k + 1) i t ↔ asg l k i t ∨ (i = lastP l l[k]!.Tag.Client l.length ∧ t = l[k]!.Tag) := by
                intro i t
                constructor
                · rintro ⟨w, n, e⟩
                  rcases wan_succ.1 w with w | ⟨_, rfl⟩
                  · exact .inl ⟨w, n, e⟩
                  · exact .inr ⟨e.1.symm, rfl⟩
                · rintro (q | ⟨rfl, rfl⟩)
                  · exact asg_mono (by omega) q
                  · exact ⟨wan_succ.2 (.inr ⟨hr, rfl⟩), hk1, rfl, by omega⟩
              constructor
              · intro i t
                rw [mapV_putq, h1, hs]
                constructor
                · rintro (⟨e1, e2⟩ | ⟨_, q | q⟩)
                  · exact .inr (.inr ⟨e1, e2⟩)
                  · exact .inl q
                  · exact .inr (.inl q)
                · rintro (q | q | q)
                  · exact .inr ⟨fun e => hnone t (.inl (e ▸ q)), .inl q⟩
                  · exact .inr ⟨fun e => hnone t (.inr (e ▸ q)), .inr q⟩
                  · exact .inl q
              · intro t
                rw [mapV_puts, h2]
                simp only [hs]
                constructor
                · rintro (e | q | ⟨i, q⟩)
                  · exact .inr ⟨_, .inr ⟨rfl, e⟩⟩
                  · exact .inl q
                  · exact .inr ⟨i, .inl q⟩
                · rintro (q | ⟨i, q | ⟨_, q⟩⟩)
                  · exact .inr (.inl q)
                  · exact .inr (.inr ⟨i, q⟩)
                  · exact .inl q
      · rw [if_pos hr] at h
        cases h
        have hs : ∀ i t, asg l (k + 1) i t ↔ asg l k i t := by
          intro i t
          constructor
          · rintro ⟨w, n, e⟩
            refine ⟨?_, n, e⟩
            rcases wan_succ.1 w with w | ⟨q, _⟩
            · exact w
            · exact absurd q hr
          · exact asg_mono (by omega)
        simp only [hs]; exact ⟨h1, h2⟩
/-- One Put would have two tags. -/
def Conf (l : List GCall) : Prop := ∃ i t t', ¬ t = t' ∧ asg l l.length i t ∧ asg l l.length i t'
theorem tgB_conf {l : List GCall} : ∀ k, k ≤ l.length → tgB l k = none → Conf l
  | 0, _, h => by cases h
  | k + 1, hk, h => by
    rw [tgB] at h
    cases hb : tgB l k with
    | none => exact tgB_conf k (by omega) hb
    | some s =>
      obtain ⟨m, kn⟩ := s
      rw [hb, Option.bind_some] at h
      obtain ⟨h1, h2⟩ := tgB_spec k m kn hb
      unfold tgStep at h
      by_cases hr : rdC l[k]!
      · rw [if_neg (fun q => q hr)] at h
        by_cases hkk : (mapV kn l[k]!.Tag).isSome = true
        · rw [if_pos hkk] at h; cases h
        · rw [if_neg hkk] at h
          by_cases hl : lastP l l[k]!.Tag.Client l.length < 0
          · rw [if_pos hl] at h; cases h
          · rw [if_neg hl] at h
            by_cases ht : (mapV m (lastP l l[k]!.Tag.Client l.length)).isSome = true
            · obtain ⟨t0, ht0⟩ := Option.isSome_iff_exists.1 ht
              have hnew : asg l (k + 1) (lastP l l[k]!.Tag.Client l.length) l[k]!.Tag := ⟨wan_succ.2 (.inr ⟨hr, rfl⟩), fun q => hkk ((h2 _).2 (.inl q)), rfl, by omega⟩
              rcases (h1 _ t0).1 ht0 with ⟨j, e1, e2, e3, _⟩ | q
              · obtain ⟨j', e1', _, _, e3'⟩ := asg_at hnew
                have : j = j' := by omega
                subst this; exact absurd e3 e3'
              · refine ⟨_, t0, l[k]!.Tag, fun e => hkk ((h2 _).2 (.inr ⟨_, e ▸ q⟩)), asg_mono (by omega) q, asg_mono hk hnew⟩
            · rw [if_neg ht] at h; cases h
      · rw [if_pos hr] at h; cases h
theorem conf_none {l : List GCall} (h : Conf l) : tgB l l.length = none := by
  cases hb : tgB l l.length with
  | none => rfl
  | some s =>
    obtain ⟨m, kn⟩ := s
    obtain ⟨i, t, t', e, q1, q2⟩ := h
    obtain ⟨h1, _⟩ := tgB_spec _ m kn hb
    have a := (h1 i t).2 (.inr q1)
    have b := (h1 i t').2 (.inr q2)
    rw [a] at b
    exact absurd (Option.some.inj b) e
theorem rdM_spec (l : List GCall) : ∀ k t, (mapV (rdM l k) t).isSome = true ↔ wan l k t
  | 0, t => ⟨fun h => (by cases h), fun ⟨j, h, _⟩ => by omega⟩
  | k + 1, t => by
    unfold rdM
    by_cases hr : rdC l[k]!
    · rw [if_pos hr, mapV_puts, rdM_spec l k t, wan_succ]
      constructor
      · rintro (e | q)
        · exact .inr ⟨hr, e.symm⟩
        · exact .inl q
      · rintro (q | q)
        · exact .inr q
        · exact .inl q.2.symm
    · rw [if_neg hr, rdM_spec l k t, wan_succ]
      constructor
      · exact .inl
      · rintro (q | q)
        · exact q
        · exact absurd q.1 hr
/-! ### maps whose keys are told apart -/
def Knd {κ ν : Type} (l : List (κ × ν)) : Prop := (l.map (·.1)).Nodup
theorem mapV_none {κ ν : Type} [DecidableEq κ] : ∀ {l : List (κ × ν)} {k : κ}, mapV l k = none ↔ ¬ k ∈ l.map (·.1)
  | [], k => by simp [mapV]
  | p :: l, k => by
    rw [mapV_cons]
    by_cases h : k = p.1
    · simp [h]
    · rw [if_neg h, mapV_none]; simp [h]
theorem del_cons {κ ν : Type} [DecidableEq κ] (p : κ × ν) (l : List (κ × ν)) (k : κ) : mapDel (p :: l) k = if k = p.1 then l else p :: mapDel l k := by
  unfold mapDel
  rw [List.findIdx?_cons]
  by_cases h : k = p.1
  · simp [h]
  · simp only [h, decide_false, Bool.false_eq_true, if_false]
    cases l.findIdx? (fun p => decide (k = p.1)) <;> simp
theorem del_keys {κ ν : Type} [DecidableEq κ] : ∀ {l : List (κ × ν)} {k : κ}, ((mapDel l k).map (·.1)).Sublist (l.map (·.1))
  | [], k => by simp [mapDel]
  | p :: l, k => by
    rw [del_cons]
    by_cases h : k = p.1
    · rw [if_pos h]; exact List.sublist_cons_self _ _
    · rw [if_neg h]; exact List.Sublist.cons_cons _ del_keys
theorem Knd.del {κ ν : Type} [DecidableEq κ] {l : List (κ × ν)} (h : Knd l) (k : κ) : Knd (mapDel l k) := List.Nodup.sublist del_keys h
theorem del_get {κ ν : Type} [DecidableEq κ] : ∀ {l : List (κ × ν)} (_ : Knd l) {k j : κ}, (mapV (mapDel l k) j).isSome = true ↔ ¬ j = k ∧ (mapV l j).isSome = true
  | [], _, k, j => by simp [mapDel, mapV]
  | p :: l, h, k, j => by
    have hn : ¬ p.1 ∈ l.map (·.1) := (List.nodup_cons.1 h).1
    have hl : Knd l := (List.nodup_cons.1 h).2
    rw [del_cons, mapV_cons]
    by_cases hk : k = p.1
    · rw [if_pos hk]
      by_cases hj : j = p.1
      · rw [hj, hk]
        have := mapV_none.2 hn
        simp [this]
      · rw [if_neg hj]; simp [hk, hj]
    · rw [if_neg hk, mapV_cons]
      by_cases hj : j = p.1
      · rw [if_pos hj, if_pos hj]; simp; intro e; exact hk (e.symm.trans hj)
      · rw [if_neg hj, if_neg hj, del_get hl]
theorem Knd.put {κ ν : Type} [DecidableEq κ] {l : List (κ × ν)} (h : Knd l) (k : κ) (v : ν) : Knd (mapPut l k v) := by
  unfold mapPut Knd
  cases hf : l.findIdx? (fun p => decide (k = p.1)) with
  | none =>
    simp only [List.map_append, List.map_cons, List.map_nil]
    rw [List.nodup_append]
    refine ⟨h, by simp, fun a ha b hb e => ?_⟩
    rw [List.mem_singleton] at hb
    subst hb
    subst e
    obtain ⟨p, hp, e⟩ := List.mem_map.1 ha
    have := List.findIdx?_eq_none_iff.1 hf p hp
    simp at this
    exact this e.symm
  | some j =>
    obtain ⟨hj, hp, _⟩ := List.findIdx?_eq_some_iff_getElem.1 hf
    have e : (l.modify j fun _ => (k, v)).map (·.1) = l.map (·.1) := by
      apply List.ext_getElem?
      intro i
      simp only [List.getElem?_map, List.getElem?_modify]
      by_cases hi : j = i
      · subst hi
        have : k = l[j].1 := of_decide_eq_true hp
        simp [hj, this]
      · simp [hi]
    rw [e]; exact h
theorem rdM_nd (l : List GCall) : ∀ k, Knd (rdM l k)
  | 0 => List.nodup_nil
  | k + 1 => by unfold rdM; split; exact (rdM_nd l k).put _ _; exact rdM_nd l k
def tagM (m : TgM) (x : Int) : GTag := (mapV m x).getD tag0
theorem left_spec (m : TgM) (r : KnM) (q : List Int) (hr : Knd r) : ∀ n, Knd (tkLeft m r q n) ∧ ∀ t, (mapV (tkLeft m r q n) t).isSome = true ↔ (mapV r t).isSome = true ∧ ∀ a, a < n → ¬ tagM m q[a]! = t
  | 0 => ⟨hr, fun t => ⟨fun h => ⟨h, fun a ha => by omega⟩, fun h => h.1⟩⟩
  | n + 1 => by
    obtain ⟨h1, h2⟩ := left_spec m r q hr n
    unfold tkLeft
    refine ⟨h1.del _, fun t => ?_⟩
    rw [del_get h1, h2]
    constructor
    · rintro ⟨e, e1, e2⟩
      refine ⟨e1, fun a ha => ?_⟩
      by_cases ea : a = n
      · subst ea; exact fun z => e z.symm
      · exact e2 a (by omega)
    · rintro ⟨e1, e2⟩
      exact ⟨fun z => e2 n (by omega) z.symm, e1, fun a ha => e2 a (by omega)⟩
theorem left_nil (m : TgM) (r : KnM) (q : List Int) (hr : Knd r) (n : Nat) : tkLeft m r q n = [] ↔ ∀ t, (mapV r t).isSome = true → ∃ a, a < n ∧ tagM m q[a]! = t := by
  obtain ⟨_, h2⟩ := left_spec m r q hr n
  constructor
  · intro h t ht
    apply Classical.byContradiction
    intro hn
    have := (h2 t).2 ⟨ht, fun a ha e => hn ⟨a, ha, e⟩⟩
    rw [h] at this; cases this
  · intro h
    cases hk : tkLeft m r q n with
    | nil => rfl
    | cons p rest =>
      have : (mapV (tkLeft m r q n) p.1).isSome = true := by rw [hk, mapV_cons, if_pos rfl]; rfl
      obtain ⟨e1, e2⟩ := (h2 p.1).1 this
      obtain ⟨a, ha, e⟩ := h p.1 e1
      exact absurd e (e2 a ha)
/-! ### the Puts that are in, with their tags -/
def TkP (l : List GCall) (i : Nat) (t : GTag) : Prop := (i < l.length ∧ ownA l[i]! ∧ t = l[i]!.Tag ∧ (¬ l[i]!.Open = true ∨ wan l l.length t)) ∨ asg l l.length (i : Int) t
structure GoodT (l : List GCall) : Prop where
  noconf : ¬ Conf l
  prop : ∀ i t, TkP l i t → tagProper t
  inj : ∀ i j t, TkP l i t → TkP l j t → i = j
  cov : ∀ t, wan l l.length t → ∃ i, TkP l i t
theorem TkP.fun {l : List GCall} (hc : ¬ Conf l) {i : Nat} {t t' : GTag} (h : TkP l i t) (h' : TkP l i t') : t = t' := by
  rcases h with ⟨a1, a2, a3, _⟩ | a
  · rcases h' with ⟨b1, b2, b3, _⟩ | b
    · rw [a3, b3]
    · obtain ⟨j, e1, _, _, e2⟩ := asg_at b
      have : i = j := by omega
      subst this; exact absurd a2 e2
  · rcases h' with ⟨b1, b2, b3, _⟩ | b
    · obtain ⟨j, e1, _, _, e2⟩ := asg_at a
      have : i = j := by omega
      subst this; exact absurd b2 e2
    · exact Classical.byContradiction fun e => hc ⟨_, t, t', e, a, b⟩
/-- What stands in an order by tags. -/
structure ByOk (l : List GCall) (m : TgM) (q : List Int) : Prop where
  nodup : q.Nodup
  mem : ∀ x, x ∈ q ↔ ∃ i t, x = ((i : Nat) : Int) ∧ TkP l i t
  tag : ∀ i t, TkP l i t → tagM m ((i : Nat) : Int) = t
  up : ∀ a b, a < b → b < q.length → tagCmp (tagM m q[a]!) (tagM m q[b]!) < 0
theorem cmp_lt {a b : GTag} : tagCmp a b < 0 ↔ a.Count < b.Count ∨ (a.Count = b.Count ∧ a.Client < b.Client) := by have := tagCmp_cases a b; omega
theorem tag_ext {a b : GTag} (h1 : a.Count = b.Count) (h2 : a.Client = b.Client) : a = b := by cases a; cases b; simp_all
theorem valid_proper {t : GTag} : (tagValid t ∧ ¬ tagZero t) ↔ tagProper t := by
  unfold tagValid
  constructor
  · rintro ⟨h | h, hz⟩
    · exact absurd h hz
    · exact h
  · intro h; exact ⟨.inr h, fun z => by have := h.1; have := z.1; omega⟩
theorem tk_iff {l : List GCall} (hf : fitP l) {m : TgM} {kn : KnM} (hb : tgB l l.length = some (m, kn)) (i : Nat) (hi : i < l.length) : tkP l m i ↔ ∃ t, TkP l i t := by
  obtain ⟨h1, _⟩ := tgB_spec _ m kn hb
  unfold tkP
  constructor
  · rintro ⟨hp, hs, hw⟩
    obtain ⟨t, ht⟩ := Option.isSome_iff_exists.1 hs
    rw [ht, Option.getD_some, rdM_spec] at hw
    refine ⟨t, ?_⟩
    rcases (h1 _ t).1 ht with ⟨j, e1, e2, e3, e4⟩ | q
    · have : i = j := by omega
      subst this; exact .inl ⟨e2, e3, e4, hw⟩
    · exact .inr q
  · rintro ⟨t, ⟨a1, a2, a3, a4⟩ | a⟩
    · have ht := (h1 (i : Int) t).2 (.inl ⟨i, rfl, a1, a2, a3⟩)
      exact ⟨a2.1, by rw [ht]; rfl, by rw [ht, Option.getD_some, rdM_spec]; exact a4⟩
    · have ht := (h1 (i : Int) t).2 (.inr a)
      obtain ⟨j, e1, e2, e3, _⟩ := asg_at a
      have : i = j := by omega
      subst this
      refine ⟨((hf i hi).2.2.2.1.1 e3.1).1, by rw [ht]; rfl, .inr (by rw [ht, Option.getD_some, rdM_spec]; exact a.1)⟩
theorem tk_lt {l : List GCall} {i : Nat} {t : GTag} (h : TkP l i t) : i < l.length := by
  rcases h with h | h
  · exact h.1
  · obtain ⟨j, e1, e2, _⟩ := asg_at h; omega
theorem tk_tag {l : List GCall} {m : TgM} {kn : KnM} (hb : tgB l l.length = some (m, kn)) {i : Nat} {t : GTag} (h : TkP l i t) : tagM m (i : Int) = t := by
  obtain ⟨h1, _⟩ := tgB_spec _ m kn hb
  unfold tagM
  rcases h with ⟨a1, a2, a3, _⟩ | a
  · rw [(h1 (i : Int) t).2 (.inl ⟨i, rfl, a1, a2, a3⟩)]; rfl
  · rw [(h1 (i : Int) t).2 (.inr a)]; rfl
theorem idxs_nodup (P : Nat → Prop) [DecidablePred P] (k : Nat) : (idxs P k).Nodup := by
  unfold idxs
  rw [List.nodup_iff_pairwise_ne, List.pairwise_map]
  refine List.Pairwise.imp ?_ (List.Pairwise.sublist List.filter_sublist List.pairwise_lt_range)
  intro a b h e; omega
/-- taken, told of the calls alone. -/
theorem tkR_spec {l : List GCall} (hf : fitP l) {m : TgM} {kn : KnM} (hb : tgB l l.length = some (m, kn)) {q : List Int} {ok : Prop} (h : tkR l m q ok) : (ok ∧ GoodT l ∧ ByOk l m q) ∨ (¬ ok ∧ ¬ GoodT l) := by
  have hnc : ¬ Conf l := fun c => by rw [conf_none c] at hb; cases hb
  obtain ⟨p, ⟨hp, hu⟩, hk⟩ := h
  have hmem : ∀ x, x ∈ p ↔ ∃ i t, x = ((i : Nat) : Int) ∧ TkP l i t := fun x => by
    rw [hp.mem_iff, idxs_mem]
    constructor
    · rintro ⟨i, hi, ht, rfl⟩
      obtain ⟨t, ht⟩ := (tk_iff hf hb i hi).1 ht
      exact ⟨i, t, rfl, ht⟩
    · rintro ⟨i, t, rfl, ht⟩
      exact ⟨i, tk_lt ht, (tk_iff hf hb i (tk_lt ht)).2 ⟨t, ht⟩, rfl⟩
  have hnd : p.Nodup := hp.symm.nodup (idxs_nodup _ _)
  have hat : ∀ a, a < p.length → ∃ i t, p[a]! = ((i : Nat) : Int) ∧ TkP l i t ∧ tagM m p[a]! = t := fun a ha => by
    obtain ⟨i, t, e, ht⟩ := (hmem p[a]!).1 (List.mem_of_getElem? (get_bang ha))
    exact ⟨i, t, e, ht, by rw [e]; exact tk_tag hb ht⟩
  have hpos : ∀ i t, TkP l i t → ∃ a, a < p.length ∧ p[a]! = (i : Int) := fun i t ht => by
    obtain ⟨a, ha⟩ := List.getElem?_of_mem ((hmem (i : Int)).2 ⟨i, t, rfl, ht⟩)
    have hal := (List.getElem?_eq_some_iff.1 ha).1
    rw [get_bang hal] at ha
    exact ⟨a, hal, Option.some.inj ha⟩
  have hne : ∀ a b, a < b → b < p.length → ¬ p[a]! = p[b]! := fun a b hab hbl e => by
    rw [bang_get (by omega), bang_get hbl] at e
    exact List.pairwise_iff_getElem.1 (List.nodup_iff_pairwise_ne.1 hnd) a b (by omega) hbl hab e
  rcases hk with ⟨⟨n, hn, hbad⟩, rfl, hok⟩ | ⟨hnb, rfl, hok⟩
  · refine .inr ⟨hok, fun g => ?_⟩
    obtain ⟨i, t, e, ht, et⟩ := hat n hn
    have hpr := g.prop i t ht
    have hbad : ¬ tagValid (tagM m p[n]!) ∨ tagZero (tagM m p[n]!) ∨ (0 < n ∧ tagM m p[n - 1]! = tagM m p[n]!) := hbad
    rw [et] at hbad
    rcases hbad with q | q | ⟨q1, q2⟩
    · exact q (valid_proper.2 hpr).1
    · exact (valid_proper.2 hpr).2 q
    · obtain ⟨i', t', e', ht', et'⟩ := hat (n - 1) (by omega)
      rw [et'] at q2
      subst q2
      have := g.inj i' i _ ht' ht
      subst this
      exact hne (n - 1) n (by omega) hn (e'.trans e.symm)
  · have hup : ∀ a, a + 1 < q.length → tagCmp (tagM m q[a]!) (tagM m q[a + 1]!) < 0 := fun a ha => by
      have h1 : tgLt m q[a]! q[a + 1]! ∨ (¬ tgLt m q[a + 1]! q[a]! ∧ q[a]! < q[a + 1]!) := hu a (a + 1) (Nat.zero_le _) (by omega) ha
      rcases h1 with h1 | ⟨h1, _⟩
      · exact h1
      · apply Classical.byContradiction
        intro h2
        have h1' : ¬ tagCmp (tagM m q[a + 1]!) (tagM m q[a]!) < 0 := h1
        rw [cmp_lt] at h1' h2
        exact hnb (a + 1) ha (.inr (.inr ⟨by omega, tag_ext (by show (tagM m q[a + 1 - 1]!).Count = (tagM m q[a + 1]!).Count; rw [show a + 1 - 1 = a from rfl]; omega) (by show (tagM m q[a + 1 - 1]!).Client = (tagM m q[a + 1]!).Client; rw [show a + 1 - 1 = a from rfl]; omega)⟩))
    have hup2 : ∀ d a, a + d + 1 < q.length → tagCmp (tagM m q[a]!) (tagM m q[a + d + 1]!) < 0 := fun d a => by
      induction d with
      | zero => exact hup a
      | succ d ih =>
        intro hd
        have h1 := ih (by omega)
        have h2 := hup (a + d + 1) (by omega)
        rw [cmp_lt] at *
        rw [show a + (d + 1) + 1 = a + d + 1 + 1 from rfl]
        omega
    have hup3 : ∀ a b, a < b → b < q.length → tagCmp (tagM m q[a]!) (tagM m q[b]!) < 0 := fun a b hab hbl => by
      have := hup2 (b - a - 1) a (by omega)
      rwa [show a + (b - a - 1) + 1 = b from by omega] at this
    have hprop : ∀ i t, TkP l i t → tagProper t := fun i t ht => by
      obtain ⟨a, ha, e⟩ := hpos i t ht
      have h1 := hnb a ha
      have et : tagM m q[a]! = t := by rw [e]; exact tk_tag hb ht
      have h1' : ¬ (¬ tagValid (tagM m q[a]!) ∨ tagZero (tagM m q[a]!) ∨ (0 < a ∧ tagM m q[a - 1]! = tagM m q[a]!)) := h1
      rw [et] at h1'
      exact valid_proper.1 ⟨Classical.byContradiction fun z => h1' (.inl z), fun z => h1' (.inr (.inl z))⟩
    have hinj : ∀ i j t, TkP l i t → TkP l j t → i = j := fun i j t hi hj => by
      obtain ⟨a, ha, ea⟩ := hpos i t hi
      obtain ⟨b, hbb, eb⟩ := hpos j t hj
      have e1 : tagM m q[a]! = t := by rw [ea]; exact tk_tag hb hi
      have e2 : tagM m q[b]! = t := by rw [eb]; exact tk_tag hb hj
      rcases Nat.lt_trichotomy a b with z | z | z
      · have := hup3 a b z hbb; rw [e1, e2, cmp_lt] at this; omega
      · subst z; omega
      · have := hup3 b a z ha; rw [e1, e2, cmp_lt] at this; omega
    have hcov : tkLeft m (rdM l l.length) q q.length = [] ↔ ∀ t, wan l l.length t → ∃ i, TkP l i t := by
      rw [left_nil m _ q (rdM_nd l _)]
      simp only [rdM_spec]
      constructor
      · intro h t ht
        obtain ⟨a, ha, e⟩ := h t ht
        obtain ⟨i, t', _, ht', et'⟩ := hat a ha
        rw [e] at et'
        subst et'
        exact ⟨i, ht'⟩
      · intro h t ht
        obtain ⟨i, hi⟩ := h t ht
        obtain ⟨a, ha, ea⟩ := hpos i t hi
        exact ⟨a, ha, by rw [ea]; exact tk_tag hb hi⟩
    by_cases hc : ∀ t, wan l l.length t → ∃ i, TkP l i t
    · exact .inl ⟨hok.2 (hcov.2 hc), ⟨hnc, hprop, hinj, hc⟩, ⟨hnd, hmem, fun i t ht => tk_tag hb ht, hup3⟩⟩
    · exact .inr ⟨fun z => hc (hcov.1 (hok.1 z)), fun g => hc g.cov⟩
/-- ByTags, told of the calls alone. -/
theorem byR_spec {l : List GCall} {out : List Int} {e : Int} (h : byR l out e) : (¬ fitP l ∧ e = 1 ∧ out = []) ∨ (fitP l ∧ ¬ GoodT l ∧ e = 81 ∧ out = []) ∨ (fitP l ∧ GoodT l ∧ e = 0 ∧ ∃ m q, ByOk l m q ∧ byL l m q q.length out) := by
  rcases h with h | ⟨hf, h1, h2, h3⟩ | ⟨hf, ⟨m, kn⟩, hb, q, ok, hk, h⟩
  · exact .inl h
  · exact .inr (.inl ⟨hf, fun g => g.noconf (tgB_conf _ (Nat.le_refl _) h1), h2, h3⟩)
  · rcases tkR_spec hf hb hk with ⟨h1, h2, h3⟩ | ⟨h1, h2⟩
    · rcases h with ⟨h4, _⟩ | ⟨_, h5, h6⟩
      · exact absurd h1 h4
      · exact .inr (.inr ⟨hf, h2, h5, m, q, h3, h6⟩)
    · rcases h with ⟨_, h5, h6⟩ | ⟨h4, _⟩
      · exact .inr (.inl ⟨hf, h2, h5, h6⟩)
      · exact absurd h4 h1
end Go.Proofs.Ytdahgdkadfdkeaa.K
