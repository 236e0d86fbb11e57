/- Phases and the document's answer: the plain law. -/
import Derived.Test.YtgpjpcemfaignaaPhaB
import Derived.Test.YtgpjpcemfaignaaCoreN
namespace Go.Proofs.Ytgpjpcemfaignaa.K
open Go Go.RowKit
/-- Which servers have answered (or have not), rising. -/
def servQ (cs : List Bool) (b : Bool) : List Nat := (List.range cs.length).filter fun i => cs[i]! == b
def servT (cs : List Bool) (b : Bool) (k : Nat) : List Nat := (List.range k).filter fun i => cs[i]! == b
theorem servT_succ {cs : List Bool} {b : Bool} {k : Nat} {xs : List Nat} (h : xs = servT cs b k) : ((cs[k]! = true ↔ b = true) → xs ++ [k] = servT cs b (k + 1)) ∧ (¬ (cs[k]! = true ↔ b = true) → xs = servT cs b (k + 1)) := by
  subst h
  unfold servT
  rw [List.range_succ, List.filter_append]
  constructor
  · intro q
    have q2 : (cs[k]! == b) = true := by rw [beq_iff_eq, Bool.eq_iff_iff]; exact q
    rw [show List.filter (fun i : Nat => cs[i]! == b) [k] = [k] from by simp only [List.filter, q2]]
  · intro q
    have q2 : (cs[k]! == b) = false := by rw [beq_eq_false_iff_ne]; intro e; exact q (by rw [e])
    rw [show List.filter (fun i : Nat => cs[i]! == b) [k] = [] from by simp only [List.filter, q2], List.append_nil]
theorem servT_le (cs : List Bool) (b : Bool) (n : Nat) : (servT cs b n).length ≤ n := by unfold servT; exact Nat.le_trans (List.length_filter_le _ _) (by simp)
def ansC (c : GConfig) (cs : List Bool) (s : Int) : List Bool := if inP c s then cs.set s.toNat true else cs
def ansI (c : GConfig) (ls : List Int) (s v : Int) : List Int := if inP c s then ls.set s.toNat v else ls
def getC (c : GConfig) (cs : List Bool) (s : Int) : Prop := inP c s ∧ cs[s.toNat]! = true
open Classical in
noncomputable def getI (c : GConfig) (cs : List Bool) (ls : List Int) (s : Int) : Int := if getC c cs s then ls[s.toNat]! else 0
structure RelP (c : GConfig) (l : List (Int × Int)) (cs : List Bool) (ls : List Int) : Prop where
  n1 : cs.length = c.N.toNat
  n2 : ls.length = c.N.toNat
  v : ∀ i : Nat, (i : Int) < c.N → mapV l (i : Int) = if cs[i]! = true then some ls[i]! else none
  k : (l.map (·.1)).Nodup
  r : ∀ p ∈ l, inP c p.1
theorem RelP.nil (c : GConfig) : RelP c [] (List.replicate c.N.toNat false) (List.replicate c.N.toNat 0) := by
  refine ⟨by simp, by simp, fun i hi => ?_, List.nodup_nil, fun p hp => by cases hp⟩
  rw [show (List.replicate c.N.toNat false)[i]! = false from by simp [show i < c.N.toNat from by omega]]; rfl
theorem put_keys {l : List (Int × Int)} {k v : Int} : (mapPut l k v).map (·.1) = if (mapV l k).isSome = true then l.map (·.1) else l.map (·.1) ++ [k] := by
  induction l with
  | nil => rfl
  | cons p l ih =>
    rw [put_cons, mapV_cons]
    by_cases h : k = p.1
    · simp [h]
    · rw [if_neg h, if_neg h, List.map_cons, ih]
      split <;> simp
theorem mapV_keys {l : List (Int × Int)} {k : Int} : (mapV l k).isSome = true ↔ k ∈ l.map (·.1) := by
  induction l with
  | nil => simp [mapV]
  | cons p l ih =>
    rw [mapV_cons, List.map_cons, List.mem_cons]
    by_cases h : k = p.1
    · simp [h]
    · rw [if_neg h, ih]; simp [h]
theorem RelP.get {c : GConfig} {l : List (Int × Int)} {cs : List Bool} {ls : List Int} (h : RelP c l cs ls) {s : Int} (hs : inP c s) : mapV l s = if cs[s.toNat]! = true then some ls[s.toNat]! else none := by
  have := h.v s.toNat (by have := hs.1; have := hs.2; omega)
  rwa [show ((s.toNat : Nat) : Int) = s from by have := hs.1; omega] at this
theorem RelP.no {c : GConfig} {l : List (Int × Int)} {cs : List Bool} {ls : List Int} (h : RelP c l cs ls) {s : Int} (hs : ¬ inP c s) : mapV l s = none := by
  cases hv : mapV l s with
  | none => rfl
  | some x =>
    have : s ∈ l.map (·.1) := mapV_keys.1 (by rw [hv]; rfl)
    obtain ⟨p, hp, e⟩ := List.mem_map.1 this
    subst e
    exact absurd (h.r p hp) hs
theorem RelP.ans {c : GConfig} {l : List (Int × Int)} {cs : List Bool} {ls : List Int} (h : RelP c l cs ls) (s v : Int) : RelP c (ansP c l s v) (ansC c cs s) (ansI c ls s v) := by
  by_cases hs : inP c s
  · have h1 := h.n1
    have h2 := h.n2
    have h3 := hs.1
    have h4 := hs.2
    unfold ansP ansC ansI
    rw [if_pos hs, if_pos hs, if_pos hs]
    refine ⟨by simp [h1], by simp [h2], fun i hi => ?_, ?_, fun p hp => ?_⟩
    · rw [mapV_put, set_bang (by omega), set_bang (by omega)]
      by_cases e : i = s.toNat
      · rw [if_pos (by omega), if_pos e, if_pos e, if_pos rfl]
      · rw [if_neg (by omega), if_neg e, if_neg e]; exact h.v i hi
    · rw [put_keys]
      split
      · exact h.k
      · rename_i hn
        rw [List.nodup_append]
        refine ⟨h.k, List.nodup_cons.2 ⟨by simp, List.nodup_nil⟩, fun a ha b hb e => ?_⟩
        rw [List.mem_singleton.1 hb] at e; subst e
        exact hn (mapV_keys.2 ha)
    · rcases mapPut_sub p hp with rfl | hp
      · exact hs
      · exact h.r p hp
  · unfold ansP ansC ansI
    rw [if_neg hs, if_neg hs, if_neg hs]; exact h
theorem RelP.some {c : GConfig} {l : List (Int × Int)} {cs : List Bool} {ls : List Int} (h : RelP c l cs ls) {s : Int} (hs : inP c s) : (mapV l s).isSome = cs[s.toNat]! := by
  rw [h.get hs]; cases cs[s.toNat]! <;> rfl
theorem RelP.first {c : GConfig} {l : List (Int × Int)} {cs : List Bool} {ls : List Int} (h : RelP c l cs ls) (s : Int) : (inP c s ∧ ¬ (mapV l s).isSome = true) ↔ (inP c s ∧ ¬ cs[s.toNat]! = true) := by
  constructor
  · rintro ⟨h1, h2⟩; exact ⟨h1, by rw [← h.some h1]; exact h2⟩
  · rintro ⟨h1, h2⟩; exact ⟨h1, by rw [h.some h1]; exact h2⟩
theorem RelP.value {c : GConfig} {l : List (Int × Int)} {cs : List Bool} {ls : List Int} (h : RelP c l cs ls) (s : Int) : (mapV l s).getD 0 = getI c cs ls s ∧ ((mapV l s).isSome = true ↔ getC c cs s) := by
  unfold getI getC
  by_cases hs : inP c s
  · rw [h.get hs]
    cases q : cs[s.toNat]! <;> simp [hs]
  · rw [h.no hs]; simp [hs]
theorem RelP.miss {c : GConfig} {l : List (Int × Int)} {cs : List Bool} {ls : List Int} (h : RelP c l cs ls) : missP l c.N.toNat = servQ cs false := by
  unfold missP servQ
  rw [h.n1]
  apply List.filter_congr
  intro i hi
  have hi' := List.mem_range.1 hi
  rw [h.v i (by omega)]
  cases cs[i]! <;> rfl
theorem serv_mem {cs : List Bool} {b : Bool} {i : Nat} : i ∈ servQ cs b ↔ i < cs.length ∧ cs[i]! = b := by
  unfold servQ; rw [List.mem_filter, List.mem_range, beq_iff_eq]
theorem nodup_count {l : List Int} (h : l.Nodup) (a : Int) : l.count a = if a ∈ l then 1 else 0 := by
  induction l with
  | nil => rfl
  | cons x l ih =>
    rw [List.nodup_cons] at h
    rw [List.count_cons, ih h.2]
    by_cases e : x = a
    · subst e; simp [h.1]
    · have : (x == a) = false := beq_eq_false_iff_ne.2 e
      rw [this]
      have e2 : ¬ a = x := fun q => e q.symm
      simp [e2]
theorem serv_nodup (cs : List Bool) (b : Bool) : ((servQ cs b).map (fun (y : Nat) => (y : Int))).Nodup := by
  unfold servQ
  have h1 : ((List.range cs.length).filter fun i => cs[i]! == b).Nodup := List.Nodup.sublist List.filter_sublist List.nodup_range
  rw [List.Nodup, List.pairwise_map]
  exact h1.imp fun hab e => hab (by omega)
theorem serv_sorted (cs : List Bool) (b : Bool) : ((servQ cs b).map (fun (y : Nat) => (y : Int))).Pairwise (fun x y => x ≤ y) := by
  unfold servQ
  rw [List.pairwise_map]
  have h1 : ((List.range cs.length).filter fun i => cs[i]! == b).Pairwise (· < ·) := List.Pairwise.sublist List.filter_sublist List.pairwise_lt_range
  exact h1.imp fun hab => by omega
theorem RelP.perm {c : GConfig} {l : List (Int × Int)} {cs : List Bool} {ls : List Int} (h : RelP c l cs ls) : (l.map (·.1)).Perm ((servQ cs true).map (fun (y : Nat) => (y : Int))) := by
  rw [List.perm_iff_count]
  intro a
  rw [nodup_count h.k, nodup_count (serv_nodup cs true)]
  have : a ∈ l.map (·.1) ↔ a ∈ (servQ cs true).map (fun (y : Nat) => (y : Int)) := by
    rw [← mapV_keys, List.mem_map]
    by_cases hs : inP c a
    · have h1 := hs.1
      have h2 := hs.2
      have h3 := h.n1
      rw [h.some hs]
      constructor
      · intro q; exact ⟨a.toNat, serv_mem.2 ⟨by omega, q⟩, by omega⟩
      · rintro ⟨i, hi, e⟩
        rw [show a.toNat = i from by omega]; exact (serv_mem.1 hi).2
    · rw [h.no hs]
      constructor
      · intro q; cases q
      · rintro ⟨i, hi, e⟩
        have := (serv_mem.1 hi).1
        have h3 := h.n1
        exact absurd ⟨by omega, by omega⟩ hs
  by_cases q : a ∈ l.map (·.1)
  · rw [if_pos q, if_pos (this.1 q)]
  · rw [if_neg q, if_neg (fun z => q (this.2 z))]
theorem RelP.len {c : GConfig} {l : List (Int × Int)} {cs : List Bool} {ls : List Int} (h : RelP c l cs ls) : l.length = (servQ cs true).length := by
  have := h.perm.length_eq
  simpa using this
/-- Numbers that came in some order, each once: the same as all. -/
theorem came_perm {l : List (Int × Int)} {dn : List Nat} (h1 : dn.Nodup) (h2 : ∀ i ∈ dn, i < l.length) (h3 : ∀ i, i < l.length → i ∈ dn) : (dn.map fun i => (l[i]!).1).Perm (l.map (·.1)) := by
  have hp : dn.Perm (List.range l.length) := by
    rw [List.perm_iff_count]
    intro a
    have hc : ∀ {m : List Nat}, m.Nodup → m.count a = if a ∈ m then 1 else 0 := by
      intro m hm
      induction m with
      | nil => rfl
      | cons x m ih =>
        rw [List.nodup_cons] at hm
        rw [List.count_cons, ih hm.2]
        by_cases e : x = a
        · subst e; simp [hm.1]
        · have : (x == a) = false := beq_eq_false_iff_ne.2 e
          rw [this]
          have e2 : ¬ a = x := fun q => e q.symm
          simp [e2]
    rw [hc h1, hc List.nodup_range]
    by_cases q : a ∈ dn
    · rw [if_pos q, if_pos (List.mem_range.2 (h2 a q))]
    · rw [if_neg q, if_neg (fun z => q (h3 a (List.mem_range.1 z)))]
  have h4 := hp.map (fun i => (l[i]!).1)
  have h5 : (List.range l.length).map (fun i => (l[i]!).1) = l.map (·.1) := by
    apply List.ext_getElem (by simp)
    intro i q1 q2
    have : i < l.length := by simpa using q1
    simp [this]
  rw [h5] at h4; exact h4
theorem sort_eq {xs ys : List Int} (hp : xs.Perm ys) (hs : ys.Pairwise (fun x y => x ≤ y)) : (xs.mergeSort fun x y => decide (x ≤ y)) = ys := by
  refine List.Perm.eq_of_pairwise (le := fun x y => x ≤ y) (fun a b _ _ h1 h2 => by omega) ?_ hs ((List.mergeSort_perm _ _).trans hp)
  have := List.pairwise_mergeSort (le := fun (x y : Int) => decide (x ≤ y)) (by intro a b c h1 h2; simp at *; omega) (by intro a b; simp; omega) xs
  exact this.imp fun h => of_decide_eq_true h
theorem RelP.sorted {c : GConfig} {l : List (Int × Int)} {cs : List Bool} {ls : List Int} (h : RelP c l cs ls) {dn : List Nat} (h1 : dn.Nodup) (h2 : ∀ i ∈ dn, i < l.length) (h3 : ∀ i, i < l.length → i ∈ dn) :
    ((dn.map fun i => (l[i]!).1).mergeSort fun x y => decide (x ≤ y)) = (servQ cs true).map (fun (y : Nat) => (y : Int)) :=
  sort_eq ((came_perm h1 h2 h3).trans h.perm) (serv_sorted cs true)
/-- What Each gives. -/
def flatP (ls : List Int) (ss : List Nat) : List Int := ss.flatMap fun (i : Nat) => [((i : Nat) : Int), ls[i]!]
theorem flatP_len (ls : List Int) (ss : List Nat) : (flatP ls ss).length = 2 * ss.length := by
  unfold flatP
  induction ss with
  | nil => rfl
  | cons x ss ih => rw [List.flatMap_cons, List.length_append, ih]; simp; omega
theorem flatP_snoc (ls : List Int) (ss : List Nat) (i : Nat) : flatP ls ss ++ [(i : Int), ls[i]!] = flatP ls (ss ++ [i]) := by unfold flatP; simp
theorem flatP_take (ls : List Int) (ss : List Nat) (k : Nat) : (flatP ls ss).take (2 * k) = flatP ls (ss.take k) := by
  unfold flatP
  induction ss generalizing k with
  | nil => simp
  | cons x ss ih =>
    cases k with
    | zero => simp
    | succ k => rw [List.flatMap_cons, List.take_succ_cons, List.flatMap_cons, show 2 * (k + 1) = [(x : Int), ls[x]!].length + 2 * k from by simp; omega, List.take_length_add_append, ih]
def wantP (ls : List Int) (ss : List Nat) (N : Int) : List Int := if 0 < N ∧ N < (ss.length : Int) then flatP ls (ss.take N.toNat) else flatP ls ss
theorem take_bang {ss : List Nat} {k : Nat} (h : k < ss.length) : ss.take (k + 1) = ss.take k ++ [ss[k]!] := by
  rw [List.take_succ_eq_append_getElem h, getElem!_pos ss k h]
theorem serv_at {cs : List Bool} {b : Bool} {zs : List Int} (hz : zs = (servQ cs b).map (fun (y : Nat) => (y : Int))) {k : Nat} (hk : k < zs.length) : zs[k]! = (((servQ cs b)[k]! : Nat) : Int) := by
  subst hz
  have hk' : k < (servQ cs b).length := by simpa using hk
  rw [getElem!_pos _ k hk, getElem!_pos _ k hk', List.getElem_map]
theorem serv_in {c : GConfig} {cs : List Bool} (hcl : cs.length = c.N.toNat) {k : Nat} (hk : k < (servQ cs true).length) : getC c cs (((servQ cs true)[k]! : Nat) : Int) := by
  have := serv_mem.1 (show (servQ cs true)[k]! ∈ servQ cs true from by rw [getElem!_pos _ k hk]; exact List.getElem_mem hk)
  unfold getC inP
  exact ⟨⟨by omega, by omega⟩, by rw [show ((((servQ cs true)[k]! : Nat) : Int)).toNat = (servQ cs true)[k]! from by omega]; exact this.2⟩
theorem zs_len {cs : List Bool} {b : Bool} {zs : List Int} (hz : zs = (servQ cs b).map (fun (y : Nat) => (y : Int))) : zs.length = (servQ cs b).length := by rw [hz, List.length_map]
theorem want_step {c : GConfig} {cs : List Bool} {ls zs xs : List Int} (hcl : cs.length = c.N.toNat) (hz : zs = (servQ cs true).map (fun (y : Nat) => (y : Int))) {k : Nat} (hk : k < zs.length) (hx : xs = flatP ls ((servQ cs true).take k)) :
    xs ++ [zs[k]!, getI c cs ls zs[k]!] = flatP ls ((servQ cs true).take (k + 1)) := by
  have hk' : k < (servQ cs true).length := by rw [← zs_len hz]; exact hk
  rw [serv_at hz hk, take_bang hk', ← flatP_snoc, hx]
  unfold getI
  rw [if_pos (serv_in hcl hk')]
  congr 3
theorem each_step {c : GConfig} {l : List (Int × Int)} {cs : List Bool} {ls zs xs : List Int} (h : RelP c l cs ls) (hz : zs = (servQ cs true).map (fun (y : Nat) => (y : Int))) {k : Nat} (hk : k < zs.length) (hx : xs = flatP ls ((servQ cs true).take k)) :
    xs ++ [zs[k]!, (mapV l zs[k]!).getD 0] = flatP ls ((servQ cs true).take (k + 1)) := by
  rw [(h.value _).1]; exact want_step h.n1 hz hk hx
theorem want_cut {ls xs : List Int} {ss : List Nat} {N : Int} (hx : xs = flatP ls ss) (h1 : 0 < N) (h2 : N < (ss.length : Int)) : wantP ls ss N = xs.take (2 * N).toNat ∧ (wantP ls ss N).length = (2 * N).toNat := by
  unfold wantP
  rw [if_pos ⟨h1, h2⟩]
  have e : (2 * N).toNat = 2 * N.toNat := by omega
  refine ⟨by rw [hx, e, flatP_take], ?_⟩
  rw [flatP_len, List.length_take]; omega
theorem want_all {ls : List Int} {ss : List Nat} {N : Int} (h : ¬ (0 < N ∧ N < (ss.length : Int))) : wantP ls ss N = flatP ls ss := by unfold wantP; rw [if_neg h]
theorem want_end {ls : List Int} {ss : List Nat} {N : Int} (h : ¬ (1 ≤ N ∧ N ≤ (ss.length : Int))) : wantP ls ss N = flatP ls ss := want_all (by omega)
theorem want_stop {ls : List Int} {ss : List Nat} {N : Int} {k : Nat} (hk : k < ss.length) (h : ((k : Int) + 1) = N) : wantP ls ss N = flatP ls (ss.take (k + 1)) := by
  unfold wantP
  by_cases q : N < (ss.length : Int)
  · rw [if_pos ⟨by omega, q⟩, show N.toNat = k + 1 from by omega]
  · rw [if_neg (by omega), List.take_of_length_le (by omega)]
theorem want_le (ls : List Int) (ss : List Nat) (N : Int) : (wantP ls ss N).length ≤ 2 * ss.length := by
  unfold wantP
  split
  · rw [flatP_len, List.length_take]; omega
  · rw [flatP_len]; omega
def eachC (c : GConfig) (cs : List Bool) (s : Int) : List Bool := if servQ cs true = [] then cs else ansC c cs s
def eachI (c : GConfig) (cs : List Bool) (ls : List Int) (s : Int) : List Int := if servQ cs true = [] then ls else ansI c ls s 4444
def eachP (c : GConfig) (cs : List Bool) (l : List (Int × Int)) (s : Int) : List (Int × Int) := if servQ cs true = [] then l else ansP c l s 4444
theorem RelP.each {c : GConfig} {l : List (Int × Int)} {cs : List Bool} {ls : List Int} (h : RelP c l cs ls) (s : Int) : RelP c (eachP c cs l s) (eachC c cs s) (eachI c cs ls s) := by
  unfold eachP eachC eachI
  by_cases q : servQ cs true = []
  · rw [if_pos q, if_pos q, if_pos q]; exact h
  · rw [if_neg q, if_neg q, if_neg q]; exact h.ans s 4444
def evP (c : GConfig) (l : List (Int × Int)) (xs : List Int) (s : Int) : List (Int × Int) := if xs = [] then ansP c l s 4444 else l
theorem ev_step {c : GConfig} {l l2 : List (Int × Int)} {ls xs : List Int} {ss : List Nat} {k : Nat} {s : Int} (hk : k < ss.length) (hx : xs = flatP ls (ss.take k)) (h : l2 = if k = 0 then l else ansP c l s 4444) : evP c l2 xs s = if k + 1 = 0 then l else ansP c l s 4444 := by
  have hlen : xs.length = 2 * k := by rw [hx, flatP_len, List.length_take]; omega
  unfold evP
  rw [if_neg (by omega : ¬ k + 1 = 0)]
  by_cases q : k = 0
  · rw [if_pos (List.eq_nil_of_length_eq_zero (by omega)), h, if_pos q]
  · rw [if_neg (fun e => by rw [e] at hlen; simp at hlen; omega), h, if_neg q]
theorem ev_end {c : GConfig} {cs : List Bool} {l l2 : List (Int × Int)} {k : Nat} {s : Int} (hk : k = (servQ cs true).length) (h : l2 = if k = 0 then l else ansP c l s 4444) : l2 = eachP c cs l s := by
  unfold eachP
  rw [h]
  by_cases q : servQ cs true = []
  · rw [if_pos q, if_pos (by rw [hk, q]; rfl)]
  · rw [if_neg q, if_neg (fun e => q (List.eq_nil_of_length_eq_zero (by omega)))]
theorem ev_stop {c : GConfig} {cs : List Bool} {l l2 : List (Int × Int)} {k : Nat} {s : Int} (hk : k < (servQ cs true).length) (h : l2 = if k + 1 = 0 then l else ansP c l s 4444) : l2 = eachP c cs l s := by
  unfold eachP
  rw [h, if_neg (by omega), if_neg (fun e => by rw [e] at hk; simp at hk)]
theorem nodup_le : ∀ {n : Nat} {dn : List Nat}, dn.Nodup → (∀ i ∈ dn, i < n) → dn.length ≤ n
  | 0, dn, _, h => by cases dn with | nil => simp | cons x l => exact absurd (h x (by simp)) (by omega)
  | n + 1, dn, hn, h => by
    by_cases q : n ∈ dn
    · have h1 := nodup_le (n := n) (hn.erase n) (fun i hi => by
        have h2 := h i (List.mem_of_mem_erase hi)
        have h3 : i ≠ n := fun e => by subst e; exact hn.not_mem_erase hi
        omega)
      rw [List.length_erase_of_mem q] at h1; omega
    · have h1 := nodup_le (n := n) hn (fun i hi => by have h2 := h i hi; have h3 : i ≠ n := fun e => by subst e; exact q hi
                                                      omega)
      omega
theorem bang_of {α : Type} [Inhabited α] {l : List α} {i : Nat} {x : α} (h : l[i]? = some x) : l[i]! = x := by rw [List.getElem!_eq_getElem?_getD, h]; rfl
theorem dn_snoc {l : List (Int × Int)} {dn : List Nat} {xs : List Int} {n : Nat} {p : Int × Int} (hx : xs = dn.map fun i => (l[i]!).1) (h : l[n]? = some p) : xs ++ [p.1] = (dn ++ [n]).map fun i => (l[i]!).1 := by
  rw [List.map_append, ← hx, List.map_cons, List.map_nil, bang_of h]
end Go.Proofs.Ytgpjpcemfaignaa.K
