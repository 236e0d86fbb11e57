/- Texts, their steps and their lines: what the laws lean on. -/
import Derived.Test.YtbpedjefoajegaaDoorScrH
namespace Go.Proofs.YtbpedjefoajegaaDoor.K
open Go Go.RowKit
set_option linter.unusedVariables false
def intsAt (w : World) (s : SlH) : List Int := (List.range s.n).map fun i => match w.cell? ((adr s.a).add i) with | some (.int _ x) => x | _ => 0
theorem intsAt_of {w : World} {s : SlH} {ns : List Int} (h : SlR w s.a s.n (ns.flatMap i64c)) (hn : ns.length = s.n) : intsAt w s = ns := by
  apply List.ext_getElem?
  intro i
  unfold intsAt
  rw [List.getElem?_map, ← hn]
  have hm : ∀ ns : List Int, ns.flatMap i64c = ns.map (Value.int .i64) := fun ns => by
    induction ns with
    | nil => rfl
    | cons x l ih => rw [List.flatMap_cons, ih]; rfl
  by_cases hi : i < ns.length
  · rw [List.getElem?_range hi, List.getElem?_eq_getElem hi]
    have := h.rd i (.int .i64 ns[i]) (by rw [hm]; simp [hi])
    simp [this]
  · simp [hi]
/-- The plain step of one that was handed in. -/
def plainS (w : World) (s : GStep) : StepP := ⟨s.Kind, s.A, s.B, s.Key, valAt w s.Value, intsAt w s.L⟩
theorem bytesI_of {l : List Int} (h : ∀ y ∈ l, 0 ≤ y ∧ y ≤ 255) : bytesI (strOf l) = l := by
  have hd : (strOf l).data.toList = l.map fun n => UInt8.ofNat n.toNat := by
    induction l with
    | nil => rfl
    | cons x l ih =>
      rw [show x :: l = [x] ++ l from rfl, strOf_app, ih fun y hy => h y (by simp [hy])]; rfl
  unfold bytesI
  rw [hd, List.map_map]
  refine (List.map_congr_left fun x hx => ?_).trans (List.map_id _)
  have := h x hx
  show ((UInt8.ofNat x.toNat).toNat : Int) = x
  rw [UInt8.toNat_ofNat', Nat.mod_eq_of_lt (by omega)]; omega
theorem StR.input {w : World} {s : GStep} {lv ll : List Int} (h1 : SlR w s.Value.a s.Value.n (lv.flatMap u8c)) (n1 : s.Value.n = lv.length) (r1 : ∀ y ∈ lv, 0 ≤ y ∧ y ≤ 255) (h2 : SlR w s.L.a s.L.n (ll.flatMap i64c)) (n2 : s.L.n = ll.length) : StR w Tr s (plainS w s) ∧ intsAt w s.L = ll := by
  have e1 : bytesAt w s.Value = lv := bytesAt_of h1 n1.symm
  have e2 : intsAt w s.L = ll := intsAt_of h2 n2.symm
  have ev : valAt w s.Value = strOf lv := by unfold valAt; rw [e1]
  refine ⟨StR.of rfl rfl rfl rfl ⟨?_, ?_⟩ ?_ ?_, e2⟩
  · show s.Value.n = (valAt w s.Value).size
    rw [ev, strOf_len, n1]
  · show SlR w s.Value.a s.Value.n ((bytesI (valAt w s.Value)).flatMap u8c)
    rw [ev, bytesI_of r1]; exact h1
  · show s.L.n = (intsAt w s.L).length
    rw [e2, n2]
  · show SlR w s.L.a s.L.n ((intsAt w s.L).flatMap i64c)
    rw [e2]; exact h2
theorem StL.input {w : World} {cl : List GStep} (h : ∀ s ∈ cl, StR w Tr s (plainS w s)) : StL w Tr cl (cl.map (plainS w)) := by
  refine ⟨by simp, fun i hi => ?_⟩
  rw [getElem!_pos cl i hi, getElem!_pos _ i (by simpa using hi), List.getElem_map]
  exact h _ (List.getElem_mem hi)
theorem all_mem {xs : List StepP} {P : StepP → Prop} (h : ∀ i, i < xs.length → P xs[i]!) : ∀ x ∈ xs, P x := fun x hx => by
  obtain ⟨i, hi⟩ := List.getElem?_of_mem hx
  have hil := (List.getElem?_eq_some_iff.1 hi).1
  have := h i hil
  rwa [getElem!_pos xs i hil, (List.getElem?_eq_some_iff.1 hi).2] at this
theorem mem_all {xs : List StepP} {P : StepP → Prop} (h : ∀ x ∈ xs, P x) {i : Nat} (hi : i < xs.length) : P xs[i]! := by rw [getElem!_pos xs i hi]; exact h _ (List.getElem_mem hi)
/-! ### Text -/
theorem TxtR.good {xs : List StepP} {t : ByteArray} {e : Int} (h : TxtR xs t e) : (e = 0 ↔ xs.length ≤ 4096 ∧ ∀ x ∈ xs, okS x) ∧ (e = 0 → t = textS xs) ∧ (¬ e = 0 → t = ⟨#[]⟩) := by
  rcases h with ⟨h1, h2, h3⟩ | ⟨h1, h2, k, h3, h4, h5, h6⟩ | ⟨h1, h2, h3, h4⟩
  · exact ⟨⟨fun q => by omega, fun q => by omega⟩, fun q => by omega, fun _ => h2⟩
  · refine ⟨⟨fun q => absurd q h5, fun q => ?_⟩, fun q => absurd q h5, fun _ => h2⟩
    rw [h4]; exact chk_0 (mem_all q.2 h3)
  · exact ⟨⟨fun _ => ⟨h1, h4⟩, fun _ => h2⟩, fun _ => h3, fun q => absurd h2 q⟩
theorem textL_len {M : Nat} : ∀ (ls : List (List UInt8)), (∀ l ∈ ls, l.length ≤ M) → (textL ls).length ≤ ls.length * (M + 1)
  | [], _ => by simp [textL]
  | l :: ls, h => by
    have ih := textL_len ls fun x hx => h x (by simp [hx])
    have := h l (by simp)
    unfold textL at *
    rw [List.flatMap_cons, List.length_append, List.length_append, List.length_singleton, List.length_cons, Nat.add_mul]
    omega
theorem TxtR.size {xs : List StepP} {t : ByteArray} {e : Int} {M : Nat} (h : TxtR xs t e) (hM : ∀ x ∈ xs, (lineS x).size ≤ M) (hm : M ≤ 34359738) : t.size ≤ 8796093022200 ∧ ∀ x ∈ linesB t, x.size ≤ 4294967280 := by
  have hn : ∀ x ∈ linesB (⟨#[]⟩ : ByteArray), x.size ≤ 4294967280 := fun x hx => by simp [linesB, linesL] at hx
  rcases h with ⟨h1, h2, h3⟩ | ⟨h1, h2, _⟩ | ⟨h1, h2, h3, h4⟩
  · rw [h2]; exact ⟨Nat.zero_le _, hn⟩
  · rw [h2]; exact ⟨Nat.zero_le _, hn⟩
  · rw [h3]
    constructor
    · rw [size_list]; unfold textS; rw [List.toList_toArray]
      have := textL_len (M := M) (xs.map fun x => (lineS x).data.toList) fun l hl => by
        obtain ⟨x, hx, rfl⟩ := List.mem_map.1 hl
        rw [← size_list]; exact hM x hx
      rw [List.length_map] at this
      have h9 : xs.length * (M + 1) ≤ 4096 * (M + 1) := Nat.mul_le_mul_right _ h1
      omega
    · rw [lines_textS h4]
      intro x hx
      obtain ⟨y, hy, rfl⟩ := List.mem_map.1 hx
      have := hM y hy; omega
/-! ### lines of a text -/
theorem linesB_no {s l : ByteArray} (h : l ∈ linesB s) : ∀ c ∈ l.data.toList, c ≠ 10 := by
  unfold linesB at h
  obtain ⟨x, hx, rfl⟩ := List.mem_map.1 h
  rw [List.toList_toArray]
  exact lines_cut _ [] x hx (by simp)
theorem linesB_size {s l : ByteArray} (h : l ∈ linesB s) : l.size ≤ s.size := by
  unfold linesB at h
  obtain ⟨x, hx, rfl⟩ := List.mem_map.1 h
  rw [size_list, List.toList_toArray, size_list]
  have key : ∀ (a cur : List UInt8), ∀ x ∈ linesL cur a, x.length ≤ cur.length + a.length := by
    intro a
    induction a with
    | nil =>
      intro cur x hx
      unfold linesL at hx
      split at hx
      · cases hx
      · rw [List.mem_singleton] at hx; subst hx; simp
    | cons c r ih =>
      intro cur x hx
      unfold linesL at hx
      split at hx
      · rcases List.mem_cons.1 hx with rfl | hx
        · omega
        · have := ih [] x hx; simp only [List.length_nil, List.length_cons] at *; omega
      · have := ih _ x hx; simp only [List.length_append, List.length_cons, List.length_nil] at *; omega
  have := key _ _ x hx
  simpa using this
theorem join_ge : ∀ (ws : List ByteArray), (∀ y ∈ ws, y.size ≤ (joinB ws).size) ∧ ws.length ≤ (joinB ws).size + 1
  | [] => ⟨fun y hy => (by cases hy), Nat.zero_le _⟩
  | [x] => ⟨fun y hy => by rw [List.mem_singleton] at hy; subst hy; rw [joinB_one]; exact Nat.le_refl _, by simp⟩
  | x :: y :: r => by
    obtain ⟨h1, h2⟩ := join_ge (y :: r)
    have hs : (joinB (x :: y :: r)).size = x.size + (1 + (joinB (y :: r)).size) := by rw [joinB_cons, ByteArray.size_append, ByteArray.size_append]; rfl
    refine ⟨fun z hz => ?_, ?_⟩
    · rcases List.mem_cons.1 hz with rfl | hz
      · omega
      · have := h1 z hz; omega
    · rw [List.length_cons, hs]; omega
theorem sm_line {x : StepP} (ok : okS x) (hi : inS x) {M : Nat} (h : (lineS x).size ≤ M) (hM : M ≤ 1099511627775) : smS x := by
  obtain ⟨h1, h2⟩ := join_ge (wordsS x)
  have hl : (joinB (wordsS x)).size ≤ M := h
  refine ⟨hi, ?_, ?_, ?_⟩
  · cases hk : kK x.Kind with
    | false => rw [ok.2.2.2.1 hk]; exact Nat.zero_le _
    | true =>
      have := h1 (hexT x.Key) (by unfold wordsS; simp [hk])
      have h3 : x.Key.size ≤ (hexT x.Key).size := (byt_self (b := x.Key) (r := [])).le
      omega
  · cases hk : kV x.Kind with
    | false => have := ok.2.2.2.2.1 hk; omega
    | true =>
      have := h1 (hexT x.Value) (by unfold wordsS; simp [hk])
      have h3 : x.Value.size ≤ (hexT x.Value).size := (byt_self (b := x.Value) (r := [])).le
      omega
  · have : x.L.length ≤ (wordsS x).length := by unfold wordsS; simp only [List.length_cons, List.length_append, List.length_map]; omega
    omega
/-! ### Parse -/
section
variable {s : ByteArray} {xs : List StepP} {n e : Int}
theorem PrsR.zero (h : PrsR s xs n e) (he : e = 0) : n = 0 ∧ xs.length ≤ 4096 ∧ linesB s = xs.map lineS ∧ ∀ x ∈ xs, okS x ∧ inS x := by
  rcases h with ⟨_, _, _, h⟩ | ⟨_, _, h, _⟩ | ⟨h1, h2, _, h3, h4⟩
  · omega
  · omega
  · exact ⟨h2, by rw [h3, List.length_map] at h1; exact h1, h3, h4⟩
theorem PrsR.not (h : PrsR s xs n e) (he : ¬ e = 0) : xs = [] ∧ ((4096 < (linesB s).length ∧ n = 0 ∧ e = 2) ∨ ((linesB s).length ≤ 4096 ∧ e = 82 ∧ 0 ≤ n ∧ n < ((linesB s).length : Int) ∧ ¬ isL (linesB s)[n.toNat]! ∧ ∀ i, i < n.toNat → isL (linesB s)[i]!)) := by
  rcases h with ⟨h1, h2, h3, h4⟩ | ⟨h1, h2, h3, k, h4, h5, h6, h7⟩ | ⟨h1, h2, h3, h4⟩
  · exact ⟨h2, .inl ⟨h1, h3, h4⟩⟩
  · exact ⟨h2, .inr ⟨h1, h3, by omega, by omega, by rw [h5]; exact h6, fun i hi => h7 i (by omega)⟩⟩
  · exact absurd h3 he
/-- A line that is no step's. -/
theorem PrsR.one_bad {l : ByteArray} (h : PrsR (l ++ ⟨#[10]⟩) xs n e) (hl : ∀ c ∈ l.data.toList, c ≠ 10) (hb : ¬ isL l) : e = 82 := by
  have hs := lines_one hl
  rcases h with ⟨h1, _⟩ | ⟨_, _, h3, _⟩ | ⟨_, _, _, h3, h4⟩
  · rw [hs] at h1; simp at h1
  · exact h3
  · rw [hs] at h3
    cases xs with
    | nil => simp at h3
    | cons x r =>
      simp only [List.map_cons, List.cons.injEq] at h3
      exact absurd ⟨x, (h4 x (by simp)).1, (h4 x (by simp)).2, h3.1.symm⟩ hb
/-- A line that is one's. -/
theorem PrsR.one_ok {l : ByteArray} (h : PrsR (l ++ ⟨#[10]⟩) xs n e) (hl : ∀ c ∈ l.data.toList, c ≠ 10) (hb : isL l) : e = 0 ∧ n = 0 ∧ ∃ x, xs = [x] ∧ okS x ∧ inS x ∧ lineS x = l := by
  have hs := lines_one hl
  obtain ⟨y, h1, h2, h3⟩ := hb
  obtain ⟨q1, q2, q3⟩ := h.of (ys := [y]) (by rw [hs, List.map_cons, List.map_nil, h3]) (fun z hz => by rw [List.mem_singleton] at hz; subst hz; exact ⟨h1, h2⟩) (by simp)
  exact ⟨q2, q1, y, q3, h1, h2, h3⟩
/-- Lines that all are. -/
theorem PrsR.all (h : PrsR s xs n e) (hn : (linesB s).length ≤ 4096) (ha : ∀ i, i < (linesB s).length → isL (linesB s)[i]!) : e = 0 := by
  rcases h with ⟨h1, _⟩ | ⟨_, _, _, k, h4, _, h6, _⟩ | ⟨_, _, h3, _⟩
  · omega
  · exact absurd (ha k h4) h6
  · exact h3
end
def frontB (ls : List ByteArray) : ByteArray := ⟨(textL (ls.map (·.data.toList))).toArray⟩
theorem front_lines {ls : List ByteArray} (h : ∀ l ∈ ls, ∀ c ∈ l.data.toList, c ≠ 10) : linesB (frontB ls) = ls := by
  unfold linesB frontB
  rw [List.toList_toArray, lines_text]
  · rw [List.map_map]
    exact (List.map_congr_left fun x _ => mk_list x).trans (List.map_id _)
  · intro l hl
    obtain ⟨x, hx, rfl⟩ := List.mem_map.1 hl
    exact h x hx
theorem front_step {ls : List ByteArray} {k : Nat} (h : k < ls.length) : frontB (ls.take k) ++ (ls[k]! ++ (⟨#[10]⟩ : ByteArray)) = frontB (ls.take (k + 1)) := by
  apply ba_ext
  unfold frontB textL
  rw [List.take_succ_eq_append_getElem h, List.map_append, List.flatMap_append, getElem!_pos ls k h]
  simp
/-- By bytes, as by runes. -/
theorem ln_byte {s : ByteArray} {xs : List ByteArray} {a p : Nat} (h : LnI s xs a p) (hp : p < s.size) : (byteAt s ((p : Nat) : Int) = 10 → LnI s (xs ++ [s.extract a p]) (p + 1) (p + 1)) ∧ (¬ byteAt s ((p : Nat) : Int) = 10 → LnI s xs a (p + 1)) := by
  have hq : p < s.data.toList.length := by rw [← size_list]; exact hp
  have e : s.data.toList.drop p = s.data.toList[p] :: s.data.toList.drop (p + 1) := List.drop_eq_getElem_cons hq
  have hb := byte_get hq
  obtain ⟨h1, h2, h3⟩ := h
  have h10 : (((10 : UInt8).toNat : Nat) : Int) = 10 := rfl
  constructor
  · intro hc
    have he : s.data.toList[p] = 10 := UInt8.toNat_inj.1 (by omega)
    refine ⟨Nat.le_refl _, by omega, ?_⟩
    rw [h3, e, he, linesL, if_pos rfl, List.map_append, List.map_cons, List.map_nil, List.append_assoc, cut_list, Nat.sub_self, List.take_zero]
    rfl
  · intro hc
    have he : ¬ s.data.toList[p] = 10 := fun q => hc (by rw [hb, q]; rfl)
    refine ⟨by omega, by omega, ?_⟩
    rw [h3, e, linesL, if_neg he]
    congr 2
    rw [show p + 1 - a = (p - a) + 1 from by omega, List.take_succ_eq_append_getElem (by rw [List.length_drop]; omega), List.getElem_drop]
    congr 2
    congr 1; omega
end Go.Proofs.YtbpedjefoajegaaDoor.K
