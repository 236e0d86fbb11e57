/- The five steps of awake and their text. -/
import Derived.Test.YtbpedjefoajegaaDoorScrN
namespace Go.Proofs.YtbpedjefoajegaaDoor.K
open Go Go.RowKit
set_option linter.unusedVariables false
set_option linter.unusedSimpArgs false
def aw1 : StepP := ⟨1, 1, 0, ⟨#[107]⟩, ⟨#[120]⟩, []⟩
def aw2 : StepP := ⟨2, -3, 0, ⟨#[]⟩, ⟨#[]⟩, []⟩
def aw3 : StepP := ⟨12, 0, 0, ⟨#[]⟩, ⟨#[]⟩, [1, -1]⟩
def aw4 : StepP := ⟨16, 0, 9, ⟨#[]⟩, ⟨#[]⟩, [5]⟩
def aw5 : StepP := ⟨9, 2, 7, ⟨#[]⟩, ⟨#[]⟩, [4294967295]⟩
def awL : List StepP := [aw1, aw2, aw3, aw4, aw5]
def awT : ByteArray := ⟨#[112, 117, 116, 32, 49, 32, 54, 98, 32, 55, 56, 10, 103, 101, 116, 32, 45, 51, 32, 45, 10, 99, 114, 97, 115, 104, 32, 48, 32, 49, 32, 45, 49, 10, 114, 111, 117, 110, 100, 32, 57, 32, 53, 10, 98, 117, 114, 115, 116, 32, 50, 32, 55, 32, 52, 50, 57, 52, 57, 54, 55, 50, 57, 53, 10]⟩
theorem aw_ok : ∀ x ∈ awL, okS x := by
  intro x hx
  simp only [awL, List.mem_cons, List.not_mem_nil, or_false] at hx
  rcases hx with rfl | rfl | rfl | rfl | rfl <;> simp [okS, aw1, aw2, aw3, aw4, aw5, kA, kB, kK, kV, kL] <;> rfl
theorem aw_in : ∀ x ∈ awL, inS x := by
  intro x hx
  simp only [awL, List.mem_cons, List.not_mem_nil, or_false] at hx
  rcases hx with rfl | rfl | rfl | rfl | rfl <;> simp [inS, inI, aw1, aw2, aw3, aw4, aw5]
theorem aw_sm : ∀ x ∈ awL, smS x := by
  intro x hx
  refine ⟨aw_in x hx, ?_⟩
  simp only [awL, List.mem_cons, List.not_mem_nil, or_false] at hx
  rcases hx with rfl | rfl | rfl | rfl | rfl <;> simp [aw1, aw2, aw3, aw4, aw5, ByteArray.size]
theorem it_m3 : itoaT (-3) = ⟨#[45, 51]⟩ := by unfold itoaT; simp [Lib.itoa, Lib.decDigits]
theorem it_m1 : itoaT (-1) = ⟨#[45, 49]⟩ := by unfold itoaT; simp [Lib.itoa, Lib.decDigits]
theorem it_0 : itoaT 0 = ⟨#[48]⟩ := by unfold itoaT; simp [Lib.itoa, Lib.decDigits]
theorem it_1 : itoaT 1 = ⟨#[49]⟩ := by unfold itoaT; simp [Lib.itoa, Lib.decDigits]
theorem it_2 : itoaT 2 = ⟨#[50]⟩ := by unfold itoaT; simp [Lib.itoa, Lib.decDigits]
theorem it_5 : itoaT 5 = ⟨#[53]⟩ := by unfold itoaT; simp [Lib.itoa, Lib.decDigits]
theorem it_7 : itoaT 7 = ⟨#[55]⟩ := by unfold itoaT; simp [Lib.itoa, Lib.decDigits]
theorem it_9 : itoaT 9 = ⟨#[57]⟩ := by unfold itoaT; simp [Lib.itoa, Lib.decDigits]
theorem it_big : itoaT 4294967295 = ⟨#[52, 50, 57, 52, 57, 54, 55, 50, 57, 53]⟩ := by unfold itoaT; simp [Lib.itoa, Lib.decDigits]
theorem aw_l1 : lineS aw1 = ⟨#[112, 117, 116, 32, 49, 32, 54, 98, 32, 55, 56]⟩ := by
  show joinB [kWord 1, itoaT 1, hexT ⟨#[107]⟩, hexT ⟨#[120]⟩] = _
  rw [it_1]; rfl
theorem aw_l2 : lineS aw2 = ⟨#[103, 101, 116, 32, 45, 51, 32, 45]⟩ := by
  show joinB [kWord 2, itoaT (-3), hexT ⟨#[]⟩] = _
  rw [it_m3]; rfl
theorem aw_l3 : lineS aw3 = ⟨#[99, 114, 97, 115, 104, 32, 48, 32, 49, 32, 45, 49]⟩ := by
  show joinB [kWord 12, itoaT 0, itoaT 1, itoaT (-1)] = _
  rw [it_0, it_1, it_m1]; rfl
theorem aw_l4 : lineS aw4 = ⟨#[114, 111, 117, 110, 100, 32, 57, 32, 53]⟩ := by
  show joinB [kWord 16, itoaT 9, itoaT 5] = _
  rw [it_9, it_5]; rfl
theorem aw_l5 : lineS aw5 = ⟨#[98, 117, 114, 115, 116, 32, 50, 32, 55, 32, 52, 50, 57, 52, 57, 54, 55, 50, 57, 53]⟩ := by
  show joinB [kWord 9, itoaT 2, itoaT 7, itoaT 4294967295] = _
  rw [it_2, it_7, it_big]; rfl
theorem aw_text : textS awL = awT := by
  unfold textS awL
  simp only [List.map_cons, List.map_nil, aw_l1, aw_l2, aw_l3, aw_l4, aw_l5]
  rfl
theorem aw_lines : linesB awT = awL.map lineS := aw_text ▸ lines_textS aw_ok
theorem aw_linesz : ∀ x ∈ linesB awT, x.size ≤ 70 := fun x hx => Nat.le_trans (linesB_size hx) (by decide)
theorem aw_linez : ∀ x ∈ awL, (lineS x).size ≤ 70 := fun x hx => aw_linesz _ (aw_lines ▸ List.mem_map_of_mem hx)
theorem no10 {s : ByteArray} (h : ∀ p, p < s.size → ¬ byteAt s ((p : Nat) : Int) = 10) : ∀ c ∈ s.data.toList, c ≠ 10 := by
  intro c hc e
  obtain ⟨i, hi⟩ := List.getElem?_of_mem hc
  have hl := (List.getElem?_eq_some_iff.1 hi).1
  rw [← size_list] at hl
  apply h i hl
  unfold byteAt
  rw [show ((i : Nat) : Int).toNat = i from by omega, hi]
  subst e
  rfl
theorem take_all {ls : List ByteArray} {P : ByteArray → Prop} {k : Nat} (h : ∀ i, i < k → P ls[i]!) (hk : k ≤ ls.length) : ∀ l ∈ ls.take k, P l := by
  intro l hl
  obtain ⟨i, hi⟩ := List.getElem?_of_mem hl
  have h1 := (List.getElem?_eq_some_iff.1 hi).1
  rw [List.length_take] at h1
  have hik : i < k := by omega
  rw [List.getElem?_take_of_lt hik] at hi
  have h2 := h i hik
  rw [getElem!_pos ls i (by omega), (List.getElem?_eq_some_iff.1 hi).2] at h2
  exact h2
theorem take_bang {ls : List ByteArray} {k i : Nat} (hi : i < k) (hk : k ≤ ls.length) : (ls.take k)[i]! = ls[i]! := by
  rw [getElem!_pos _ i (by rw [List.length_take]; omega), getElem!_pos ls i (by omega), List.getElem_take]
theorem sl_lines {ls : List ByteArray} {xs : List StepP} {k i : Nat} (h : xs.map lineS = ls.take k) (h2 : ∀ x ∈ xs, okS x ∧ inS x) (hk : k ≤ ls.length) (hi : i < k) : isL ls[i]! := by
  have hl : xs.length = k := by have := congrArg List.length h; rw [List.length_map, List.length_take] at this; omega
  have he : (xs.map lineS)[i]? = (ls.take k)[i]? := by rw [h]
  rw [List.getElem?_take_of_lt hi, List.getElem?_map, List.getElem?_eq_getElem (by omega : i < xs.length), List.getElem?_eq_getElem (by omega : i < ls.length)] at he
  have hm := h2 xs[i] (List.getElem_mem _)
  rw [getElem!_pos _ i (by omega)]
  exact ⟨xs[i], hm.1, hm.2, Option.some.inj he⟩
/-- What has been read of the first k lines: the first that is no step's, or all their steps. -/
def SlI (ls : List ByteArray) (k : Nat) (bd : Int) (xs : List StepP) : Prop :=
  (bd = -1 ∧ xs.map lineS = ls.take k ∧ ∀ x ∈ xs, okS x ∧ inS x) ∨ (0 ≤ bd ∧ bd < k ∧ ¬ isL ls[bd.toNat]! ∧ ∀ i, i < bd.toNat → isL ls[i]!)
theorem SlI.start (ls : List ByteArray) : SlI ls 0 (-1) [] := .inl ⟨rfl, by simp, by simp⟩
theorem SlI.bad {ls : List ByteArray} {xs : List StepP} {k : Nat} {bd : Int} (h : SlI ls k bd xs) (hk : k < ls.length) (hb : bd < 0) (hn : ¬ isL ls[k]!) : SlI ls (k + 1) (k : Int) xs := by
  rcases h with ⟨_, h1, h2⟩ | ⟨h1, _⟩
  · exact .inr ⟨by omega, by omega, by simpa using hn, fun i hi => sl_lines h1 h2 (by omega) (by simpa using hi)⟩
  · omega
theorem SlI.worse {ls : List ByteArray} {xs ys : List StepP} {k : Nat} {bd : Int} (h : SlI ls k bd xs) (hb : ¬ bd < 0) : SlI ls (k + 1) bd ys := by
  rcases h with ⟨h1, _⟩ | ⟨h1, h2, h3⟩
  · omega
  · exact .inr ⟨h1, by omega, h3⟩
theorem SlI.more {ls : List ByteArray} {xs : List StepP} {k : Nat} {bd : Int} {x : StepP} (h : SlI ls k bd xs) (hk : k < ls.length) (ox : okS x) (ix : inS x) (hx : lineS x = ls[k]!) : SlI ls (k + 1) bd (xs ++ [x]) := by
  rcases h with ⟨h1, h2, h3⟩ | ⟨h1, h2, h3⟩
  · refine .inl ⟨h1, ?_, fun y hy => ?_⟩
    · rw [List.map_append, h2, List.take_succ_eq_append_getElem hk, List.map_cons, List.map_nil, hx, getElem!_pos _ k hk]
    · rcases List.mem_append.1 hy with hy | hy
      · exact h3 y hy
      · rw [List.mem_singleton] at hy; subst hy; exact ⟨ox, ix⟩
  · exact .inr ⟨h1, by omega, h3⟩
theorem SlI.fin {ls : List ByteArray} {xs ys : List StepP} {k : Nat} {bd n e : Int} (h : SlI ls k bd xs) (hk : k ≤ ls.length) (h4 : k ≤ 4096) (hno : ∀ l ∈ ls.take k, ∀ c ∈ l.data.toList, c ≠ 10) (hp : PrsR (frontB (ls.take k)) ys n e) :
    (0 ≤ bd → e = 82 ∧ n = bd ∧ ys = []) ∧ (¬ 0 ≤ bd → e = 0 ∧ n = 0 ∧ ys = xs ∧ xs.map lineS = ls.take k ∧ ∀ x ∈ xs, okS x ∧ inS x) := by
  have hl := front_lines hno
  have hlen : (ls.take k).length = k := by rw [List.length_take]; omega
  rcases h with ⟨h1, h2, h3⟩ | ⟨h1, h2, h3, h5⟩
  · have hx : xs.length = k := by have := congrArg List.length h2; rw [List.length_map, hlen] at this; omega
    obtain ⟨a, b, c⟩ := hp.of (hl.trans h2.symm) h3 (by omega)
    exact ⟨fun q => by omega, fun _ => ⟨b, a, c, h2, h3⟩⟩
  · refine ⟨fun _ => ?_, fun q => by omega⟩
    rcases hp with ⟨q, _⟩ | ⟨_, q1, q2, j, q3, q4, q5, q6⟩ | ⟨_, _, _, q1, q2⟩
    · rw [hl, hlen] at q; omega
    · rw [hl] at q3 q5 q6
      rw [hlen] at q3
      have hj : j = bd.toNat := by
        rcases Nat.lt_trichotomy j bd.toNat with q | q | q
        · rw [take_bang q3 hk] at q5; exact absurd (h5 j q) q5
        · exact q
        · have h_ := q6 bd.toNat q
          rw [take_bang (by omega) hk] at h_
          exact absurd h_ h3
      exact ⟨q2, by omega, q1⟩
    · exact absurd (sl_lines (q1.symm.trans hl) q2 hk (by omega)) h3
theorem sl_sm {ls : List ByteArray} {xs : List StepP} {k : Nat} (h : xs.map lineS = ls.take k) (h2 : ∀ x ∈ xs, okS x ∧ inS x) (hs : ∀ l ∈ ls, l.size ≤ 1048576) : ∀ x ∈ xs, smS x := fun x hx =>
  sm_line (h2 x hx).1 (h2 x hx).2 (hs _ (List.mem_of_mem_take (h ▸ List.mem_map_of_mem hx : lineS x ∈ ls.take k))) (by decide)
theorem one_of {α : Type} [Inhabited α] {cl : List α} (h : cl.length = 1) : [cl[0]!] = cl := by
  obtain ⟨s, rfl⟩ := List.length_eq_one_iff.1 h
  rfl
/-- The first refusal among the first k steps. -/
def BkI (xs : List StepP) (k : Nat) (bd : Int) : Prop := (bd = 0 ∧ ∀ i, i < k → chkI xs[i]! = 0) ∨ (¬ bd = 0 ∧ ∃ j, j < xs.length ∧ bd = chkI xs[j]! ∧ ∀ i, i < j → chkI xs[i]! = 0)
theorem BkI.start (xs : List StepP) : BkI xs 0 0 := .inl ⟨rfl, fun i hi => absurd hi (Nat.not_lt_zero _)⟩
theorem BkI.more {xs : List StepP} {k : Nat} {bd : Int} (h : BkI xs k bd) (hb : bd = 0) (hk : k < xs.length) : BkI xs (k + 1) (chkI xs[k]!) := by
  rcases h with ⟨_, h⟩ | ⟨q, _⟩
  · by_cases h0 : chkI xs[k]! = 0
    · refine .inl ⟨h0, fun i hi => ?_⟩
      by_cases e : i = k
      · subst e; exact h0
      · exact h i (by omega)
    · exact .inr ⟨h0, k, hk, rfl, h⟩
  · exact absurd hb q
theorem BkI.fin {xs : List StepP} {k : Nat} {bd e : Int} {t : ByteArray} (h : BkI xs k bd) (hk : ¬ bd = 0 ∨ xs.length ≤ k) (hT : TxtR xs t e) : (4096 < xs.length → e = 2) ∧ (¬ 4096 < xs.length → e = bd) := by
  refine ⟨fun q => ?_, fun q => ?_⟩
  · rcases hT with ⟨_, _, h⟩ | ⟨h, _⟩ | ⟨h, _⟩
    · exact h
    · omega
    · omega
  · rcases hT with ⟨h, _⟩ | ⟨_, _, j, a1, a2, a3, a4⟩ | ⟨_, a1, _, a2⟩
    · omega
    · rcases h with ⟨h0, h1⟩ | ⟨h0, i, b1, b2, b3⟩
      · exact absurd (a2.trans (h1 j (by omega))) a3
      · have hij : i = j := by
          rcases Nat.lt_trichotomy i j with q | q | q
          · exact absurd (b2.trans (a4 i q)) h0
          · exact q
          · exact absurd (a2.trans (b3 j q)) a3
        rw [a2, b2, hij]
    · rcases h with ⟨h0, _⟩ | ⟨h0, i, b1, b2, _⟩
      · rw [a1, h0]
      · exact absurd (b2.trans (chk_0 (mem_all a2 b1))) h0
theorem got_sm {s : ByteArray} {xs : List StepP} {n : Int} (h : n = 0 ∧ xs.length ≤ 4096 ∧ linesB s = xs.map lineS ∧ ∀ x ∈ xs, okS x ∧ inS x) (hs : s.size ≤ 1048576) : ∀ x ∈ xs, smS x := fun x hx => sm_line (h.2.2.2 x hx).1 (h.2.2.2 x hx).2 (linesB_size (s := s) (by rw [h.2.2.1]; exact List.mem_map_of_mem hx)) (Nat.le_trans hs (by decide))
theorem got_T {s : ByteArray} {xs : List StepP} {n : Int} (h : n = 0 ∧ xs.length ≤ 4096 ∧ linesB s = xs.map lineS ∧ ∀ x ∈ xs, okS x ∧ inS x) (hs : s.size ≤ 1048576) : ∀ x ∈ xs, (lineS x).size ≤ 34359738 := fun x hx => Nat.le_trans (linesB_size (s := s) (by rw [h.2.2.1]; exact List.mem_map_of_mem hx)) (Nat.le_trans hs (by decide))
end Go.Proofs.YtbpedjefoajegaaDoor.K
