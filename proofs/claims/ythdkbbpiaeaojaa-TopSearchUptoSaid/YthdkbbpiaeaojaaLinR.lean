/- The walks of LinR: what each function computes. -/
import Derived.Test.YthdkbbpiaeaojaaProg
import Derived.Test.YthdkbbpiaeaojaaCoreO
import Derived.Test.YthdkbbpiaeaojaaLinW
import Derived.Test.YthdkbbpiaeaojaaLinQ
namespace Go.Proofs.Ythdkbbpiaeaojaa.K
open Go Go.Proofs Go.RowKit
set_option linter.unusedVariables false
set_option linter.unusedSimpArgs false
set_option maxRecDepth 20000
set_option maxHeartbeats 4000000

def aheadC (a b : GCall) : Prop := mustC a ∧ 0 ≤ a.To ∧ a.To < b.From
/-- The bools say which calls are in the order. -/
def Ins (l : List GCall) (inn : List Bool) (pre : List Nat) : Prop := inn.length = l.length ∧ (∀ i, i < l.length → (inn[i]! = true ↔ i ∈ pre)) ∧ ∀ x ∈ pre, x < l.length
theorem lastOf_found {l : List GCall} {pre : List Nat} {k : Nat} (hk : k < pre.length) (h : l[pre[k]!]!.Put = true) (hn : ∀ j, k < j → j < pre.length → ¬ l[pre[j]!]!.Put = true) : lastOf l pre = (pre[k]! : Int) := by
  unfold lastOf
  generalize (-1 : Int) = a
  induction pre generalizing k a with
  | nil => simp at hk
  | cons x pre ih =>
    rw [List.foldl_cons]
    cases k with
    | zero =>
      have h0 : l[x]!.Put = true := by simpa using h
      have hn' : ∀ (pre : List Nat) (s : Int), (∀ j, j < pre.length → ¬ l[pre[j]!]!.Put = true) → pre.foldl (fun (s : Int) (i : Nat) => if l[i]!.Put = true then (i : Int) else s) s = s := by
        intro pre
        induction pre with
        | nil => intro s _; rfl
        | cons y pre ih2 =>
          intro s hh
          rw [List.foldl_cons, if_neg (by have := hh 0 (by simp); simpa using this)]
          exact ih2 s (fun j hj => by have := hh (j + 1) (by simp; omega); simpa using this)
      rw [if_pos h0, hn' pre _ (fun j hj => by have := hn (j + 1) (by omega) (by simp; omega); simpa using this)]
      simp
    | succ k =>
      have := ih (k := k) (by simpa using hk) (by simpa using h) (fun j h1 h2 => by have := hn (j + 1) (by omega) (by simp; omega); simpa using this) (a := if l[x]!.Put = true then (x : Int) else a)
      simpa using this
theorem lastOf_none {l : List GCall} {pre : List Nat} (hn : ∀ j, j < pre.length → ¬ l[pre[j]!]!.Put = true) : lastOf l pre = -1 := by
  unfold lastOf
  generalize (-1 : Int) = a
  induction pre generalizing a with
  | nil => rfl
  | cons y pre ih2 =>
    rw [List.foldl_cons, if_neg (by have := hn 0 (by simp); simpa using this)]
    exact ih2 (fun j hj => by have := hn (j + 1) (by simp; omega); simpa using this) a
theorem lastOf_lt {l : List GCall} {pre : List Nat} (h : ∀ x ∈ pre, x < l.length) : lastOf l pre < (l.length : Int) := by
  unfold lastOf
  have key : ∀ (pre : List Nat) (a : Int), a < (l.length : Int) → (∀ x ∈ pre, x < l.length) → pre.foldl (fun (s : Int) (i : Nat) => if l[i]!.Put = true then (i : Int) else s) a < (l.length : Int) := by
    intro pre
    induction pre with
    | nil => intro a ha _; exact ha
    | cons x pre ih =>
      intro a ha hp
      rw [List.foldl_cons]
      refine ih _ ?_ (fun y hy => hp y (by simp [hy]))
      have := hp x (by simp)
      split <;> omega
  exact key pre (-1) (by omega) h
def BestAt (val : SlH → ByteArray) (l : List GCall) (pre p : List Nat) : Prop := PathA val l pre p ∧ ∀ q, PathA val l pre q → lexle p q
def refR (val : SlH → ByteArray) (l : List GCall) (pre : List Nat) (inn : List Bool) (no : Nat) (b : Bool) (pre' : List Nat) (inn' : List Bool) (no' : Nat) : Prop :=
  (b = true → ∃ p, BestAt val l pre p ∧ pre' = pre ++ p) ∧ (b = false → pre' = pre ∧ inn' = inn ∧ no' = no ∧ ∀ p, ¬ PathA val l pre p)
theorem ins_set {l : List GCall} {inn : List Bool} {pre : List Nat} {k : Nat} (h : Ins l inn pre) (hk : k < l.length) : Ins l (inn.set k true) (pre ++ [k]) := by
  obtain ⟨h1, h2, h3⟩ := h
  refine ⟨by simp [h1], fun i hi => ?_, fun x hx => ?_⟩
  · rw [List.mem_append, List.mem_singleton, ← h2 i hi]
    by_cases hik : k = i
    · subst hik; simp [h1, hk]
    · have : ¬ i = k := fun e => hik e.symm
      simp [hik, this]
  · rcases List.mem_append.1 hx with q | q
    · exact h3 x q
    · simp at q; omega
theorem set_back {inn : List Bool} {k : Nat} (h : ¬ inn[k]! = true) (hk : k < inn.length) : (inn.set k true).set k false = inn := by
  rw [List.set_set]
  apply List.ext_getElem?
  intro i
  rw [List.getElem?_set]
  split
  · rename_i e
    subst e
    first | rw [if_pos hk, get_bang hk] | rw [get_bang hk]
    cases hb : inn[k]! <;> simp_all
  · rfl
theorem count_set {inn : List Bool} {k : Nat} (h : ¬ inn[k]! = true) (hk : k < inn.length) : (inn.set k true).count false + 1 = inn.count false := by
  induction inn generalizing k with
  | nil => simp at hk
  | cons b inn ih =>
    cases k with
    | zero => cases b <;> simp_all
    | succ k =>
      have := ih (k := k) (by simpa using h) (by simpa using hk)
      simp only [List.set_cons_succ, List.count_cons]
      omega
theorem bestAt_cons {val : SlH → ByteArray} {l : List GCall} {pre p : List Nat} {k : Nat} (hd : ¬ doneA l pre) (hm : mayA val l pre k) (hb : BestAt val l (pre ++ [k]) p) (hn : ∀ j, j < k → ∀ q, ¬ PathA val l pre (j :: q)) : BestAt val l pre (k :: p) := by
  refine ⟨⟨hd, hm, hb.1⟩, fun q hq => ?_⟩
  cases q with
  | nil => exact absurd hq hd
  | cons j q =>
    rcases Nat.lt_trichotomy j k with h | h | h
    · exact absurd hq (hn j h q)
    · subst h; exact .inr ⟨rfl, hb.2 q hq.2.2⟩
    · exact .inl h
theorem noneA {val : SlH → ByteArray} {l : List GCall} {pre : List Nat} (hd : ¬ doneA l pre) (hn : ∀ j, j < l.length → ∀ q, ¬ PathA val l pre (j :: q)) : ∀ p, ¬ PathA val l pre p := by
  intro p hp
  cases p with
  | nil => exact hd hp
  | cons j q => exact hn j hp.2.1.1 q hp
theorem may_ref {val : SlH → ByteArray} {l : List GCall} {inn : List Bool} {pre : List Nat} {i : Nat} (hin : Ins l inn pre) (hi : i < l.length) (h1 : ¬ inn[i]! = true) (h2 : partC l[i]!) (h3 : ∀ j, j < l.length → ¬ (¬ inn[j]! = true ∧ ¬ j = i ∧ partC l[j]! ∧ aheadC l[j]! l[i]!)) :
    mayA val l pre i ↔ (l[i]!.Put = true ∨ explP val l l[i]! (lastOf l pre)) := by
  obtain ⟨_, g2, _⟩ := hin
  constructor
  · exact fun h => h.2.2.2.2
  · refine fun h => ⟨hi, h2, fun hm => h1 ((g2 i hi).2 hm), fun j hj hb => ?_, h⟩
    refine (g2 j hj).1 (Classical.byContradiction fun hn => h3 j hj ⟨hn, hb.2.2.2, .inl hb.1, hb.1, hb.2.1, hb.2.2.1⟩)
theorem may_not {val : SlH → ByteArray} {l : List GCall} {inn : List Bool} {pre : List Nat} {i : Nat} (hin : Ins l inn pre) (hi : i < l.length) (h : (inn[i]! = true) ∨ ¬ partC l[i]!) : ¬ mayA val l pre i := by
  intro hm
  rcases h with h | h
  · exact hm.2.2.1 ((hin.2.1 i hi).1 h)
  · exact h hm.2.1
theorem may_not2 {val : SlH → ByteArray} {l : List GCall} {inn : List Bool} {pre : List Nat} {i j : Nat} (hin : Ins l inn pre) (hj : j < l.length) (h : ¬ inn[j]! = true ∧ ¬ j = i ∧ aheadC l[j]! l[i]!) : ¬ mayA val l pre i := by
  intro hm
  exact h.1 ((hin.2.1 j hj).2 (hm.2.2.2.1 j hj ⟨h.2.2.1, h.2.2.2.1, h.2.2.2.2, h.2.1⟩))

theorem ref_ahead (c d : GCall) (w : World) :
    Calls Try.prog 129 #[GCall.val c, GCall.val d] w (fun x w' => ∃ b, x = .returned (.bool b) ∧ Bp b (aheadC c d) ∧ Fram Non w w') := by
  refine calls_of Try.func129 rfl 19 rfl (by simp) ?_
  have hp0 := Hp.init w
  have he0 : List.map (env0 [GCall.val c, GCall.val d]) [0, 1] = [GCall.val c, GCall.val d] := by kernel_rfl
  obtain ⟨b0, he0⟩ := toMk he0
  rw [he0]
  clear he0
  refine WP.seq ?_
  refine WP.region _ rfl (by kernel_rfl) ?_
  refine OPS.cons (opStep.box hp0 [.int .i64 c.Client, .int .i64 c.Op, .bool c.Put, .string c.Key, .slice c.Value.a c.Value.n c.Value.c, .int .i64 c.Status, .int .i64 c.From, .int .i64 c.To, .bool c.Open, .int .i64 c.Tag.Count, .int .i64 c.Tag.Client] (by kernel_rfl) (fun g3 w1 hp2 => ?_))
  refine OPS.cons (opStep.box hp2 [.int .i64 d.Client, .int .i64 d.Op, .bool d.Put, .string d.Key, .slice d.Value.a d.Value.n d.Value.c, .int .i64 d.Status, .int .i64 d.From, .int .i64 d.To, .bool d.Open, .int .i64 d.Tag.Count, .int .i64 d.Tag.Client] (by kernel_rfl) (fun g6 w4 hp5 => ?_))
  refine OPS.batch 1 {} [] [2, 3] [.pointer (some ⟨g3, 0, none⟩), .pointer (some ⟨g6, 0, none⟩)] .nil (by kernel_rfl) (fun b7 => ?_)
  refine OPS.nil ?_
  refine thn_n ?_
  refine WP.cut (fun e28 w29 => ∃ (x26 : Bool), (True) ∧ Bp x26 ((mustC c) ∧ (0 ≤ c.To) ∧ (c.To < d.From)) ∧ List.map e28 [4] = [.bool x26] ∧ Hp w Non [Res.row g6 [.int .i64 d.Client, .int .i64 d.Op, .bool d.Put, .string d.Key, .slice d.Value.a d.Value.n d.Value.c, .int .i64 d.Status, .int .i64 d.From, .int .i64 d.To, .bool d.Open, .int .i64 d.Tag.Count, .int .i64 d.Tag.Client] 41, Res.row g3 [.int .i64 c.Client, .int .i64 c.Op, .bool c.Put, .string c.Key, .slice c.Value.a c.Value.n c.Value.c, .int .i64 c.Status, .int .i64 c.From, .int .i64 c.To, .bool c.Open, .int .i64 c.Tag.Count, .int .i64 c.Tag.Client] 41] w29) ?_ ?_
  · refine WP.region _ rfl (by kernel_rfl) ?_
    refine OPS.batch 1 {} [GCall.val c] [2, 3, 5] [.pointer (some ⟨g3, 0, none⟩), .pointer (some ⟨g6, 0, none⟩), GCall.val c] (.cons (show Ld Try.prog w4 41 ⟨g3, 0, none⟩ (GCall.val c) from Ld.rowN (cs := [.int .i64 c.Client, .int .i64 c.Op, .bool c.Put, .string c.Key, .slice c.Value.a c.Value.n c.Value.c, .int .i64 c.Status, .int .i64 c.From, .int .i64 c.To, .bool c.Open, .int .i64 c.Tag.Count, .int .i64 c.Tag.Client]) hp5.get1 (by kernel_rfl)) .nil) (by kernel_rfl) (fun b9 => ?_)
    refine OPS.cons (opStep.call (some 6) [GCall.val c] (by kernel_rfl) (sherdref20_must c _) ?_)
    rintro _ w12 ⟨b15, rfl, hb16, hf13⟩
    refine ⟨_, rfl, ?_⟩
    have hp14 := hp5.step hf13
    refine OPS.batch 1 {} [] [2, 3, 7] [.pointer (some ⟨g3, 0, none⟩), .pointer (some ⟨g6, 0, none⟩), .bool b15] .nil (by kernel_rfl) (fun b17 => ?_)
    by_cases h18 : mustC c
    · rw [show b15 = true from hb16.tt h18]
      refine OPS.batch 5 { wraps := [11] } [.int .i64 c.To] [2, 3, 12] [.pointer (some ⟨g3, 0, none⟩), .pointer (some ⟨g6, 0, none⟩), .bool (decide (0 ≤ c.To))] (.cons (Ld.row1 (P := Try.prog) (t := 3) (o := 7) (v := .int .i64 c.To) hp14.get1 (by kernel_rfl)) .nil) (by kernel_rfl) (fun b19 => ?_)
      by_cases h20 : 0 ≤ c.To
      · refine OPS.batch 0 {} [] [2, 3, 12] [.pointer (some ⟨g3, 0, none⟩), .pointer (some ⟨g6, 0, none⟩), .bool (decide (0 ≤ c.To))] .nil (by kernel_rfl) (fun b21 => ?_)
        refine OPS.re [.pointer (some ⟨g3, 0, none⟩), .pointer (some ⟨g6, 0, none⟩), .bool true] (by rw [show (decide (0 ≤ c.To)) = true from Bp.dec.tt h20]) ?_
        refine OPS.batch 7 { wraps := [18] } [.int .i64 c.To, .int .i64 d.From] [4] [.bool (decide (c.To < d.From))] (.cons (Ld.row1 (P := Try.prog) (t := 3) (o := 7) (v := .int .i64 c.To) hp14.get1 (by kernel_rfl)) (.cons (Ld.row1 (P := Try.prog) (t := 3) (o := 6) (v := .int .i64 d.From) hp14.get0 (by kernel_rfl)) .nil)) (by kernel_rfl) (fun b22 => ?_)
        refine OPS.nil ?_
        refine thn_n ?_
        exact ⟨decide (c.To < d.From), trivial, Bp.of Bp.dec (by first | (simp only [h18, h20, iff_false, false_iff, iff_true, true_iff, Classical.not_not, and_true, true_and, and_false, false_and, or_true, true_or, or_false, false_or, not_true_eq_false, not_false_eq_true, and_self, or_self, iff_self]; done) | (simp [h18, h20]; done) | simp_all), by kernel_rfl, hp14⟩
      · refine OPS.batch 0 {} [] [2, 3, 12] [.pointer (some ⟨g3, 0, none⟩), .pointer (some ⟨g6, 0, none⟩), .bool (decide (0 ≤ c.To))] .nil (by kernel_rfl) (fun b23 => ?_)
        refine OPS.re [.pointer (some ⟨g3, 0, none⟩), .pointer (some ⟨g6, 0, none⟩), .bool false] (by rw [show (decide (0 ≤ c.To)) = false from Bp.dec.ff h20]) ?_
        refine OPS.batch 7 { wraps := [18] } [] [4] [.bool false] .nil (by kernel_rfl) (fun b24 => ?_)
        refine OPS.nil ?_
        refine thn_n ?_
        exact ⟨false, trivial, Bp.of Bp.f (by first | (simp only [h18, h20, iff_false, false_iff, iff_true, true_iff, Classical.not_not, and_true, true_and, and_false, false_and, or_true, true_or, or_false, false_or, not_true_eq_false, not_false_eq_true, and_self, or_self, iff_self]; done) | (simp [h18, h20]; done) | simp_all), by kernel_rfl, hp14⟩
    · rw [show b15 = false from hb16.ff h18]
      refine OPS.batch 12 { wraps := [11, 18] } [] [4] [.bool false] .nil (by kernel_rfl) (fun b25 => ?_)
      refine OPS.nil ?_
      refine thn_n ?_
      exact ⟨false, trivial, Bp.of Bp.f (by first | (simp only [h18, iff_false, false_iff, iff_true, true_iff, Classical.not_not, and_true, true_and, and_false, false_and, or_true, true_or, or_false, false_or, not_true_eq_false, not_false_eq_true, and_self, or_self, iff_self]; done) | (simp [h18]; done) | simp_all), by kernel_rfl, hp14⟩
  rintro e28 w29 ⟨x26, hd31, hb27, hE32, hp30⟩
  obtain ⟨b33, rfl⟩ := toMk hE32
  clear hE32
  clear hd31
  refine WP.ret ?_
  refine bodyQ.of _ rfl [.bool x26] ⟨rfl, trivial⟩ ?_
  exact ⟨_, rfl, Bp.of hb27 (by first | (simp only [aheadC]; done) | (simp only [aheadC]; simp_all)), hp30.fr⟩

theorem ref_whole (w0 : World) (sb : Nat) (l : List GCall) (a : Option Addr) (cp : Nat) (ai : Option Addr) (ni ci : Nat) (hs : SlR w0 a l.length (l.flatMap GCall.cells)) (hv : ∀ x ∈ l, VB w0 x.Value) (hll : l.length ≤ 8796093022207) (L : List Res) (ao : Option Addr) (no co : Nat) (pre : List Nat) (inn : List Bool) (w : World) (hin : Ins l inn pre) (hnb : no ≤ l.length) (hp0 : Hp w0 Non (Res.row sb [.slice a l.length cp, .slice ao no co, .slice ai ni ci] 114 :: Res.own 3 1 (.slice ao no co) no (List.flatMap (fun (y : Nat) => [Go.Value.int .i64 (y : Int)]) pre) :: Res.own 4 1 (.slice ai ni ci) ni (List.flatMap (fun (y : Bool) => [Go.Value.bool y]) inn) :: L) w) :
    Calls Try.prog 115 #[.pointer (some ⟨sb, 0, none⟩)] w (fun x w' => ∃ b, x = .returned (.bool b) ∧ Bp b (doneA l pre) ∧ Hp w0 Non (Res.row sb [.slice a l.length cp, .slice ao no co, .slice ai ni ci] 114 :: Res.own 3 1 (.slice ao no co) no (List.flatMap (fun (y : Nat) => [Go.Value.int .i64 (y : Int)]) pre) :: Res.own 4 1 (.slice ai ni ci) ni (List.flatMap (fun (y : Bool) => [Go.Value.bool y]) inn) :: L) w') := by
  obtain ⟨hi1, hi2, hi3⟩ := hin
  refine calls_of Try.func115 rfl 28 rfl (by simp) ?_
  have he0 : List.map (env0 [.pointer (some ⟨sb, 0, none⟩)]) [0] = [.pointer (some ⟨sb, 0, none⟩)] := by kernel_rfl
  obtain ⟨b0, he0⟩ := toMk he0
  rw [he0]
  clear he0
  refine WP.seq ?_
  refine WP.pure {} [] [0] [.pointer (some ⟨sb, 0, none⟩)] .nil (by kernel_rfl) (fun b1 => ?_)
  refine thn_n ?_
  refine WP.seq ?_
  refine WP.seq ?_
  refine WP.pure {} [.slice a l.length cp] [0, 8, 9, 10] [.pointer (some ⟨sb, 0, none⟩), .slice a l.length cp, .int .i64 ((l.length : Nat) : Int), .int .i64 0] (.cons (Ld.row1 (P := Try.prog) (t := 35) (o := 0) (v := .slice a l.length cp) hp0.get0 (by kernel_rfl)) .nil) (by kernel_rfl) (fun b2 => ?_)
  refine thn_n ?_
  refine WP.block ?_
  refine WP.loop (fun mz_ e3 w4 => ∃ (k : Nat), mz_ = l.length - k ∧ (k ≤ l.length ∧ ∀ i, i < k → mustC l[i]! → i ∈ pre) ∧ List.map e3 [0, 8, 9, 10] = [.pointer (some ⟨sb, 0, none⟩), .slice a l.length cp, .int .i64 ((l.length : Nat) : Int), .int .i64 (k : Int)] ∧ Hp w0 Non (Res.row sb [.slice a l.length cp, .slice ao no co, .slice ai ni ci] 114 :: Res.own 3 1 (.slice ao no co) no (List.flatMap (fun (y : Nat) => [Go.Value.int .i64 (y : Int)]) pre) :: Res.own 4 1 (.slice ai ni ci) ni (List.flatMap (fun (y : Bool) => [Go.Value.bool y]) inn) :: L) w4) (l.length - (0)) ⟨0, rfl, ⟨by omega, fun i hi => by omega⟩, by kernel_rfl, hp0⟩ ?_
  rintro _ e3 w4 ⟨k, rfl, hI6, hE7, hp5⟩
  obtain ⟨b8, rfl⟩ := toMk hE7
  clear hE7
  obtain ⟨h1, h2⟩ := hI6
  refine WP.seq ?_
  refine WP.pure {} [] [0, 8, 9, 10, 11] [.pointer (some ⟨sb, 0, none⟩), .slice a l.length cp, .int .i64 ((l.length : Nat) : Int), .int .i64 (k : Int), .bool (decide ((k : Int) < ((l.length : Nat) : Int)))] .nil (by kernel_rfl) (fun b9 => ?_)
  refine thn_n ?_
  refine WP.seq ?_
  refine WP.test (p := (k : Int) < ((l.length : Nat) : Int)) rfl Bp.dec (fun h10 => ?_) (fun h10 => ?_)
  · refine WP.skip ?_
    refine thn_n ?_
    refine WP.seq ?_
    refine WP.block ?_
    refine WP.seq ?_
    refine WP.region _ rfl (by kernel_rfl) ?_
    have hy14 : (l)[k]? = some l[k]! := get_bang (by first | (omega) | (simp only [List.length_append, List.length_cons, List.length_nil]; omega))
    refine OPS.batch 3 {} [GCall.val (l[k]!)] [0, 8, 9, 10, 12, 14] [.pointer (some ⟨sb, 0, none⟩), .slice a l.length cp, .int .i64 ((l.length : Nat) : Int), .int .i64 (k : Int), .int .i64 (k : Int), GCall.val (l[k]!)] (.cons (show InB ((k : Int)) (l.length) from ⟨by omega, by omega⟩) (.cons ((hs.at hp5).some (by omega)) (.cons (Ld.add0 (Ld.elN (P := Try.prog) (t := 41) (hs.at hp5).rd 11 (fun _ => rfl) hy14 (o := 0) (cs := [.int .i64 (l[k]!.Client), .int .i64 (l[k]!.Op), .bool (l[k]!.Put), .string (l[k]!.Key), .slice (l[k]!.Value.a) (l[k]!.Value.n) (l[k]!.Value.c), .int .i64 (l[k]!.Status), .int .i64 (l[k]!.From), .int .i64 (l[k]!.To), .bool (l[k]!.Open), .int .i64 (l[k]!.Tag.Count), .int .i64 (l[k]!.Tag.Client)]) (by kernel_rfl))) .nil))) (by kernel_rfl) (fun b15 => ?_)
    refine OPS.cons (opStep.alloc hp5 [.int .i64 0, .int .i64 0, .bool false, .string ByteArray.empty, .slice none 0 0, .int .i64 0, .int .i64 0, .int .i64 0, .bool false, .int .i64 0, .int .i64 0] (by kernel_rfl) (fun g18 w16 hp17 => ?_))
    refine OPS.batch 1 {} [] [0, 3, 4, 8, 9, 10, 14] [.pointer (some ⟨sb, 0, none⟩), .int .i64 (k : Int), .pointer (some ⟨g18, 0, none⟩), .slice a l.length cp, .int .i64 ((l.length : Nat) : Int), .int .i64 (k : Int), GCall.val (l[k]!)] .nil (by kernel_rfl) (fun b19 => ?_)
    refine OPS.cons (opStep.store0 hp17 rfl [.int .i64 (l[k]!.Client), .int .i64 (l[k]!.Op), .bool (l[k]!.Put), .string (l[k]!.Key), .slice (l[k]!.Value.a) (l[k]!.Value.n) (l[k]!.Value.c), .int .i64 (l[k]!.Status), .int .i64 (l[k]!.From), .int .i64 (l[k]!.To), .bool (l[k]!.Open), .int .i64 (l[k]!.Tag.Count), .int .i64 (l[k]!.Tag.Client)] [.int .i64 (l[k]!.Client), .int .i64 (l[k]!.Op), .bool (l[k]!.Put), .string (l[k]!.Key), .slice (l[k]!.Value.a) (l[k]!.Value.n) (l[k]!.Value.c), .int .i64 (l[k]!.Status), .int .i64 (l[k]!.From), .int .i64 (l[k]!.To), .bool (l[k]!.Open), .int .i64 (l[k]!.Tag.Count), .int .i64 (l[k]!.Tag.Client)] (by kernel_rfl) (fun w20 hp21 => ?_))
    refine OPS.nil ?_
    refine thn_n ?_
    refine WP.cut (fun e39 w40 => ∃ (x37 : Bool), (True) ∧ Bp x37 ((mustC (l[k]!)) ∧ (¬ ((inn[k]!) = true))) ∧ List.map e39 [0, 8, 9, 10, 26] = [.pointer (some ⟨sb, 0, none⟩), .slice a l.length cp, .int .i64 ((l.length : Nat) : Int), .int .i64 (k : Int), .bool x37] ∧ Hp w0 Non (Res.row g18 [.int .i64 (l[k]!.Client), .int .i64 (l[k]!.Op), .bool (l[k]!.Put), .string (l[k]!.Key), .slice (l[k]!.Value.a) (l[k]!.Value.n) (l[k]!.Value.c), .int .i64 (l[k]!.Status), .int .i64 (l[k]!.From), .int .i64 (l[k]!.To), .bool (l[k]!.Open), .int .i64 (l[k]!.Tag.Count), .int .i64 (l[k]!.Tag.Client)] 41 :: Res.row sb [.slice a l.length cp, .slice ao no co, .slice ai ni ci] 114 :: Res.own 3 1 (.slice ao no co) no (List.flatMap (fun (y : Nat) => [Go.Value.int .i64 (y : Int)]) pre) :: Res.own 4 1 (.slice ai ni ci) ni (List.flatMap (fun (y : Bool) => [Go.Value.bool y]) inn) :: L) w40) ?_ ?_
    · refine WP.region _ rfl (by kernel_rfl) ?_
      refine OPS.batch 1 {} [GCall.val (l[k]!)] [0, 3, 8, 9, 10, 15] [.pointer (some ⟨sb, 0, none⟩), .int .i64 (k : Int), .slice a l.length cp, .int .i64 ((l.length : Nat) : Int), .int .i64 (k : Int), GCall.val (l[k]!)] (.cons (show Ld Try.prog w20 41 ⟨g18, 0, none⟩ (GCall.val (l[k]!)) from Ld.rowN (cs := [.int .i64 (l[k]!.Client), .int .i64 (l[k]!.Op), .bool (l[k]!.Put), .string (l[k]!.Key), .slice (l[k]!.Value.a) (l[k]!.Value.n) (l[k]!.Value.c), .int .i64 (l[k]!.Status), .int .i64 (l[k]!.From), .int .i64 (l[k]!.To), .bool (l[k]!.Open), .int .i64 (l[k]!.Tag.Count), .int .i64 (l[k]!.Tag.Client)]) hp21.get0 (by kernel_rfl)) .nil) (by kernel_rfl) (fun b23 => ?_)
      refine OPS.cons (opStep.call (some 16) [GCall.val (l[k]!)] (by kernel_rfl) (sherdref20_must (l[k]!) _) ?_)
      rintro _ w26 ⟨b29, rfl, hb30, hf27⟩
      refine ⟨_, rfl, ?_⟩
      have hp28 := hp21.step hf27
      refine OPS.batch 1 {} [] [0, 3, 8, 9, 10, 17] [.pointer (some ⟨sb, 0, none⟩), .int .i64 (k : Int), .slice a l.length cp, .int .i64 ((l.length : Nat) : Int), .int .i64 (k : Int), .bool b29] .nil (by kernel_rfl) (fun b31 => ?_)
      by_cases h32 : mustC (l[k]!)
      · rw [show b29 = true from hb30.tt h32]
        have := own_flat (sz := 1) (fun _ => rfl) (by decide) hp28.get3
        have hy34 : (inn)[k]? = some inn[k]! := get_bang (by first | (omega) | (simp only [List.length_append, List.length_cons, List.length_nil]; omega))
        refine OPS.batch 9 { wraps := [26] } [.slice ai ni ci, .bool (inn[k]!)] [0, 8, 9, 10, 26] [.pointer (some ⟨sb, 0, none⟩), .slice a l.length cp, .int .i64 ((l.length : Nat) : Int), .int .i64 (k : Int), .bool (!(inn[k]!))] (.cons (Ld.row1 (P := Try.prog) (t := 112) (o := 2) (v := .slice ai ni ci) hp28.get1 (by kernel_rfl)) (.cons (show InB ((k : Int)) (ni) from ⟨by omega, by omega⟩) (.cons ((SlR.own (hp28.get3)).some (by omega)) (.cons (Ld.add0 (Ld.el1 (P := Try.prog) (t := 4) (SlR.own (hp28.get3)).rd 1 (fun _ => rfl) hy34 (o := 0) (v := .bool (inn[k]!)) (by kernel_rfl))) .nil)))) (by kernel_rfl) (fun b35 => ?_)
        refine OPS.nil ?_
        refine thn_n ?_
        exact ⟨!(inn[k]!), trivial, Bp.of (Bp.not Bp.var) (by first | (simp only [h32, iff_false, false_iff, iff_true, true_iff, Classical.not_not, and_true, true_and, and_false, false_and, or_true, true_or, or_false, false_or, not_true_eq_false, not_false_eq_true, and_self, or_self, iff_self]; done) | (simp [h32]; done) | simp_all), by kernel_rfl, hp28⟩
      · rw [show b29 = false from hb30.ff h32]
        refine OPS.batch 9 { wraps := [26] } [] [0, 8, 9, 10, 26] [.pointer (some ⟨sb, 0, none⟩), .slice a l.length cp, .int .i64 ((l.length : Nat) : Int), .int .i64 (k : Int), .bool false] .nil (by kernel_rfl) (fun b36 => ?_)
        refine OPS.nil ?_
        refine thn_n ?_
        exact ⟨false, trivial, Bp.of Bp.f (by first | (simp only [h32, iff_false, false_iff, iff_true, true_iff, Classical.not_not, and_true, true_and, and_false, false_and, or_true, true_or, or_false, false_or, not_true_eq_false, not_false_eq_true, and_self, or_self, iff_self]; done) | (simp [h32]; done) | simp_all), by kernel_rfl, hp28⟩
    rintro e39 w40 ⟨x37, hd42, hb38, hE43, hp41⟩
    obtain ⟨b44, rfl⟩ := toMk hE43
    clear hE43
    clear hd42
    refine WP.test (p := (mustC (l[k]!)) ∧ (¬ ((inn[k]!) = true))) rfl hb38 (fun h45 => ?_) (fun h45 => ?_)
    · refine WP.seq ?_
      refine WP.pure {} [] [2] [.bool false] .nil (by kernel_rfl) (fun b46 => ?_)
      refine thn_n ?_
      refine WP.ret ?_
      refine blk_r ?_
      refine thn_r ?_
      refine thn_r ?_
      refine blk_r ?_
      refine thn_r ?_
      refine bodyQ.of _ rfl [.bool false] ⟨rfl, trivial⟩ ?_
      exact ⟨_, rfl, Bp.of Bp.f (by exact ⟨fun h => h.elim, fun h => h45.2 ((hi2 k (by omega)).2 (h k (by omega) h45.1))⟩), (hp41.sub (.cons _ (.cons_cons _ (.cons_cons _ (.cons_cons _ (.refl _))))))⟩
    · refine WP.skip ?_
      refine blk_n ?_
      refine thn_n ?_
      refine WP.pure {} [] [0, 8, 9, 10] [.pointer (some ⟨sb, 0, none⟩), .slice a l.length cp, .int .i64 ((l.length : Nat) : Int), .int .i64 ((k : Int) + 1)] (.cons (show Rng .i64 ((k : Int) + 1) from Rng.i64 (by omega)) .nil) (by kernel_rfl) (fun b47 => ?_)
      refine thn_n ?_
      exact ⟨l.length - (k + 1), (by omega), k + 1, rfl, ⟨by omega, fun i hi hm => by rcases Nat.lt_or_ge i k with q | q; exact h2 i q hm; (obtain rfl : i = k := by omega); exact (hi2 i (by omega)).1 (Classical.byContradiction fun hn => h45 ⟨hm, hn⟩)⟩, by kernel_rfl, (hp41.sub (.cons _ (.cons_cons _ (.cons_cons _ (.cons_cons _ (.refl _))))))⟩
  · refine WP.exit ?_
    refine thn_x ?_
    refine thn_x ?_
    refine blk_hit ?_
    refine thn_n ?_
    refine WP.seq ?_
    refine WP.pure {} [] [2] [.bool true] .nil (by kernel_rfl) (fun b48 => ?_)
    refine thn_n ?_
    refine WP.ret ?_
    refine bodyQ.of _ rfl [.bool true] ⟨rfl, trivial⟩ ?_
    exact ⟨_, rfl, Bp.of Bp.t (by exact ⟨fun _ => fun i hi hm => h2 i (by omega) hm, fun _ => trivial⟩), hp5⟩

theorem ref_last (w0 : World) (sb : Nat) (l : List GCall) (a : Option Addr) (cp : Nat) (ai : Option Addr) (ni ci : Nat) (hs : SlR w0 a l.length (l.flatMap GCall.cells)) (hv : ∀ x ∈ l, VB w0 x.Value) (hll : l.length ≤ 8796093022207) (L : List Res) (ao : Option Addr) (no co : Nat) (pre : List Nat) (inn : List Bool) (w : World) (hin : Ins l inn pre) (hnb : no ≤ l.length) (hp0 : Hp w0 Non (Res.row sb [.slice a l.length cp, .slice ao no co, .slice ai ni ci] 114 :: Res.own 3 1 (.slice ao no co) no (List.flatMap (fun (y : Nat) => [Go.Value.int .i64 (y : Int)]) pre) :: Res.own 4 1 (.slice ai ni ci) ni (List.flatMap (fun (y : Bool) => [Go.Value.bool y]) inn) :: L) w) :
    Calls Try.prog 130 #[.pointer (some ⟨sb, 0, none⟩)] w (fun x w' => x = .returned (.int .i64 (lastOf l pre)) ∧ Hp w0 Non (Res.row sb [.slice a l.length cp, .slice ao no co, .slice ai ni ci] 114 :: Res.own 3 1 (.slice ao no co) no (List.flatMap (fun (y : Nat) => [Go.Value.int .i64 (y : Int)]) pre) :: Res.own 4 1 (.slice ai ni ci) ni (List.flatMap (fun (y : Bool) => [Go.Value.bool y]) inn) :: L) w') := by
  obtain ⟨hi1, hi2, hi3⟩ := hin
  have hno := own_flat (sz := 1) (fun _ => rfl) (by decide) hp0.get1
  refine calls_of Try.func130 rfl 35 rfl (by simp) ?_
  have he0 : List.map (env0 [.pointer (some ⟨sb, 0, none⟩)]) [0] = [.pointer (some ⟨sb, 0, none⟩)] := by kernel_rfl
  obtain ⟨b0, he0⟩ := toMk he0
  rw [he0]
  clear he0
  refine WP.seq ?_
  refine WP.pure {} [] [0] [.pointer (some ⟨sb, 0, none⟩)] .nil (by kernel_rfl) (fun b1 => ?_)
  refine thn_n ?_
  refine WP.seq ?_
  refine WP.seq ?_
  refine WP.pure {} [.slice ao no co] [0, 3] [.pointer (some ⟨sb, 0, none⟩), .int .i64 (((no : Nat) : Int) - 1)] (.cons (Ld.row1 (P := Try.prog) (t := 36) (o := 1) (v := .slice ao no co) hp0.get0 (by kernel_rfl)) (.cons (show Rng .i64 (((no : Nat) : Int) - 1) from Rng.i64 (by omega)) .nil)) (by kernel_rfl) (fun b2 => ?_)
  refine thn_n ?_
  refine WP.block ?_
  refine WP.loop (fun mz_ e3 w4 => ∃ (z : Int), mz_ = (z + 1).toNat ∧ (-1 ≤ z ∧ z < (no : Int) ∧ ∀ j : Nat, z < (j : Int) → j < pre.length → ¬ l[pre[j]!]!.Put = true) ∧ List.map e3 [0, 3] = [.pointer (some ⟨sb, 0, none⟩), .int .i64 z] ∧ Hp w0 Non (Res.row sb [.slice a l.length cp, .slice ao no co, .slice ai ni ci] 114 :: Res.own 3 1 (.slice ao no co) no (List.flatMap (fun (y : Nat) => [Go.Value.int .i64 (y : Int)]) pre) :: Res.own 4 1 (.slice ai ni ci) ni (List.flatMap (fun (y : Bool) => [Go.Value.bool y]) inn) :: L) w4) (((((no : Nat) : Int) - 1) + 1).toNat) ⟨((no : Nat) : Int) - 1, rfl, ⟨by omega, by omega, fun j hj hk => by omega⟩, by kernel_rfl, hp0⟩ ?_
  rintro _ e3 w4 ⟨z, rfl, hI6, hE7, hp5⟩
  obtain ⟨b8, rfl⟩ := toMk hE7
  clear hE7
  obtain ⟨h1, h2, h3⟩ := hI6
  refine WP.seq ?_
  refine WP.seq ?_
  refine WP.pure {} [] [0, 3, 11] [.pointer (some ⟨sb, 0, none⟩), .int .i64 z, .bool (decide (0 ≤ z))] .nil (by kernel_rfl) (fun b9 => ?_)
  refine thn_n ?_
  refine WP.test (p := 0 ≤ z) rfl Bp.dec (fun h10 => ?_) (fun h10 => ?_)
  · refine WP.skip ?_
    refine thn_n ?_
    refine WP.seq ?_
    refine WP.block ?_
    refine WP.seq ?_
    have hp13 := hp5.drew
    refine WP.quiet (fun w11 => Hp w0 Non (Res.row sb [.slice a l.length cp, .slice ao no co, .slice ai ni ci] 114 :: Res.own 3 1 (.slice ao no co) no (List.flatMap (fun (y : Nat) => [Go.Value.int .i64 (y : Int)]) pre) :: Res.own 4 1 (.slice ai ni ci) ni (List.flatMap (fun (y : Bool) => [Go.Value.bool y]) inn) :: L) w11) (by kernel_rfl) hp13 ?_
    have hnehp13 : ∃ wz_, (fun w11 => Hp w0 Non (Res.row sb [.slice a l.length cp, .slice ao no co, .slice ai ni ci] 114 :: Res.own 3 1 (.slice ao no co) no (List.flatMap (fun (y : Nat) => [Go.Value.int .i64 (y : Int)]) pre) :: Res.own 4 1 (.slice ai ni ci) ni (List.flatMap (fun (y : Bool) => [Go.Value.bool y]) inn) :: L) w11) wz_ := ⟨_, hp13⟩
    have := own_flat (sz := 1) (fun _ => rfl) (by decide) hp13.get1
    have hy17 : (pre)[(z : Int).toNat]? = some pre[(z : Int).toNat]! := get_bang (by first | (omega) | (simp only [List.length_append, List.length_cons, List.length_nil]; omega))
    have hlhy17 := hi3 (pre[(z : Int).toNat]!) (List.mem_of_getElem? hy17)
    have hy19 : (l)[(pre[(z : Int).toNat]!)]? = some l[(pre[(z : Int).toNat]!)]! := get_bang (by first | (omega) | (simp only [List.length_append, List.length_cons, List.length_nil]; omega))
    refine QOPS.batch 14 {} [.slice a l.length cp, .slice ao no co, .int .i64 ((pre[(z : Int).toNat]! : Nat) : Int), .bool (l[(pre[(z : Int).toNat]!)]!.Put)] [0, 3, 27] [.pointer (some ⟨sb, 0, none⟩), .int .i64 z, .bool (l[(pre[(z : Int).toNat]!)]!.Put)] hnehp13 (fun w14 hp15 => QB.mk (.cons (Ld.row1 (P := Try.prog) (t := 35) (o := 0) (v := .slice a l.length cp) hp15.get0 (by kernel_rfl)) (.cons (Ld.row1 (P := Try.prog) (t := 36) (o := 1) (v := .slice ao no co) hp15.get0 (by kernel_rfl)) (.cons (show InB (z) (no) from ⟨by omega, by omega⟩) (.cons ((SlR.own (hp15.get1)).some (by omega)) (.cons (Ld.add0 (Ld.el1 (P := Try.prog) (t := 3) (SlR.own (hp15.get1)).rd 1 (fun _ => rfl) hy17 (o := 0) (v := .int .i64 ((pre[(z : Int).toNat]! : Nat) : Int)) (by kernel_rfl))) (.cons (show InB (((pre[(z : Int).toNat]! : Nat) : Int)) (l.length) from ⟨by omega, by omega⟩) (.cons ((hs.at hp15).some (by omega)) (.cons (Ld.el1 (P := Try.prog) (t := 4) (hs.at hp15).rd 11 (fun _ => rfl) hy19 (o := 2) (v := .bool (l[(pre[(z : Int).toNat]!)]!.Put)) (by kernel_rfl)) .nil)))))))) (by kernel_rfl)) (fun b20 => ?_)
    refine QOPS.nil (fun w21 hp22 => ?_)
    refine thn_n ?_
    refine WP.test (p := (l[(pre[(z : Int).toNat]!)]!.Put) = true) rfl Bp.var (fun h23 => ?_) (fun h23 => ?_)
    · refine WP.seq ?_
      refine WP.pure {} [.slice ao no co, .int .i64 ((pre[(z : Int).toNat]! : Nat) : Int)] [2] [.int .i64 ((pre[(z : Int).toNat]! : Nat) : Int)] (.cons (Ld.row1 (P := Try.prog) (t := 36) (o := 1) (v := .slice ao no co) hp22.get0 (by kernel_rfl)) (.cons (show InB (z) (no) from ⟨by omega, by omega⟩) (.cons ((SlR.own (hp22.get1)).some (by omega)) (.cons (Ld.add0 (Ld.el1 (P := Try.prog) (t := 3) (SlR.own (hp22.get1)).rd 1 (fun _ => rfl) hy17 (o := 0) (v := .int .i64 ((pre[(z : Int).toNat]! : Nat) : Int)) (by kernel_rfl))) .nil)))) (by kernel_rfl) (fun b24 => ?_)
      refine thn_n ?_
      refine WP.ret ?_
      refine blk_r ?_
      refine thn_r ?_
      refine thn_r ?_
      refine blk_r ?_
      refine thn_r ?_
      refine bodyQ.of _ rfl [.int .i64 ((pre[(z : Int).toNat]! : Nat) : Int)] ⟨rfl, trivial⟩ ?_
      exact ⟨by rw [lastOf_found (k := z.toNat) (by omega) h23 (fun j q1 q2 => h3 j (by omega) q2)]; rfl, hp22⟩
    · refine WP.skip ?_
      refine blk_n ?_
      refine thn_n ?_
      refine WP.pure {} [] [0, 3] [.pointer (some ⟨sb, 0, none⟩), .int .i64 (z - 1)] (.cons (show Rng .i64 (z - 1) from Rng.i64 (by omega)) .nil) (by kernel_rfl) (fun b25 => ?_)
      refine thn_n ?_
      exact ⟨((z - 1) + 1).toNat, (by omega), z - 1, rfl, ⟨by omega, by omega, fun j hj hk => by rcases Int.lt_or_le z (j : Int) with q | q; exact h3 j q hk; (obtain rfl : j = z.toNat := by omega); exact h23⟩, by kernel_rfl, hp22⟩
  · refine WP.exit ?_
    refine thn_x ?_
    refine thn_x ?_
    refine blk_hit ?_
    refine thn_n ?_
    refine WP.seq ?_
    refine WP.pure {} [] [2] [.int .i64 (-1)] .nil (by kernel_rfl) (fun b26 => ?_)
    refine thn_n ?_
    refine WP.ret ?_
    refine bodyQ.of _ rfl [.int .i64 (-1)] ⟨rfl, trivial⟩ ?_
    exact ⟨by rw [lastOf_none (fun j hj => h3 j (by omega) hj)]; rfl, hp5⟩

theorem ref_next (w0 : World) (sb : Nat) (l : List GCall) (a : Option Addr) (cp : Nat) (ai : Option Addr) (ni ci : Nat) (hs : SlR w0 a l.length (l.flatMap GCall.cells)) (hv : ∀ x ∈ l, VB w0 x.Value) (hll : l.length ≤ 8796093022207) (L : List Res) (ao : Option Addr) (no co : Nat) (pre : List Nat) (inn : List Bool) (w : World) (hin : Ins l inn pre) (hnb : no ≤ l.length) (hp0 : Hp w0 Non (Res.row sb [.slice a l.length cp, .slice ao no co, .slice ai ni ci] 114 :: Res.own 3 1 (.slice ao no co) no (List.flatMap (fun (y : Nat) => [Go.Value.int .i64 (y : Int)]) pre) :: Res.own 4 1 (.slice ai ni ci) ni (List.flatMap (fun (y : Bool) => [Go.Value.bool y]) inn) :: L) w) (i : Nat) (hil : i < l.length) :
    Calls Try.prog 116 #[.pointer (some ⟨sb, 0, none⟩), .int .i64 (i : Int)] w (fun x w' => ∃ b, x = .returned (.bool b) ∧ Bp b (mayA (valAt w0) l pre i) ∧ Hp w0 Non (Res.row sb [.slice a l.length cp, .slice ao no co, .slice ai ni ci] 114 :: Res.own 3 1 (.slice ao no co) no (List.flatMap (fun (y : Nat) => [Go.Value.int .i64 (y : Int)]) pre) :: Res.own 4 1 (.slice ai ni ci) ni (List.flatMap (fun (y : Bool) => [Go.Value.bool y]) inn) :: L) w') := by
  have hin0 := hin
  obtain ⟨hi1, hi2, hi3⟩ := hin0
  have hla := lastOf_lt (l := l) hi3
  refine calls_of Try.func116 rfl 87 rfl (by simp) ?_
  have he0 : List.map (env0 [.pointer (some ⟨sb, 0, none⟩), .int .i64 (i : Int)]) [0, 1] = [.pointer (some ⟨sb, 0, none⟩), .int .i64 (i : Int)] := by kernel_rfl
  obtain ⟨b0, he0⟩ := toMk he0
  rw [he0]
  clear he0
  refine WP.seq ?_
  refine WP.pure {} [] [0, 1] [.pointer (some ⟨sb, 0, none⟩), .int .i64 (i : Int)] .nil (by kernel_rfl) (fun b1 => ?_)
  refine thn_n ?_
  refine WP.seq ?_
  refine WP.region _ rfl (by kernel_rfl) ?_
  have hy5 : (l)[i]? = some l[i]! := get_bang (by first | (omega) | (simp only [List.length_append, List.length_cons, List.length_nil]; omega))
  refine OPS.batch 7 {} [.slice a l.length cp, GCall.val (l[i]!)] [0, 1, 15] [.pointer (some ⟨sb, 0, none⟩), .int .i64 (i : Int), GCall.val (l[i]!)] (.cons (Ld.row1 (P := Try.prog) (t := 35) (o := 0) (v := .slice a l.length cp) hp0.get0 (by kernel_rfl)) (.cons (show InB ((i : Int)) (l.length) from ⟨by omega, by omega⟩) (.cons ((hs.at hp0).some (by omega)) (.cons (Ld.add0 (Ld.elN (P := Try.prog) (t := 41) (hs.at hp0).rd 11 (fun _ => rfl) hy5 (o := 0) (cs := [.int .i64 (l[i]!.Client), .int .i64 (l[i]!.Op), .bool (l[i]!.Put), .string (l[i]!.Key), .slice (l[i]!.Value.a) (l[i]!.Value.n) (l[i]!.Value.c), .int .i64 (l[i]!.Status), .int .i64 (l[i]!.From), .int .i64 (l[i]!.To), .bool (l[i]!.Open), .int .i64 (l[i]!.Tag.Count), .int .i64 (l[i]!.Tag.Client)]) (by kernel_rfl))) .nil)))) (by kernel_rfl) (fun b6 => ?_)
  refine OPS.cons (opStep.alloc hp0 [.int .i64 0, .int .i64 0, .bool false, .string ByteArray.empty, .slice none 0 0, .int .i64 0, .int .i64 0, .int .i64 0, .bool false, .int .i64 0, .int .i64 0] (by kernel_rfl) (fun g9 w7 hp8 => ?_))
  refine OPS.cons (opStep.store0 hp8 rfl [.int .i64 (l[i]!.Client), .int .i64 (l[i]!.Op), .bool (l[i]!.Put), .string (l[i]!.Key), .slice (l[i]!.Value.a) (l[i]!.Value.n) (l[i]!.Value.c), .int .i64 (l[i]!.Status), .int .i64 (l[i]!.From), .int .i64 (l[i]!.To), .bool (l[i]!.Open), .int .i64 (l[i]!.Tag.Count), .int .i64 (l[i]!.Tag.Client)] [.int .i64 (l[i]!.Client), .int .i64 (l[i]!.Op), .bool (l[i]!.Put), .string (l[i]!.Key), .slice (l[i]!.Value.a) (l[i]!.Value.n) (l[i]!.Value.c), .int .i64 (l[i]!.Status), .int .i64 (l[i]!.From), .int .i64 (l[i]!.To), .bool (l[i]!.Open), .int .i64 (l[i]!.Tag.Count), .int .i64 (l[i]!.Tag.Client)] (by kernel_rfl) (fun w10 hp11 => ?_))
  refine OPS.nil ?_
  refine thn_n ?_
  refine WP.seq ?_
  refine WP.cut (fun e33 w34 => ∃ (x31 : Bool), (True) ∧ Bp x31 ((((inn[i]!) = true)) ∨ ((¬ ((inn[i]!) = true)) ∧ (¬ (partC (l[i]!))))) ∧ List.map e33 [0, 1, 5, 27] = [.pointer (some ⟨sb, 0, none⟩), .int .i64 (i : Int), .pointer (some ⟨g9, 0, none⟩), .bool x31] ∧ Hp w0 Non (Res.row g9 [.int .i64 (l[i]!.Client), .int .i64 (l[i]!.Op), .bool (l[i]!.Put), .string (l[i]!.Key), .slice (l[i]!.Value.a) (l[i]!.Value.n) (l[i]!.Value.c), .int .i64 (l[i]!.Status), .int .i64 (l[i]!.From), .int .i64 (l[i]!.To), .bool (l[i]!.Open), .int .i64 (l[i]!.Tag.Count), .int .i64 (l[i]!.Tag.Client)] 41 :: Res.row sb [.slice a l.length cp, .slice ao no co, .slice ai ni ci] 114 :: Res.own 3 1 (.slice ao no co) no (List.flatMap (fun (y : Nat) => [Go.Value.int .i64 (y : Int)]) pre) :: Res.own 4 1 (.slice ai ni ci) ni (List.flatMap (fun (y : Bool) => [Go.Value.bool y]) inn) :: L) w34) ?_ ?_
  · refine WP.region _ rfl (by kernel_rfl) ?_
    have := own_flat (sz := 1) (fun _ => rfl) (by decide) hp11.get3
    have hy16 : (inn)[i]? = some inn[i]! := get_bang (by first | (omega) | (simp only [List.length_append, List.length_cons, List.length_nil]; omega))
    refine OPS.batch 8 {} [.slice ai ni ci, .bool (inn[i]!)] [0, 1, 5, 23] [.pointer (some ⟨sb, 0, none⟩), .int .i64 (i : Int), .pointer (some ⟨g9, 0, none⟩), .bool (inn[i]!)] (.cons (Ld.row1 (P := Try.prog) (t := 112) (o := 2) (v := .slice ai ni ci) hp11.get1 (by kernel_rfl)) (.cons (show InB ((i : Int)) (ni) from ⟨by omega, by omega⟩) (.cons ((SlR.own (hp11.get3)).some (by omega)) (.cons (Ld.add0 (Ld.el1 (P := Try.prog) (t := 4) (SlR.own (hp11.get3)).rd 1 (fun _ => rfl) hy16 (o := 0) (v := .bool (inn[i]!)) (by kernel_rfl))) .nil)))) (by kernel_rfl) (fun b17 => ?_)
    by_cases h18 : (inn[i]!) = true
    · refine OPS.batch 0 {} [] [0, 1, 5, 23] [.pointer (some ⟨sb, 0, none⟩), .int .i64 (i : Int), .pointer (some ⟨g9, 0, none⟩), .bool (inn[i]!)] .nil (by kernel_rfl) (fun b19 => ?_)
      refine OPS.re [.pointer (some ⟨sb, 0, none⟩), .int .i64 (i : Int), .pointer (some ⟨g9, 0, none⟩), .bool true] (by rw [show (inn[i]!) = true from Bp.var.tt h18]) ?_
      refine OPS.batch 4 { wraps := [27] } [] [0, 1, 5, 27] [.pointer (some ⟨sb, 0, none⟩), .int .i64 (i : Int), .pointer (some ⟨g9, 0, none⟩), .bool true] .nil (by kernel_rfl) (fun b20 => ?_)
      refine OPS.nil ?_
      refine thn_n ?_
      exact ⟨true, trivial, Bp.of Bp.t (by first | (simp only [h18, iff_false, false_iff, iff_true, true_iff, Classical.not_not, and_true, true_and, and_false, false_and, or_true, true_or, or_false, false_or, not_true_eq_false, not_false_eq_true, and_self, or_self, iff_self]; done) | (simp [h18]; done) | simp_all), by kernel_rfl, hp11⟩
    · refine OPS.batch 0 {} [] [0, 1, 5, 23] [.pointer (some ⟨sb, 0, none⟩), .int .i64 (i : Int), .pointer (some ⟨g9, 0, none⟩), .bool (inn[i]!)] .nil (by kernel_rfl) (fun b21 => ?_)
      refine OPS.re [.pointer (some ⟨sb, 0, none⟩), .int .i64 (i : Int), .pointer (some ⟨g9, 0, none⟩), .bool false] (by rw [show (inn[i]!) = false from Bp.var.ff h18]) ?_
      refine OPS.batch 1 {} [GCall.val (l[i]!)] [0, 1, 5, 23, 24] [.pointer (some ⟨sb, 0, none⟩), .int .i64 (i : Int), .pointer (some ⟨g9, 0, none⟩), .bool false, GCall.val (l[i]!)] (.cons (show Ld Try.prog w10 41 ⟨g9, 0, none⟩ (GCall.val (l[i]!)) from Ld.rowN (cs := [.int .i64 (l[i]!.Client), .int .i64 (l[i]!.Op), .bool (l[i]!.Put), .string (l[i]!.Key), .slice (l[i]!.Value.a) (l[i]!.Value.n) (l[i]!.Value.c), .int .i64 (l[i]!.Status), .int .i64 (l[i]!.From), .int .i64 (l[i]!.To), .bool (l[i]!.Open), .int .i64 (l[i]!.Tag.Count), .int .i64 (l[i]!.Tag.Client)]) hp11.get0 (by kernel_rfl)) .nil) (by kernel_rfl) (fun b22 => ?_)
      refine OPS.want (by kernel_rfl) ?_
      refine OPS.cons (opStep.call (some 25) [GCall.val (l[i]!)] (by kernel_rfl) (sherdref20_part (l[i]!) _) ?_)
      rintro _ w25 ⟨b28, rfl, hb29, hf26⟩
      refine ⟨_, rfl, ?_⟩
      have hp27 := hp11.step hf26
      refine OPS.batch 2 { wraps := [27] } [] [0, 1, 5, 27] [.pointer (some ⟨sb, 0, none⟩), .int .i64 (i : Int), .pointer (some ⟨g9, 0, none⟩), .bool (!b28)] .nil (by kernel_rfl) (fun b30 => ?_)
      refine OPS.nil ?_
      refine thn_n ?_
      exact ⟨!b28, trivial, Bp.of (Bp.not hb29) (by first | (simp only [h18, iff_false, false_iff, iff_true, true_iff, Classical.not_not, and_true, true_and, and_false, false_and, or_true, true_or, or_false, false_or, not_true_eq_false, not_false_eq_true, and_self, or_self, iff_self]; done) | (simp [h18]; done) | simp_all), by kernel_rfl, hp27⟩
  rintro e33 w34 ⟨x31, hd36, hb32, hE37, hp35⟩
  obtain ⟨b38, rfl⟩ := toMk hE37
  clear hE37
  clear hd36
  refine WP.test (p := (((inn[i]!) = true)) ∨ ((¬ ((inn[i]!) = true)) ∧ (¬ (partC (l[i]!))))) rfl hb32 (fun h39 => ?_) (fun h39 => ?_)
  · refine WP.seq ?_
    refine WP.pure {} [] [4] [.bool false] .nil (by kernel_rfl) (fun b40 => ?_)
    refine thn_n ?_
    refine WP.ret ?_
    refine thn_r ?_
    refine bodyQ.of _ rfl [.bool false] ⟨rfl, trivial⟩ ?_
    exact ⟨_, rfl, Bp.of Bp.f (by exact ⟨fun h => h.elim, fun h => may_not hin hil (by rcases h39 with q | q; exact .inl q; exact .inr q.2) h⟩), (hp35.sub (.cons _ (.cons_cons _ (.cons_cons _ (.cons_cons _ (.refl _))))))⟩
  · refine WP.skip ?_
    refine thn_n ?_
    refine WP.seq ?_
    refine WP.seq ?_
    refine WP.pure {} [.slice a l.length cp] [0, 1, 5, 31, 32, 33] [.pointer (some ⟨sb, 0, none⟩), .int .i64 (i : Int), .pointer (some ⟨g9, 0, none⟩), .slice a l.length cp, .int .i64 ((l.length : Nat) : Int), .int .i64 0] (.cons (Ld.row1 (P := Try.prog) (t := 35) (o := 0) (v := .slice a l.length cp) hp35.get1 (by kernel_rfl)) .nil) (by kernel_rfl) (fun b41 => ?_)
    refine thn_n ?_
    refine WP.block ?_
    refine WP.loop (fun mz_ e42 w43 => ∃ (k : Nat), mz_ = l.length - k ∧ (k ≤ l.length ∧ ∀ j, j < k → ¬ (¬ inn[j]! = true ∧ ¬ j = i ∧ partC l[j]! ∧ aheadC l[j]! l[i]!)) ∧ List.map e42 [0, 1, 5, 31, 32, 33] = [.pointer (some ⟨sb, 0, none⟩), .int .i64 (i : Int), .pointer (some ⟨g9, 0, none⟩), .slice a l.length cp, .int .i64 ((l.length : Nat) : Int), .int .i64 (k : Int)] ∧ Hp w0 Non (Res.row g9 [.int .i64 (l[i]!.Client), .int .i64 (l[i]!.Op), .bool (l[i]!.Put), .string (l[i]!.Key), .slice (l[i]!.Value.a) (l[i]!.Value.n) (l[i]!.Value.c), .int .i64 (l[i]!.Status), .int .i64 (l[i]!.From), .int .i64 (l[i]!.To), .bool (l[i]!.Open), .int .i64 (l[i]!.Tag.Count), .int .i64 (l[i]!.Tag.Client)] 41 :: Res.row sb [.slice a l.length cp, .slice ao no co, .slice ai ni ci] 114 :: Res.own 3 1 (.slice ao no co) no (List.flatMap (fun (y : Nat) => [Go.Value.int .i64 (y : Int)]) pre) :: Res.own 4 1 (.slice ai ni ci) ni (List.flatMap (fun (y : Bool) => [Go.Value.bool y]) inn) :: L) w43) (l.length - (0)) ⟨0, rfl, ⟨by omega, fun j hj => by omega⟩, by kernel_rfl, hp35⟩ ?_
    rintro _ e42 w43 ⟨k, rfl, hI45, hE46, hp44⟩
    obtain ⟨b47, rfl⟩ := toMk hE46
    clear hE46
    obtain ⟨h1, h2⟩ := hI45
    refine WP.seq ?_
    refine WP.pure {} [] [0, 1, 5, 31, 32, 33, 34] [.pointer (some ⟨sb, 0, none⟩), .int .i64 (i : Int), .pointer (some ⟨g9, 0, none⟩), .slice a l.length cp, .int .i64 ((l.length : Nat) : Int), .int .i64 (k : Int), .bool (decide ((k : Int) < ((l.length : Nat) : Int)))] .nil (by kernel_rfl) (fun b48 => ?_)
    refine thn_n ?_
    refine WP.seq ?_
    refine WP.test (p := (k : Int) < ((l.length : Nat) : Int)) rfl Bp.dec (fun h49 => ?_) (fun h49 => ?_)
    · refine WP.skip ?_
      refine thn_n ?_
      refine WP.seq ?_
      refine WP.block ?_
      refine WP.seq ?_
      refine WP.region _ rfl (by kernel_rfl) ?_
      have hy53 : (l)[k]? = some l[k]! := get_bang (by first | (omega) | (simp only [List.length_append, List.length_cons, List.length_nil]; omega))
      refine OPS.batch 3 {} [GCall.val (l[k]!)] [0, 1, 5, 31, 32, 33, 35, 37] [.pointer (some ⟨sb, 0, none⟩), .int .i64 (i : Int), .pointer (some ⟨g9, 0, none⟩), .slice a l.length cp, .int .i64 ((l.length : Nat) : Int), .int .i64 (k : Int), .int .i64 (k : Int), GCall.val (l[k]!)] (.cons (show InB ((k : Int)) (l.length) from ⟨by omega, by omega⟩) (.cons ((hs.at hp44).some (by omega)) (.cons (Ld.add0 (Ld.elN (P := Try.prog) (t := 41) (hs.at hp44).rd 11 (fun _ => rfl) hy53 (o := 0) (cs := [.int .i64 (l[k]!.Client), .int .i64 (l[k]!.Op), .bool (l[k]!.Put), .string (l[k]!.Key), .slice (l[k]!.Value.a) (l[k]!.Value.n) (l[k]!.Value.c), .int .i64 (l[k]!.Status), .int .i64 (l[k]!.From), .int .i64 (l[k]!.To), .bool (l[k]!.Open), .int .i64 (l[k]!.Tag.Count), .int .i64 (l[k]!.Tag.Client)]) (by kernel_rfl))) .nil))) (by kernel_rfl) (fun b54 => ?_)
      refine OPS.cons (opStep.alloc hp44 [.int .i64 0, .int .i64 0, .bool false, .string ByteArray.empty, .slice none 0 0, .int .i64 0, .int .i64 0, .int .i64 0, .bool false, .int .i64 0, .int .i64 0] (by kernel_rfl) (fun g57 w55 hp56 => ?_))
      refine OPS.batch 1 {} [] [0, 1, 5, 6, 7, 31, 32, 33, 37] [.pointer (some ⟨sb, 0, none⟩), .int .i64 (i : Int), .pointer (some ⟨g9, 0, none⟩), .int .i64 (k : Int), .pointer (some ⟨g57, 0, none⟩), .slice a l.length cp, .int .i64 ((l.length : Nat) : Int), .int .i64 (k : Int), GCall.val (l[k]!)] .nil (by kernel_rfl) (fun b58 => ?_)
      refine OPS.cons (opStep.store0 hp56 rfl [.int .i64 (l[k]!.Client), .int .i64 (l[k]!.Op), .bool (l[k]!.Put), .string (l[k]!.Key), .slice (l[k]!.Value.a) (l[k]!.Value.n) (l[k]!.Value.c), .int .i64 (l[k]!.Status), .int .i64 (l[k]!.From), .int .i64 (l[k]!.To), .bool (l[k]!.Open), .int .i64 (l[k]!.Tag.Count), .int .i64 (l[k]!.Tag.Client)] [.int .i64 (l[k]!.Client), .int .i64 (l[k]!.Op), .bool (l[k]!.Put), .string (l[k]!.Key), .slice (l[k]!.Value.a) (l[k]!.Value.n) (l[k]!.Value.c), .int .i64 (l[k]!.Status), .int .i64 (l[k]!.From), .int .i64 (l[k]!.To), .bool (l[k]!.Open), .int .i64 (l[k]!.Tag.Count), .int .i64 (l[k]!.Tag.Client)] (by kernel_rfl) (fun w59 hp60 => ?_))
      refine OPS.nil ?_
      refine thn_n ?_
      refine WP.cut (fun e98 w99 => ∃ (x96 : Bool), (True) ∧ Bp x96 ((¬ ((inn[k]!) = true)) ∧ (¬ ((k : Int) = (i : Int))) ∧ (partC (l[k]!)) ∧ (aheadC (l[k]!) (l[i]!))) ∧ List.map e98 [0, 1, 5, 31, 32, 33, 59] = [.pointer (some ⟨sb, 0, none⟩), .int .i64 (i : Int), .pointer (some ⟨g9, 0, none⟩), .slice a l.length cp, .int .i64 ((l.length : Nat) : Int), .int .i64 (k : Int), .bool x96] ∧ Hp w0 Non (Res.row g57 [.int .i64 (l[k]!.Client), .int .i64 (l[k]!.Op), .bool (l[k]!.Put), .string (l[k]!.Key), .slice (l[k]!.Value.a) (l[k]!.Value.n) (l[k]!.Value.c), .int .i64 (l[k]!.Status), .int .i64 (l[k]!.From), .int .i64 (l[k]!.To), .bool (l[k]!.Open), .int .i64 (l[k]!.Tag.Count), .int .i64 (l[k]!.Tag.Client)] 41 :: Res.row g9 [.int .i64 (l[i]!.Client), .int .i64 (l[i]!.Op), .bool (l[i]!.Put), .string (l[i]!.Key), .slice (l[i]!.Value.a) (l[i]!.Value.n) (l[i]!.Value.c), .int .i64 (l[i]!.Status), .int .i64 (l[i]!.From), .int .i64 (l[i]!.To), .bool (l[i]!.Open), .int .i64 (l[i]!.Tag.Count), .int .i64 (l[i]!.Tag.Client)] 41 :: Res.row sb [.slice a l.length cp, .slice ao no co, .slice ai ni ci] 114 :: Res.own 3 1 (.slice ao no co) no (List.flatMap (fun (y : Nat) => [Go.Value.int .i64 (y : Int)]) pre) :: Res.own 4 1 (.slice ai ni ci) ni (List.flatMap (fun (y : Bool) => [Go.Value.bool y]) inn) :: L) w99) ?_ ?_
      · refine WP.region _ rfl (by kernel_rfl) ?_
        have := own_flat (sz := 1) (fun _ => rfl) (by decide) hp60.get4
        have hy65 : (inn)[k]? = some inn[k]! := get_bang (by first | (omega) | (simp only [List.length_append, List.length_cons, List.length_nil]; omega))
        refine OPS.batch 9 {} [.slice ai ni ci, .bool (inn[k]!)] [0, 1, 5, 6, 7, 31, 32, 33, 46] [.pointer (some ⟨sb, 0, none⟩), .int .i64 (i : Int), .pointer (some ⟨g9, 0, none⟩), .int .i64 (k : Int), .pointer (some ⟨g57, 0, none⟩), .slice a l.length cp, .int .i64 ((l.length : Nat) : Int), .int .i64 (k : Int), .bool (!(inn[k]!))] (.cons (Ld.row1 (P := Try.prog) (t := 112) (o := 2) (v := .slice ai ni ci) hp60.get2 (by kernel_rfl)) (.cons (show InB ((k : Int)) (ni) from ⟨by omega, by omega⟩) (.cons ((SlR.own (hp60.get4)).some (by omega)) (.cons (Ld.add0 (Ld.el1 (P := Try.prog) (t := 4) (SlR.own (hp60.get4)).rd 1 (fun _ => rfl) hy65 (o := 0) (v := .bool (inn[k]!)) (by kernel_rfl))) .nil)))) (by kernel_rfl) (fun b66 => ?_)
        by_cases h67 : (inn[k]!) = true
        · refine OPS.batch 0 {} [] [0, 1, 5, 6, 7, 31, 32, 33, 46] [.pointer (some ⟨sb, 0, none⟩), .int .i64 (i : Int), .pointer (some ⟨g9, 0, none⟩), .int .i64 (k : Int), .pointer (some ⟨g57, 0, none⟩), .slice a l.length cp, .int .i64 ((l.length : Nat) : Int), .int .i64 (k : Int), .bool (!(inn[k]!))] .nil (by kernel_rfl) (fun b94 => ?_)
          refine OPS.re [.pointer (some ⟨sb, 0, none⟩), .int .i64 (i : Int), .pointer (some ⟨g9, 0, none⟩), .int .i64 (k : Int), .pointer (some ⟨g57, 0, none⟩), .slice a l.length cp, .int .i64 ((l.length : Nat) : Int), .int .i64 (k : Int), .bool false] (by rw [show (!(inn[k]!)) = false from (Bp.not Bp.var).ff (fun k => k h67)]) ?_
          refine OPS.batch 13 { wraps := [50, 54, 59] } [] [0, 1, 5, 31, 32, 33, 59] [.pointer (some ⟨sb, 0, none⟩), .int .i64 (i : Int), .pointer (some ⟨g9, 0, none⟩), .slice a l.length cp, .int .i64 ((l.length : Nat) : Int), .int .i64 (k : Int), .bool false] .nil (by kernel_rfl) (fun b95 => ?_)
          refine OPS.nil ?_
          refine thn_n ?_
          exact ⟨false, trivial, Bp.of Bp.f (by first | (simp only [h67, iff_false, false_iff, iff_true, true_iff, Classical.not_not, and_true, true_and, and_false, false_and, or_true, true_or, or_false, false_or, not_true_eq_false, not_false_eq_true, and_self, or_self, iff_self]; done) | (simp [h67]; done) | simp_all), by kernel_rfl, hp60⟩
        · refine OPS.batch 0 {} [] [0, 1, 5, 6, 7, 31, 32, 33, 46] [.pointer (some ⟨sb, 0, none⟩), .int .i64 (i : Int), .pointer (some ⟨g9, 0, none⟩), .int .i64 (k : Int), .pointer (some ⟨g57, 0, none⟩), .slice a l.length cp, .int .i64 ((l.length : Nat) : Int), .int .i64 (k : Int), .bool (!(inn[k]!))] .nil (by kernel_rfl) (fun b68 => ?_)
          refine OPS.re [.pointer (some ⟨sb, 0, none⟩), .int .i64 (i : Int), .pointer (some ⟨g9, 0, none⟩), .int .i64 (k : Int), .pointer (some ⟨g57, 0, none⟩), .slice a l.length cp, .int .i64 ((l.length : Nat) : Int), .int .i64 (k : Int), .bool true] (by rw [show (!(inn[k]!)) = true from (Bp.not Bp.var).tt h67]) ?_
          refine OPS.batch 5 { wraps := [50] } [] [0, 1, 5, 7, 31, 32, 33, 51] [.pointer (some ⟨sb, 0, none⟩), .int .i64 (i : Int), .pointer (some ⟨g9, 0, none⟩), .pointer (some ⟨g57, 0, none⟩), .slice a l.length cp, .int .i64 ((l.length : Nat) : Int), .int .i64 (k : Int), .bool (decide (¬ ((k : Int) = (i : Int))))] .nil (by kernel_rfl) (fun b69 => ?_)
          by_cases h70 : (k : Int) = (i : Int)
          · refine OPS.batch 0 {} [] [0, 1, 5, 7, 31, 32, 33, 51] [.pointer (some ⟨sb, 0, none⟩), .int .i64 (i : Int), .pointer (some ⟨g9, 0, none⟩), .pointer (some ⟨g57, 0, none⟩), .slice a l.length cp, .int .i64 ((l.length : Nat) : Int), .int .i64 (k : Int), .bool (decide (¬ ((k : Int) = (i : Int))))] .nil (by kernel_rfl) (fun b92 => ?_)
            refine OPS.re [.pointer (some ⟨sb, 0, none⟩), .int .i64 (i : Int), .pointer (some ⟨g9, 0, none⟩), .pointer (some ⟨g57, 0, none⟩), .slice a l.length cp, .int .i64 ((l.length : Nat) : Int), .int .i64 (k : Int), .bool false] (by rw [show (decide (¬ ((k : Int) = (i : Int)))) = false from Bp.dec.ff (fun k => k h70)]) ?_
            refine OPS.batch 8 { wraps := [54, 59] } [] [0, 1, 5, 31, 32, 33, 59] [.pointer (some ⟨sb, 0, none⟩), .int .i64 (i : Int), .pointer (some ⟨g9, 0, none⟩), .slice a l.length cp, .int .i64 ((l.length : Nat) : Int), .int .i64 (k : Int), .bool false] .nil (by kernel_rfl) (fun b93 => ?_)
            refine OPS.nil ?_
            refine thn_n ?_
            exact ⟨false, trivial, Bp.of Bp.f (by first | (simp only [h67, h70, iff_false, false_iff, iff_true, true_iff, Classical.not_not, and_true, true_and, and_false, false_and, or_true, true_or, or_false, false_or, not_true_eq_false, not_false_eq_true, and_self, or_self, iff_self]; done) | (simp [h67, h70]; done) | simp_all), by kernel_rfl, hp60⟩
          · refine OPS.batch 0 {} [] [0, 1, 5, 7, 31, 32, 33, 51] [.pointer (some ⟨sb, 0, none⟩), .int .i64 (i : Int), .pointer (some ⟨g9, 0, none⟩), .pointer (some ⟨g57, 0, none⟩), .slice a l.length cp, .int .i64 ((l.length : Nat) : Int), .int .i64 (k : Int), .bool (decide (¬ ((k : Int) = (i : Int))))] .nil (by kernel_rfl) (fun b71 => ?_)
            refine OPS.re [.pointer (some ⟨sb, 0, none⟩), .int .i64 (i : Int), .pointer (some ⟨g9, 0, none⟩), .pointer (some ⟨g57, 0, none⟩), .slice a l.length cp, .int .i64 ((l.length : Nat) : Int), .int .i64 (k : Int), .bool true] (by rw [show (decide (¬ ((k : Int) = (i : Int)))) = true from Bp.dec.tt h70]) ?_
            refine OPS.batch 1 {} [GCall.val (l[k]!)] [0, 1, 5, 7, 31, 32, 33, 51, 52] [.pointer (some ⟨sb, 0, none⟩), .int .i64 (i : Int), .pointer (some ⟨g9, 0, none⟩), .pointer (some ⟨g57, 0, none⟩), .slice a l.length cp, .int .i64 ((l.length : Nat) : Int), .int .i64 (k : Int), .bool true, GCall.val (l[k]!)] (.cons (show Ld Try.prog w59 41 ⟨g57, 0, none⟩ (GCall.val (l[k]!)) from Ld.rowN (cs := [.int .i64 (l[k]!.Client), .int .i64 (l[k]!.Op), .bool (l[k]!.Put), .string (l[k]!.Key), .slice (l[k]!.Value.a) (l[k]!.Value.n) (l[k]!.Value.c), .int .i64 (l[k]!.Status), .int .i64 (l[k]!.From), .int .i64 (l[k]!.To), .bool (l[k]!.Open), .int .i64 (l[k]!.Tag.Count), .int .i64 (l[k]!.Tag.Client)]) hp60.get0 (by kernel_rfl)) .nil) (by kernel_rfl) (fun b72 => ?_)
            refine OPS.want (by kernel_rfl) ?_
            refine OPS.cons (opStep.call (some 53) [GCall.val (l[k]!)] (by kernel_rfl) (sherdref20_part (l[k]!) _) ?_)
            rintro _ w75 ⟨b78, rfl, hb79, hf76⟩
            refine ⟨_, rfl, ?_⟩
            have hp77 := hp60.step hf76
            refine OPS.batch 2 { wraps := [54] } [] [0, 1, 5, 7, 31, 32, 33, 55] [.pointer (some ⟨sb, 0, none⟩), .int .i64 (i : Int), .pointer (some ⟨g9, 0, none⟩), .pointer (some ⟨g57, 0, none⟩), .slice a l.length cp, .int .i64 ((l.length : Nat) : Int), .int .i64 (k : Int), .bool b78] .nil (by kernel_rfl) (fun b80 => ?_)
            by_cases h81 : partC (l[k]!)
            · rw [show b78 = true from hb79.tt h81]
              refine OPS.batch 2 {} [GCall.val (l[k]!), GCall.val (l[i]!)] [0, 1, 5, 31, 32, 33, 55, 56, 57] [.pointer (some ⟨sb, 0, none⟩), .int .i64 (i : Int), .pointer (some ⟨g9, 0, none⟩), .slice a l.length cp, .int .i64 ((l.length : Nat) : Int), .int .i64 (k : Int), .bool true, GCall.val (l[k]!), GCall.val (l[i]!)] (.cons (show Ld Try.prog w75 41 ⟨g57, 0, none⟩ (GCall.val (l[k]!)) from Ld.rowN (cs := [.int .i64 (l[k]!.Client), .int .i64 (l[k]!.Op), .bool (l[k]!.Put), .string (l[k]!.Key), .slice (l[k]!.Value.a) (l[k]!.Value.n) (l[k]!.Value.c), .int .i64 (l[k]!.Status), .int .i64 (l[k]!.From), .int .i64 (l[k]!.To), .bool (l[k]!.Open), .int .i64 (l[k]!.Tag.Count), .int .i64 (l[k]!.Tag.Client)]) hp77.get0 (by kernel_rfl)) (.cons (show Ld Try.prog w75 41 ⟨g9, 0, none⟩ (GCall.val (l[i]!)) from Ld.rowN (cs := [.int .i64 (l[i]!.Client), .int .i64 (l[i]!.Op), .bool (l[i]!.Put), .string (l[i]!.Key), .slice (l[i]!.Value.a) (l[i]!.Value.n) (l[i]!.Value.c), .int .i64 (l[i]!.Status), .int .i64 (l[i]!.From), .int .i64 (l[i]!.To), .bool (l[i]!.Open), .int .i64 (l[i]!.Tag.Count), .int .i64 (l[i]!.Tag.Client)]) hp77.get1 (by kernel_rfl)) .nil)) (by kernel_rfl) (fun b82 => ?_)
              refine OPS.want (by kernel_rfl) ?_
              refine OPS.cons (opStep.call (some 58) [GCall.val (l[k]!), GCall.val (l[i]!)] (by kernel_rfl) (ref_ahead (l[k]!) (l[i]!) _) ?_)
              rintro _ w85 ⟨b88, rfl, hb89, hf86⟩
              refine ⟨_, rfl, ?_⟩
              have hp87 := hp77.step hf86
              refine OPS.batch 1 { wraps := [59] } [] [0, 1, 5, 31, 32, 33, 59] [.pointer (some ⟨sb, 0, none⟩), .int .i64 (i : Int), .pointer (some ⟨g9, 0, none⟩), .slice a l.length cp, .int .i64 ((l.length : Nat) : Int), .int .i64 (k : Int), .bool b88] .nil (by kernel_rfl) (fun b90 => ?_)
              refine OPS.nil ?_
              refine thn_n ?_
              exact ⟨b88, trivial, Bp.of hb89 (by first | (simp only [h67, h70, h81, iff_false, false_iff, iff_true, true_iff, Classical.not_not, and_true, true_and, and_false, false_and, or_true, true_or, or_false, false_or, not_true_eq_false, not_false_eq_true, and_self, or_self, iff_self]; done) | (simp [h67, h70, h81]; done) | simp_all), by kernel_rfl, hp87⟩
            · rw [show b78 = false from hb79.ff h81]
              refine OPS.batch 4 { wraps := [59] } [] [0, 1, 5, 31, 32, 33, 59] [.pointer (some ⟨sb, 0, none⟩), .int .i64 (i : Int), .pointer (some ⟨g9, 0, none⟩), .slice a l.length cp, .int .i64 ((l.length : Nat) : Int), .int .i64 (k : Int), .bool false] .nil (by kernel_rfl) (fun b91 => ?_)
              refine OPS.nil ?_
              refine thn_n ?_
              exact ⟨false, trivial, Bp.of Bp.f (by first | (simp only [h67, h70, h81, iff_false, false_iff, iff_true, true_iff, Classical.not_not, and_true, true_and, and_false, false_and, or_true, true_or, or_false, false_or, not_true_eq_false, not_false_eq_true, and_self, or_self, iff_self]; done) | (simp [h67, h70, h81]; done) | simp_all), by kernel_rfl, hp77⟩
      rintro e98 w99 ⟨x96, hd101, hb97, hE102, hp100⟩
      obtain ⟨b103, rfl⟩ := toMk hE102
      clear hE102
      clear hd101
      refine WP.test (p := (¬ ((inn[k]!) = true)) ∧ (¬ ((k : Int) = (i : Int))) ∧ (partC (l[k]!)) ∧ (aheadC (l[k]!) (l[i]!))) rfl hb97 (fun h104 => ?_) (fun h104 => ?_)
      · refine WP.seq ?_
        refine WP.pure {} [] [4] [.bool false] .nil (by kernel_rfl) (fun b105 => ?_)
        refine thn_n ?_
        refine WP.ret ?_
        refine blk_r ?_
        refine thn_r ?_
        refine thn_r ?_
        refine blk_r ?_
        refine thn_r ?_
        refine bodyQ.of _ rfl [.bool false] ⟨rfl, trivial⟩ ?_
        exact ⟨_, rfl, Bp.of Bp.f (by exact ⟨fun h => h.elim, fun h => may_not2 (j := k) hin (by omega) ⟨h104.1, fun e => h104.2.1 (by omega), h104.2.2.2⟩ h⟩), (hp100.sub (.cons _ (.cons _ (.cons_cons _ (.cons_cons _ (.cons_cons _ (.refl _)))))))⟩
      · refine WP.skip ?_
        refine blk_n ?_
        refine thn_n ?_
        refine WP.pure {} [] [0, 1, 5, 31, 32, 33] [.pointer (some ⟨sb, 0, none⟩), .int .i64 (i : Int), .pointer (some ⟨g9, 0, none⟩), .slice a l.length cp, .int .i64 ((l.length : Nat) : Int), .int .i64 ((k : Int) + 1)] (.cons (show Rng .i64 ((k : Int) + 1) from Rng.i64 (by omega)) .nil) (by kernel_rfl) (fun b106 => ?_)
        refine thn_n ?_
        exact ⟨l.length - (k + 1), (by omega), k + 1, rfl, ⟨by omega, fun j hj hb => by rcases Nat.lt_or_ge j k with q | q; exact h2 j q hb; (obtain rfl : j = k := by omega); exact h104 ⟨hb.1, fun e => hb.2.1 (by omega), hb.2.2.1, hb.2.2.2⟩⟩, by kernel_rfl, (hp100.sub (.cons _ (.cons_cons _ (.cons_cons _ (.cons_cons _ (.cons_cons _ (.refl _)))))))⟩
    · refine WP.exit ?_
      refine thn_x ?_
      refine thn_x ?_
      refine blk_hit ?_
      refine thn_n ?_
      refine WP.seq ?_
      refine WP.seq ?_
      refine WP.pure {} [.bool (l[i]!.Put)] [0, 5, 62] [.pointer (some ⟨sb, 0, none⟩), .pointer (some ⟨g9, 0, none⟩), .bool (l[i]!.Put)] (.cons (Ld.row1 (P := Try.prog) (t := 4) (o := 2) (v := .bool (l[i]!.Put)) hp44.get0 (by kernel_rfl)) .nil) (by kernel_rfl) (fun b107 => ?_)
      refine thn_n ?_
      refine WP.test (p := (l[i]!.Put) = true) rfl Bp.var (fun h108 => ?_) (fun h108 => ?_)
      · refine WP.seq ?_
        refine WP.pure {} [] [4] [.bool true] .nil (by kernel_rfl) (fun b109 => ?_)
        refine thn_n ?_
        refine WP.ret ?_
        refine thn_r ?_
        refine bodyQ.of _ rfl [.bool true] ⟨rfl, trivial⟩ ?_
        exact ⟨_, rfl, Bp.of Bp.t (by rw [may_ref hin hil (fun h => h39 (.inl h)) (Classical.byContradiction fun h => h39 (.inr ⟨fun h1 => h39 (.inl h1), h⟩)) (fun j hj => h2 j (by omega))]; exact ⟨fun _ => .inl h108, fun _ => trivial⟩), (hp44.sub (.cons _ (.cons_cons _ (.cons_cons _ (.cons_cons _ (.refl _))))))⟩
      · refine WP.skip ?_
        refine thn_n ?_
        refine WP.seq ?_
        refine WP.region _ rfl (by kernel_rfl) ?_
        refine OPS.batch 1 {} [] [0, 5, 63] [.pointer (some ⟨sb, 0, none⟩), .pointer (some ⟨g9, 0, none⟩), .pointer (some ⟨sb, 0, none⟩)] .nil (by kernel_rfl) (fun b110 => ?_)
        have hp113 := hp44.pull3
        have hp114 := hp113.pull3
        have hp115 := hp114.pull3
        refine OPS.cons (opStep.call (some 64) [.pointer (some ⟨sb, 0, none⟩)] (by kernel_rfl) (ref_last w0 sb l a cp ai ni ci hs hv hll _ ao no co pre inn _ hin hnb hp115) ?_)
        rintro _ w116 ⟨rfl, hp117⟩
        refine ⟨_, rfl, ?_⟩
        refine OPS.batch 1 {} [] [0, 5, 8] [.pointer (some ⟨sb, 0, none⟩), .pointer (some ⟨g9, 0, none⟩), .int .i64 (lastOf l pre)] .nil (by kernel_rfl) (fun b118 => ?_)
        refine OPS.nil ?_
        refine thn_n ?_
        refine WP.seq ?_
        refine WP.seq ?_
        refine WP.pure {} [.int .i64 (l[i]!.Status)] [0, 5, 8, 67] [.pointer (some ⟨sb, 0, none⟩), .pointer (some ⟨g9, 0, none⟩), .int .i64 (lastOf l pre), .bool (decide ((l[i]!.Status) = 76))] (.cons (Ld.row1 (P := Try.prog) (t := 27) (o := 5) (v := .int .i64 (l[i]!.Status)) hp117.get3 (by kernel_rfl)) .nil) (by kernel_rfl) (fun b119 => ?_)
        refine thn_n ?_
        refine WP.test (p := (l[i]!.Status) = 76) rfl Bp.dec (fun h120 => ?_) (fun h120 => ?_)
        · refine WP.seq ?_
          refine WP.pure {} [] [4] [.bool (decide ((lastOf l pre) < 0))] .nil (by kernel_rfl) (fun b121 => ?_)
          refine thn_n ?_
          refine WP.ret ?_
          refine thn_r ?_
          refine bodyQ.of _ rfl [.bool (decide ((lastOf l pre) < 0))] ⟨rfl, trivial⟩ ?_
          exact ⟨_, rfl, Bp.of Bp.dec (by rw [may_ref hin hil (fun h => h39 (.inl h)) (Classical.byContradiction fun h => h39 (.inr ⟨fun h1 => h39 (.inl h1), h⟩)) (fun j hj => h2 j (by omega))]; simp only [explP]; rw [if_pos h120]; exact ⟨.inr, fun h => h.resolve_left h108⟩), (hp117.sub (.cons_cons _ (.cons_cons _ (.cons_cons _ (.cons _ (.refl _))))))⟩
        · refine WP.skip ?_
          refine thn_n ?_
          refine WP.cut (fun e146 w147 => ∃ (x144 : Bool), (True) ∧ Bp x144 ((0 ≤ (lastOf l pre)) ∧ ((valAt w0 l[(lastOf l pre : Int).toNat]!.Value) = (valAt w0 l[i]!.Value))) ∧ List.map e146 [4] = [.bool x144] ∧ Hp w0 Non (Res.row sb [.slice a l.length cp, .slice ao no co, .slice ai ni ci] 114 :: Res.own 3 1 (.slice ao no co) no (List.flatMap (fun (y : Nat) => [Go.Value.int .i64 (y : Int)]) pre) :: Res.own 4 1 (.slice ai ni ci) ni (List.flatMap (fun (y : Bool) => [Go.Value.bool y]) inn) :: Res.row g9 [.int .i64 (l[i]!.Client), .int .i64 (l[i]!.Op), .bool (l[i]!.Put), .string (l[i]!.Key), .slice (l[i]!.Value.a) (l[i]!.Value.n) (l[i]!.Value.c), .int .i64 (l[i]!.Status), .int .i64 (l[i]!.From), .int .i64 (l[i]!.To), .bool (l[i]!.Open), .int .i64 (l[i]!.Tag.Count), .int .i64 (l[i]!.Tag.Client)] 41 :: L) w147) ?_ ?_
          · have hp125 := hp117.drew
            refine WP.quiet (fun w123 => Hp w0 Non (Res.row sb [.slice a l.length cp, .slice ao no co, .slice ai ni ci] 114 :: Res.own 3 1 (.slice ao no co) no (List.flatMap (fun (y : Nat) => [Go.Value.int .i64 (y : Int)]) pre) :: Res.own 4 1 (.slice ai ni ci) ni (List.flatMap (fun (y : Bool) => [Go.Value.bool y]) inn) :: Res.row g9 [.int .i64 (l[i]!.Client), .int .i64 (l[i]!.Op), .bool (l[i]!.Put), .string (l[i]!.Key), .slice (l[i]!.Value.a) (l[i]!.Value.n) (l[i]!.Value.c), .int .i64 (l[i]!.Status), .int .i64 (l[i]!.From), .int .i64 (l[i]!.To), .bool (l[i]!.Open), .int .i64 (l[i]!.Tag.Count), .int .i64 (l[i]!.Tag.Client)] 41 :: L) w123) (by kernel_rfl) hp125 ?_
            have hnehp125 : ∃ wz_, (fun w123 => Hp w0 Non (Res.row sb [.slice a l.length cp, .slice ao no co, .slice ai ni ci] 114 :: Res.own 3 1 (.slice ao no co) no (List.flatMap (fun (y : Nat) => [Go.Value.int .i64 (y : Int)]) pre) :: Res.own 4 1 (.slice ai ni ci) ni (List.flatMap (fun (y : Bool) => [Go.Value.bool y]) inn) :: Res.row g9 [.int .i64 (l[i]!.Client), .int .i64 (l[i]!.Op), .bool (l[i]!.Put), .string (l[i]!.Key), .slice (l[i]!.Value.a) (l[i]!.Value.n) (l[i]!.Value.c), .int .i64 (l[i]!.Status), .int .i64 (l[i]!.From), .int .i64 (l[i]!.To), .bool (l[i]!.Open), .int .i64 (l[i]!.Tag.Count), .int .i64 (l[i]!.Tag.Client)] 41 :: L) w123) wz_ := ⟨_, hp125⟩
            refine QOPS.batch 3 {} [] [0, 5, 8, 72] [.pointer (some ⟨sb, 0, none⟩), .pointer (some ⟨g9, 0, none⟩), .int .i64 (lastOf l pre), .bool (decide (0 ≤ (lastOf l pre)))] hnehp125 (fun w126 hp127 => QB.mk .nil (by kernel_rfl)) (fun b128 => ?_)
            by_cases h129 : 0 ≤ (lastOf l pre)
            · refine QOPS.batch 0 {} [] [0, 5, 8, 72] [.pointer (some ⟨sb, 0, none⟩), .pointer (some ⟨g9, 0, none⟩), .int .i64 (lastOf l pre), .bool (decide (0 ≤ (lastOf l pre)))] hnehp125 (fun _ _ => QB.mk .nil (by kernel_rfl)) (fun b130 => ?_)
              refine QOPS.re [.pointer (some ⟨sb, 0, none⟩), .pointer (some ⟨g9, 0, none⟩), .int .i64 (lastOf l pre), .bool true] (by rw [show (decide (0 ≤ (lastOf l pre))) = true from Bp.dec.tt h129]) ?_
              have hy134 : (l)[(lastOf l pre : Int).toNat]? = some l[(lastOf l pre : Int).toNat]! := get_bang (by first | (omega) | (simp only [List.length_append, List.length_cons, List.length_nil]; omega))
              refine QOPS.batch 15 { wraps := [86] } [.slice a l.length cp, .slice (l[(lastOf l pre : Int).toNat]!.Value.a) (l[(lastOf l pre : Int).toNat]!.Value.n) (l[(lastOf l pre : Int).toNat]!.Value.c), .string (valAt w0 l[(lastOf l pre : Int).toNat]!.Value), .slice (l[i]!.Value.a) (l[i]!.Value.n) (l[i]!.Value.c), .string (valAt w0 l[i]!.Value)] [4] [.bool (decide ((valAt w0 l[(lastOf l pre : Int).toNat]!.Value) = (valAt w0 l[i]!.Value)))] hnehp125 (fun w131 hp132 => QB.mk (.cons (Ld.row1 (P := Try.prog) (t := 35) (o := 0) (v := .slice a l.length cp) hp132.get0 (by kernel_rfl)) (.cons (show InB (lastOf l pre) (l.length) from ⟨by omega, by omega⟩) (.cons ((hs.at hp132).some (by omega)) (.cons (Ld.el1 (P := Try.prog) (t := 39) (hs.at hp132).rd 11 (fun _ => rfl) hy134 (o := 4) (v := .slice (l[(lastOf l pre : Int).toNat]!.Value.a) (l[(lastOf l pre : Int).toNat]!.Value.n) (l[(lastOf l pre : Int).toNat]!.Value.c)) (by kernel_rfl)) (.cons (VB.bs (P := Try.prog) (hv l[(lastOf l pre : Int).toNat]! (List.mem_of_getElem? hy134)) hp132) (.cons (Ld.row1 (P := Try.prog) (t := 39) (o := 4) (v := .slice (l[i]!.Value.a) (l[i]!.Value.n) (l[i]!.Value.c)) hp132.get3 (by kernel_rfl)) (.cons (VB.bs (P := Try.prog) (hv _ (List.mem_of_getElem? (get_bang (l := l) (i := i) (by omega)))) hp132) .nil))))))) (by kernel_rfl)) (fun b135 => ?_)
              refine QOPS.nil (fun w136 hp137 => ?_)
              refine thn_n ?_
              exact ⟨decide ((valAt w0 l[(lastOf l pre : Int).toNat]!.Value) = (valAt w0 l[i]!.Value)), trivial, Bp.of Bp.dec (by first | (simp only [h129, iff_false, false_iff, iff_true, true_iff, Classical.not_not, and_true, true_and, and_false, false_and, or_true, true_or, or_false, false_or, not_true_eq_false, not_false_eq_true, and_self, or_self, iff_self]; done) | (simp [h129]; done) | simp_all), by kernel_rfl, hp137⟩
            · refine QOPS.batch 0 {} [] [0, 5, 8, 72] [.pointer (some ⟨sb, 0, none⟩), .pointer (some ⟨g9, 0, none⟩), .int .i64 (lastOf l pre), .bool (decide (0 ≤ (lastOf l pre)))] hnehp125 (fun _ _ => QB.mk .nil (by kernel_rfl)) (fun b138 => ?_)
              refine QOPS.re [.pointer (some ⟨sb, 0, none⟩), .pointer (some ⟨g9, 0, none⟩), .int .i64 (lastOf l pre), .bool false] (by rw [show (decide (0 ≤ (lastOf l pre))) = false from Bp.dec.ff h129]) ?_
              refine QOPS.batch 15 { wraps := [86] } [] [4] [.bool false] hnehp125 (fun w139 hp140 => QB.mk .nil (by kernel_rfl)) (fun b141 => ?_)
              refine QOPS.nil (fun w142 hp143 => ?_)
              refine thn_n ?_
              exact ⟨false, trivial, Bp.of Bp.f (by first | (simp only [h129, iff_false, false_iff, iff_true, true_iff, Classical.not_not, and_true, true_and, and_false, false_and, or_true, true_or, or_false, false_or, not_true_eq_false, not_false_eq_true, and_self, or_self, iff_self]; done) | (simp [h129]; done) | simp_all), by kernel_rfl, hp143⟩
          rintro e146 w147 ⟨x144, hd149, hb145, hE150, hp148⟩
          obtain ⟨b151, rfl⟩ := toMk hE150
          clear hE150
          clear hd149
          refine WP.ret ?_
          refine bodyQ.of _ rfl [.bool x144] ⟨rfl, trivial⟩ ?_
          exact ⟨_, rfl, Bp.of hb145 (by rw [may_ref hin hil (fun h => h39 (.inl h)) (Classical.byContradiction fun h => h39 (.inr ⟨fun h1 => h39 (.inl h1), h⟩)) (fun j hj => h2 j (by omega))]; simp only [explP]; rw [if_neg h120]; exact ⟨fun q => .inr ⟨q.1, _, get_bang (by omega), q.2⟩, fun q => by rcases q with q | ⟨q1, y, q2, q3⟩; exact absurd q h108; (rw [get_bang (by omega)] at q2; cases q2; exact ⟨q1, q3⟩)⟩), (hp148.sub (.cons_cons _ (.cons_cons _ (.cons_cons _ (.cons _ (.refl _))))))⟩

theorem ref_down_step (w0 : World) (sb : Nat) (l : List GCall) (a : Option Addr) (cp : Nat) (ai : Option Addr) (ni ci : Nat) (hs : SlR w0 a l.length (l.flatMap GCall.cells)) (hv : ∀ x ∈ l, VB w0 x.Value) (hll : l.length ≤ 8796093022207) (m : Nat) (ih : ∀ (L : List Res) (ao : Option Addr) (no co : Nat) (pre : List Nat) (inn : List Bool) (w : World) (hin : Ins l inn pre) (hcnt : no + inn.count false = l.length) (hp0 : Hp w0 Non (Res.row sb [.slice a l.length cp, .slice ao no co, .slice ai ni ci] 114 :: Res.own 3 1 (.slice ao no co) no (List.flatMap (fun (y : Nat) => [Go.Value.int .i64 (y : Int)]) pre) :: Res.own 4 1 (.slice ai ni ci) ni (List.flatMap (fun (y : Bool) => [Go.Value.bool y]) inn) :: L) w), inn.count false < m → Calls Try.prog 75 #[.pointer (some ⟨sb, 0, none⟩)] w (fun x w' => ∃ (b : Bool) (ao' : Option Addr) (no' co' : Nat) (pre' : List Nat) (inn' : List Bool), x = .returned (.bool b) ∧ refR (valAt w0) l pre inn no b pre' inn' no' ∧ Hp w0 Non (Res.row sb [.slice a l.length cp, .slice ao' no' co', .slice ai ni ci] 114 :: Res.own 3 1 (.slice ao' no' co') no' (List.flatMap (fun (y : Nat) => [Go.Value.int .i64 (y : Int)]) pre') :: Res.own 4 1 (.slice ai ni ci) ni (List.flatMap (fun (y : Bool) => [Go.Value.bool y]) inn') :: L) w')) (L : List Res) (ao : Option Addr) (no co : Nat) (pre : List Nat) (inn : List Bool) (w : World) (hin : Ins l inn pre) (hcnt : no + inn.count false = l.length) (hp0 : Hp w0 Non (Res.row sb [.slice a l.length cp, .slice ao no co, .slice ai ni ci] 114 :: Res.own 3 1 (.slice ao no co) no (List.flatMap (fun (y : Nat) => [Go.Value.int .i64 (y : Int)]) pre) :: Res.own 4 1 (.slice ai ni ci) ni (List.flatMap (fun (y : Bool) => [Go.Value.bool y]) inn) :: L) w) (hm : inn.count false ≤ m) :
    Calls Try.prog 75 #[.pointer (some ⟨sb, 0, none⟩)] w (fun x w' => ∃ (b : Bool) (ao' : Option Addr) (no' co' : Nat) (pre' : List Nat) (inn' : List Bool), x = .returned (.bool b) ∧ refR (valAt w0) l pre inn no b pre' inn' no' ∧ Hp w0 Non (Res.row sb [.slice a l.length cp, .slice ao' no' co', .slice ai ni ci] 114 :: Res.own 3 1 (.slice ao' no' co') no' (List.flatMap (fun (y : Nat) => [Go.Value.int .i64 (y : Int)]) pre') :: Res.own 4 1 (.slice ai ni ci) ni (List.flatMap (fun (y : Bool) => [Go.Value.bool y]) inn') :: L) w') := by
  have hin0 := hin
  obtain ⟨hi1, hi2, hi3⟩ := hin0
  have hni := own_flat (sz := 1) (fun _ => rfl) (by decide) hp0.get2
  refine calls_of Try.func75 rfl 57 rfl (by simp) ?_
  have he0 : List.map (env0 [.pointer (some ⟨sb, 0, none⟩)]) [0] = [.pointer (some ⟨sb, 0, none⟩)] := by kernel_rfl
  obtain ⟨b0, he0⟩ := toMk he0
  rw [he0]
  clear he0
  refine WP.seq ?_
  refine WP.pure {} [] [0] [.pointer (some ⟨sb, 0, none⟩)] .nil (by kernel_rfl) (fun b1 => ?_)
  refine thn_n ?_
  refine WP.seq ?_
  refine WP.seq ?_
  refine WP.region _ rfl (by kernel_rfl) ?_
  refine OPS.batch 1 {} [] [0, 4] [.pointer (some ⟨sb, 0, none⟩), .pointer (some ⟨sb, 0, none⟩)] .nil (by kernel_rfl) (fun b2 => ?_)
  have hp5 := hp0.pull2
  have hp6 := hp5.pull2
  have hp7 := hp6.pull2
  refine OPS.cons (opStep.call (some 5) [.pointer (some ⟨sb, 0, none⟩)] (by kernel_rfl) (ref_whole w0 sb l a cp ai ni ci hs hv hll _ ao no co pre inn _ hin (by omega) hp7) ?_)
  rintro _ w8 ⟨b10, rfl, hb11, hp9⟩
  refine ⟨_, rfl, ?_⟩
  refine OPS.nil ?_
  refine thn_n ?_
  refine WP.test (p := doneA l pre) rfl hb11 (fun h12 => ?_) (fun h12 => ?_)
  · refine WP.seq ?_
    refine WP.pure {} [] [2] [.bool true] .nil (by kernel_rfl) (fun b13 => ?_)
    refine thn_n ?_
    refine WP.ret ?_
    refine thn_r ?_
    refine bodyQ.of _ rfl [.bool true] ⟨rfl, trivial⟩ ?_
    exact ⟨true, ao, no, co, pre, inn, rfl, ⟨fun _ => ⟨[], ⟨h12, fun _ _ => trivial⟩, (List.append_nil _).symm⟩, fun h => absurd h (by decide)⟩, hp9⟩
  · refine WP.skip ?_
    refine thn_n ?_
    refine WP.seq ?_
    refine WP.seq ?_
    refine WP.pure {} [.slice a l.length cp] [0, 10, 11] [.pointer (some ⟨sb, 0, none⟩), .int .i64 ((l.length : Nat) : Int), .int .i64 0] (.cons (Ld.row1 (P := Try.prog) (t := 35) (o := 0) (v := .slice a l.length cp) hp9.get0 (by kernel_rfl)) .nil) (by kernel_rfl) (fun b14 => ?_)
    refine thn_n ?_
    refine WP.block ?_
    refine WP.loop (fun mz_ e15 w16 => ∃ (k : Nat) (ao1 : Option Addr) (no1 : Nat) (co1 : Nat), mz_ = l.length - k ∧ (k ≤ l.length ∧ no1 = no ∧ (∀ j, j < k → ∀ q, ¬ PathA (valAt w0) l pre (j :: q))) ∧ List.map e15 [0, 10, 11] = [.pointer (some ⟨sb, 0, none⟩), .int .i64 ((l.length : Nat) : Int), .int .i64 (k : Int)] ∧ Hp w0 Non (Res.row sb [.slice a l.length cp, .slice ao1 no1 co1, .slice ai ni ci] 114 :: Res.own 3 1 (.slice ao1 no1 co1) no1 (List.flatMap (fun (y : Nat) => [Go.Value.int .i64 (y : Int)]) pre) :: Res.own 4 1 (.slice ai ni ci) ni (List.flatMap (fun (y : Bool) => [Go.Value.bool y]) inn) :: L) w16) (l.length - (0)) ⟨0, ao, no, co, rfl, ⟨by omega, rfl, fun j hj => by omega⟩, by kernel_rfl, hp9⟩ ?_
    rintro _ e15 w16 ⟨k, ao1, no1, co1, rfl, hI18, hE19, hp17⟩
    obtain ⟨b20, rfl⟩ := toMk hE19
    clear hE19
    obtain ⟨h1, h2, hnone⟩ := hI18
    refine WP.seq ?_
    refine WP.pure {} [] [0, 10, 11, 12] [.pointer (some ⟨sb, 0, none⟩), .int .i64 ((l.length : Nat) : Int), .int .i64 (k : Int), .bool (decide ((k : Int) < ((l.length : Nat) : Int)))] .nil (by kernel_rfl) (fun b21 => ?_)
    refine thn_n ?_
    refine WP.seq ?_
    refine WP.test (p := (k : Int) < ((l.length : Nat) : Int)) rfl Bp.dec (fun h22 => ?_) (fun h22 => ?_)
    · refine WP.skip ?_
      refine thn_n ?_
      refine WP.seq ?_
      refine WP.block ?_
      refine WP.seq ?_
      refine WP.pure {} [] [0, 3, 10, 11] [.pointer (some ⟨sb, 0, none⟩), .int .i64 (k : Int), .int .i64 ((l.length : Nat) : Int), .int .i64 (k : Int)] .nil (by kernel_rfl) (fun b23 => ?_)
      refine thn_n ?_
      refine WP.seq ?_
      refine WP.seq ?_
      refine WP.region _ rfl (by kernel_rfl) ?_
      refine OPS.batch 2 {} [] [0, 3, 10, 11, 14, 15] [.pointer (some ⟨sb, 0, none⟩), .int .i64 (k : Int), .int .i64 ((l.length : Nat) : Int), .int .i64 (k : Int), .pointer (some ⟨sb, 0, none⟩), .int .i64 (k : Int)] .nil (by kernel_rfl) (fun b24 => ?_)
      have hp27 := hp17.pull2
      have hp28 := hp27.pull2
      have hp29 := hp28.pull2
      refine OPS.cons (opStep.call (some 16) [.pointer (some ⟨sb, 0, none⟩), .int .i64 (k : Int)] (by kernel_rfl) (ref_next w0 sb l a cp ai ni ci hs hv hll _ ao1 no1 co1 pre inn _ hin (by omega) hp29 k (by omega)) ?_)
      rintro _ w30 ⟨b32, rfl, hb33, hp31⟩
      refine ⟨_, rfl, ?_⟩
      refine OPS.batch 1 {} [] [0, 3, 10, 11, 17] [.pointer (some ⟨sb, 0, none⟩), .int .i64 (k : Int), .int .i64 ((l.length : Nat) : Int), .int .i64 (k : Int), .bool (!b32)] .nil (by kernel_rfl) (fun b34 => ?_)
      refine OPS.nil ?_
      refine thn_n ?_
      refine WP.test (p := ¬ (mayA (valAt w0) l pre k)) rfl (Bp.not hb33) (fun h35 => ?_) (fun h35 => ?_)
      · refine WP.exit ?_
        refine thn_x ?_
        refine blk_hit ?_
        refine thn_n ?_
        refine WP.pure {} [] [0, 10, 11] [.pointer (some ⟨sb, 0, none⟩), .int .i64 ((l.length : Nat) : Int), .int .i64 ((k : Int) + 1)] (.cons (show Rng .i64 ((k : Int) + 1) from Rng.i64 (by omega)) .nil) (by kernel_rfl) (fun b36 => ?_)
        refine thn_n ?_
        have hnn : ∀ q, ¬ PathA (valAt w0) l pre (k :: q) := fun q hq => h35 hq.2.1
        exact ⟨l.length - (k + 1), (by omega), k + 1, ao1, no1, co1, rfl, ⟨by omega, by omega, fun j hj => by rcases Nat.lt_or_ge j k with q | q; exact hnone j q; (obtain rfl : j = k := by omega); exact hnn⟩, by kernel_rfl, hp31⟩
      · replace h35 := Classical.not_not.1 h35
        refine WP.skip ?_
        refine thn_n ?_
        refine WP.seq ?_
        refine WP.region _ rfl (by kernel_rfl) ?_
        refine OPS.batch 6 {} [.slice ai ni ci] [0, 3, 10, 11, 23] [.pointer (some ⟨sb, 0, none⟩), .int .i64 (k : Int), .int .i64 ((l.length : Nat) : Int), .int .i64 (k : Int), .pointer (some ((adr ai).add (k * 1)))] (.cons (Ld.row1 (P := Try.prog) (t := 112) (o := 2) (v := .slice ai ni ci) hp31.get0 (by kernel_rfl)) (.cons (show InB ((k : Int)) (ni) from ⟨by omega, by omega⟩) (.cons ((SlR.own (hp31.get2)).some (by omega)) .nil))) (by kernel_rfl) (fun b37 => ?_)
        have := own_flat (sz := 1) (fun _ => rfl) (by decide) hp31.get2
        try simp only [List.length_set] at this
        refine OPS.cons (opStep.storeOwn2 (k * 1) hp31 rfl [.bool true] (by kernel_rfl) (by decide) (show k * 1 + 1 ≤ ni * 1 by omega) (fun w38 hp39 => ?_))
        have hp40 := hp39
        rw [show ow (List.flatMap (fun (y : Bool) => [Go.Value.bool y]) inn) (k * 1) [.bool true] = List.flatMap (fun (y : Bool) => [Go.Value.bool y]) (inn.set k true) from ow_flat (sz := 1) (fun _ => rfl) (by first | (omega) | (simp only [List.length_set]; omega)) true] at hp40
        refine OPS.nil ?_
        refine thn_n ?_
        refine WP.seq ?_
        refine WP.region _ rfl (by kernel_rfl) ?_
        refine OPS.batch 6 {} [.slice ao1 no1 co1] [0, 3, 10, 11, 24, 28, 29] [.pointer (some ⟨sb, 0, none⟩), .int .i64 (k : Int), .int .i64 ((l.length : Nat) : Int), .int .i64 (k : Int), .pointer (some ⟨sb, 0, none⟩), .slice ao1 no1 co1, .int .i64 (k : Int)] (.cons (Ld.row1 (P := Try.prog) (t := 36) (o := 1) (v := .slice ao1 no1 co1) hp40.get0 (by kernel_rfl)) .nil) (by kernel_rfl) (fun b41 => ?_)
        refine OPS.cons (opStep.buildSlice (E := 3) hp40 [.int .i64 (k : Int)] (by kernel_rfl) (fun g44 w42 hp43 => ?_))
        refine OPS.cons (opStep.append2 [.int .i64 (k : Int)] hp43 8 (by kernel_rfl) rfl rfl rfl (SlR.row (n := 1) hp43.get0 rfl).rd (List.all_eq_true.1 (by kernel_rfl)) (by decide) (by omega) (by omega) (fun a47 c48 w49 hp50 hn51 => ?_))
        rw [(show List.flatMap (fun (y : Nat) => [Go.Value.int .i64 (y : Int)]) pre ++ [.int .i64 (k : Int)] = List.flatMap (fun (y : Nat) => [Go.Value.int .i64 (y : Int)]) (pre ++ [k]) from (List.flatMap_append (xs := pre) (ys := [k])).symm)] at hp50
        refine OPS.batch 2 {} [] [0, 3, 10, 11, 31, 33] [.pointer (some ⟨sb, 0, none⟩), .int .i64 (k : Int), .int .i64 ((l.length : Nat) : Int), .int .i64 (k : Int), .slice a47 (no1 + 1) c48, .pointer (some ⟨sb, 1, none⟩)] .nil (by kernel_rfl) (fun b52 => ?_)
        refine OPS.cons (opStep.store1 hp50 rfl [.slice a47 (no1 + 1) c48] [.slice a l.length cp, .slice a47 (no1 + 1) c48, .slice ai ni ci] (by kernel_rfl) (fun w53 hp54 => ?_))
        refine OPS.nil ?_
        refine thn_n ?_
        refine WP.seq ?_
        refine WP.seq ?_
        refine WP.region _ rfl (by kernel_rfl) ?_
        refine OPS.batch 1 {} [] [0, 3, 10, 11, 34] [.pointer (some ⟨sb, 0, none⟩), .int .i64 (k : Int), .int .i64 ((l.length : Nat) : Int), .int .i64 (k : Int), .pointer (some ⟨sb, 0, none⟩)] .nil (by kernel_rfl) (fun b55 => ?_)
        have hp58 := hp54.pull3
        have hp59 := hp58.pull3
        have hp60 := hp59.pull3
        have hnk : ¬ inn[k]! = true := fun hb => h35.2.2.1 ((hi2 k (by omega)).1 hb)
        have hck := count_set hnk (by omega)
        refine OPS.cons (opStep.call (some 35) [.pointer (some ⟨sb, 0, none⟩)] (by kernel_rfl) (ih _ a47 (no1 + 1) c48 (pre ++ [k]) (inn.set k true) _ (ins_set hin (by omega)) (by omega) hp60 (by omega)) ?_)
        rintro _ w61 ⟨b63, ao64, no65, co66, pr67, nn68, rfl, hr69, hp62⟩
        refine ⟨_, rfl, ?_⟩
        obtain ⟨hr1, hr2⟩ := hr69
        cases b63
        · obtain ⟨hfl, hfi, hfn, hfb⟩ := hr2 rfl
          subst hfl
          subst hfi
          have hl1 := own_flat (sz := 1) (fun _ => rfl) (by decide) hp62.get1
          refine OPS.nil ?_
          refine thn_n ?_
          refine WP.condF rfl ?_
          refine WP.skip ?_
          refine thn_n ?_
          refine WP.seq ?_
          refine WP.region _ rfl (by kernel_rfl) ?_
          refine OPS.batch 6 {} [.slice ai ni ci] [0, 10, 11, 41] [.pointer (some ⟨sb, 0, none⟩), .int .i64 ((l.length : Nat) : Int), .int .i64 (k : Int), .pointer (some ((adr ai).add (k * 1)))] (.cons (Ld.row1 (P := Try.prog) (t := 112) (o := 2) (v := .slice ai ni ci) hp62.get0 (by kernel_rfl)) (.cons (show InB ((k : Int)) (ni) from ⟨by omega, by omega⟩) (.cons ((SlR.own (hp62.get2)).some (by omega)) .nil))) (by kernel_rfl) (fun b70 => ?_)
          have := own_flat (sz := 1) (fun _ => rfl) (by decide) hp62.get2
          try simp only [List.length_set] at this
          refine OPS.cons (opStep.storeOwn2 (k * 1) hp62 rfl [.bool false] (by kernel_rfl) (by decide) (show k * 1 + 1 ≤ ni * 1 by omega) (fun w71 hp72 => ?_))
          have hp73 := hp72
          rw [show ow (List.flatMap (fun (y : Bool) => [Go.Value.bool y]) (inn.set k true)) (k * 1) [.bool false] = List.flatMap (fun (y : Bool) => [Go.Value.bool y]) ((inn.set k true).set k false) from ow_flat (sz := 1) (fun _ => rfl) (by first | (omega) | (simp only [List.length_set]; omega)) false] at hp73
          refine OPS.nil ?_
          refine thn_n ?_
          have hp74 := hp73.drew
          have := own_cap hp74.get1
          refine WP.held (fun w75 => Ld Try.prog w75 36 ⟨sb, 1, none⟩ (.slice ao64 no65 co66) ∧ True) [14] [(0, true), (1, true), (2, true), (3, true), (4, true), (5, true), (6, true), (7, true), (8, true), (9, true), (10, true), (11, true), (12, false), (13, true), (14, false)] (np_blk (np_thn (np_thn (np_blk (np_thn np_body))))) (by kernel_rfl) ?_
          have := own_cap hp74.get1
          refine HOPS.take 12 {} [.slice ao64 no65 co66, .slice ao64 no65 co66] [0, 10, 11, 42, 53] [.pointer (some ⟨sb, 0, none⟩), .int .i64 ((l.length : Nat) : Int), .int .i64 (k : Int), .pointer (some ⟨sb, 0, none⟩), .slice ao64 ((((no65 : Nat) : Int) - 1 : Int).toNat) co66] (by kernel_rfl) ⟨(show Ld Try.prog w71.drew 36 ⟨sb, 1, none⟩ (.slice ao64 no65 co66) from (Ld.row1 (P := Try.prog) (t := 36) (o := 1) (v := .slice ao64 no65 co66) hp74.get0 (by kernel_rfl))), trivial⟩ (fun w76 hS77 => QB.mk (.cons (hS77.1) (.cons (hS77.1) (.cons (show Rng .i64 (((no65 : Nat) : Int) - 1) from Rng.i64 (by omega)) (.cons (show 0 ≤ (((no65 : Nat) : Int) - 1) ∧ (((no65 : Nat) : Int) - 1) ≤ ((co66 : Nat) : Int) from ⟨by omega, by omega⟩) .nil)))) (by kernel_rfl)) (fun b78 => ?_)
          refine HOPS.one _ rfl {} [] [0, 10, 11, 53, 54] [.pointer (some ⟨sb, 0, none⟩), .int .i64 ((l.length : Nat) : Int), .int .i64 (k : Int), .slice ao64 ((((no65 : Nat) : Int) - 1 : Int).toNat) co66, .pointer (some ⟨sb, 0, none⟩)] .nil (by kernel_rfl) ⟨(show Ld Try.prog w71.drew 36 ⟨sb, 1, none⟩ (.slice ao64 no65 co66) from (Ld.row1 (P := Try.prog) (t := 36) (o := 1) (v := .slice ao64 no65 co66) hp74.get0 (by kernel_rfl))), trivial⟩ (fun b81 => ?_)
          refine HOPS.take 1 {} [] [0, 10, 11, 53, 55] [.pointer (some ⟨sb, 0, none⟩), .int .i64 ((l.length : Nat) : Int), .int .i64 (k : Int), .slice ao64 ((((no65 : Nat) : Int) - 1 : Int).toNat) co66, .pointer (some ⟨sb, 1, none⟩)] (by kernel_rfl) ⟨(show Ld Try.prog w71.drew 36 ⟨sb, 1, none⟩ (.slice ao64 no65 co66) from (Ld.row1 (P := Try.prog) (t := 36) (o := 1) (v := .slice ao64 no65 co66) hp74.get0 (by kernel_rfl))), trivial⟩ (fun w82 hS83 => QB.mk .nil (by kernel_rfl)) (fun b84 => ?_)
          refine HOPS.eff _ rfl (opStep.store0 hp74 rfl [.slice ao64 ((((no65 : Nat) : Int) - 1 : Int).toNat) co66] [.slice a l.length cp, .slice ao64 ((((no65 : Nat) : Int) - 1 : Int).toNat) co66, .slice ai ni ci] (by kernel_rfl) (fun w85 hp86 => ?_))
          have hp87 := hp86.turn1 (Res.own 3 1 (.slice ao64 ((((no65 : Nat) : Int) - 1 : Int).toNat) co66) ((((no65 : Nat) : Int) - 1 : Int).toNat) (List.flatMap (fun (y : Nat) => [Go.Value.int .i64 (y : Int)]) (List.take ((((no65 : Nat) : Int) - 1 : Int).toNat) (pre ++ [k])))) (fun hh => by rw [← flat_take (sz := 1) (fun _ => rfl)]; exact own_cut (by omega) hh) own_foot
          refine ⟨.inl rfl, ?_⟩
          refine HOPS.nil ?_
          refine blk_n ?_
          refine thn_n ?_
          refine WP.pure {} [] [0, 10, 11] [.pointer (some ⟨sb, 0, none⟩), .int .i64 ((l.length : Nat) : Int), .int .i64 ((k : Int) + 1)] (.cons (show Rng .i64 ((k : Int) + 1) from Rng.i64 (by omega)) .nil) (by kernel_rfl) (fun b88 => ?_)
          refine thn_n ?_
          have hpre : List.take ((((no65 : Nat) : Int) - 1 : Int).toNat) (pre ++ [k]) = pre := List.take_left' (by have e : (pre ++ [k]).length = pre.length + 1 := (by simp); omega)
          have hinn : (inn.set k true).set k false = inn := set_back hnk (by omega)
          have hp89 := hp87
          rw [hpre, hinn] at hp89
          have hnn : ∀ q, ¬ PathA (valAt w0) l pre (k :: q) := fun q hq => hfb q hq.2.2
          exact ⟨l.length - (k + 1), (by omega), k + 1, ao64, (((no65 : Nat) : Int) - 1 : Int).toNat, co66, rfl, ⟨by omega, by omega, fun j hj => by rcases Nat.lt_or_ge j k with q | q; exact hnone j q; (obtain rfl : j = k := by omega); exact hnn⟩, by kernel_rfl, (hp89.sub (.cons_cons _ (.cons_cons _ (.cons_cons _ (.cons _ (.refl _))))))⟩
        · refine OPS.nil ?_
          refine thn_n ?_
          refine WP.condT rfl ?_
          refine WP.seq ?_
          refine WP.pure {} [] [2] [.bool true] .nil (by kernel_rfl) (fun b90 => ?_)
          refine thn_n ?_
          refine WP.ret ?_
          refine thn_r ?_
          refine blk_r ?_
          refine thn_r ?_
          refine thn_r ?_
          refine blk_r ?_
          refine thn_r ?_
          refine bodyQ.of _ rfl [.bool true] ⟨rfl, trivial⟩ ?_
          exact ⟨true, ao64, no65, co66, pr67, nn68, rfl, ⟨fun _ => by obtain ⟨p, hp1, hp2⟩ := hr1 rfl; exact ⟨k :: p, bestAt_cons h12 h35 hp1 hnone, by rw [hp2]; simp⟩, fun h => absurd h (by decide)⟩, (hp62.sub (.cons_cons _ (.cons_cons _ (.cons_cons _ (.cons _ (.refl _))))))⟩
    · refine WP.exit ?_
      refine thn_x ?_
      refine thn_x ?_
      refine blk_hit ?_
      refine thn_n ?_
      refine WP.seq ?_
      refine WP.pure {} [] [2] [.bool false] .nil (by kernel_rfl) (fun b91 => ?_)
      refine thn_n ?_
      refine WP.ret ?_
      refine bodyQ.of _ rfl [.bool false] ⟨rfl, trivial⟩ ?_
      exact ⟨false, ao1, no1, co1, pre, inn, rfl, ⟨fun h => absurd h (by decide), fun _ => ⟨rfl, rfl, h2, noneA h12 (fun j hj => hnone j (by omega))⟩⟩, hp17⟩

theorem ref_down (w0 : World) (sb : Nat) (l : List GCall) (a : Option Addr) (cp : Nat) (ai : Option Addr) (ni ci : Nat) (hs : SlR w0 a l.length (l.flatMap GCall.cells)) (hv : ∀ x ∈ l, VB w0 x.Value) (hll : l.length ≤ 8796093022207) : ∀ (m : Nat) (L : List Res) (ao : Option Addr) (no co : Nat) (pre : List Nat) (inn : List Bool) (w : World) (hin : Ins l inn pre) (hcnt : no + inn.count false = l.length) (hp0 : Hp w0 Non (Res.row sb [.slice a l.length cp, .slice ao no co, .slice ai ni ci] 114 :: Res.own 3 1 (.slice ao no co) no (List.flatMap (fun (y : Nat) => [Go.Value.int .i64 (y : Int)]) pre) :: Res.own 4 1 (.slice ai ni ci) ni (List.flatMap (fun (y : Bool) => [Go.Value.bool y]) inn) :: L) w), inn.count false ≤ m → Calls Try.prog 75 #[.pointer (some ⟨sb, 0, none⟩)] w (fun x w' => ∃ (b : Bool) (ao' : Option Addr) (no' co' : Nat) (pre' : List Nat) (inn' : List Bool), x = .returned (.bool b) ∧ refR (valAt w0) l pre inn no b pre' inn' no' ∧ Hp w0 Non (Res.row sb [.slice a l.length cp, .slice ao' no' co', .slice ai ni ci] 114 :: Res.own 3 1 (.slice ao' no' co') no' (List.flatMap (fun (y : Nat) => [Go.Value.int .i64 (y : Int)]) pre') :: Res.own 4 1 (.slice ai ni ci) ni (List.flatMap (fun (y : Bool) => [Go.Value.bool y]) inn') :: L) w') := by
  intro m
  induction m with
  | zero => intro L ao no co pre inn w hin hcnt hp0 hm; exact ref_down_step w0 sb l a cp ai ni ci hs hv hll 0 (fun L ao no co pre inn w hin hcnt hp0 hm => absurd hm (by omega)) L ao no co pre inn w hin hcnt hp0 hm
  | succ m ih => intro L ao no co pre inn w hin hcnt hp0 hm; exact ref_down_step w0 sb l a cp ai ni ci hs hv hll (m + 1) (fun L ao no co pre inn w hin hcnt hp0 hm => ih L ao no co pre inn w hin hcnt hp0 (by omega)) L ao no co pre inn w hin hcnt hp0 hm

def oneA (val : SlH → ByteArray) (l : List GCall) (xs : List Nat) (ok : Bool) (e : Int) : Prop :=
  ((∃ j, j < l.length ∧ ¬ okArg l[j]!) ∧ e = 1 ∧ ok = false ∧ xs = []) ∨
  ((∀ j, j < l.length → okArg l[j]!) ∧ 24 < cntN l l.length ∧ e = 4 ∧ ok = false ∧ xs = []) ∨
  ((∀ j, j < l.length → okArg l[j]!) ∧ cntN l l.length ≤ 24 ∧ e = 0 ∧ ((ok = true ∧ BestA val l xs) ∨ (ok = false ∧ xs = [] ∧ ∀ p, ¬ PathA val l [] p)))
theorem oneR_iff {val : SlH → ByteArray} {l : List GCall} {xs : List Nat} {ok : Bool} {e : Int} : oneR val l xs ok e ↔ oneA val l xs ok e := by
  unfold oneR oneA
  rw [best_all, bad_all_iff]
theorem cnt_step {l : List GCall} {k : Nat} {ct y : Int} (h1 : ct = (cntN l k : Int)) (hd : (y = ct + 1 ∧ partC l[k]!) ∨ (y = ct ∧ ¬ partC l[k]!)) : y = (cntN l (k + 1) : Int) := by
  subst h1
  rcases hd with ⟨h3, h⟩ | ⟨h3, h⟩
  · subst h3; simp only [cntN, if_pos h]; omega
  · subst h3; simp only [cntN, if_neg h]

theorem ref_One (l : List GCall) (a : Option Addr) (cp : Nat) (w : World) (hs : SlR w a l.length (l.flatMap GCall.cells)) (hv : ∀ x ∈ l, VB w x.Value) (hll : l.length ≤ 8796093022207) :
    Calls Try.prog 20 #[.slice a l.length cp] w (fun x w' => ∃ (xs : List Nat) (ok : Bool) (e : Int) (ao : Option Addr) (no co : Nat), x = .returned (.tuple #[.slice ao no co, .bool ok, .int .i64 e]) ∧ oneA (valAt w) l xs ok e ∧ Hp w Non [Res.own 3 1 (.slice ao no co) no (List.flatMap (fun (y : Nat) => [Go.Value.int .i64 (y : Int)]) xs)] w') := by
  refine calls_of Try.func20 rfl 50 rfl (by simp) ?_
  have hp0 := Hp.init w
  have he0 : List.map (env0 [.slice a l.length cp]) [0] = [.slice a l.length cp] := by kernel_rfl
  obtain ⟨b0, he0⟩ := toMk he0
  rw [he0]
  clear he0
  refine WP.seq ?_
  refine WP.pure {} [] [0] [.slice a l.length cp] .nil (by kernel_rfl) (fun b1 => ?_)
  refine thn_n ?_
  refine WP.seq ?_
  refine WP.pure {} [] [0, 5] [.slice a l.length cp, .int .i64 0] .nil (by kernel_rfl) (fun b2 => ?_)
  refine thn_n ?_
  refine WP.seq ?_
  refine WP.seq ?_
  refine WP.pure {} [] [0, 5, 9, 10, 11] [.slice a l.length cp, .int .i64 0, .slice a l.length cp, .int .i64 ((l.length : Nat) : Int), .int .i64 0] .nil (by kernel_rfl) (fun b3 => ?_)
  refine thn_n ?_
  refine WP.block ?_
  refine WP.loop (fun mz_ e4 w5 => ∃ (k : Nat) (ct : Int), mz_ = l.length - k ∧ (k ≤ l.length ∧ ct = (cntN l k : Int) ∧ ∀ j, j < k → okArg l[j]!) ∧ List.map e4 [0, 5, 9, 10, 11] = [.slice a l.length cp, .int .i64 ct, .slice a l.length cp, .int .i64 ((l.length : Nat) : Int), .int .i64 (k : Int)] ∧ Hp w Non [] w5) (l.length - (0)) ⟨0, 0, rfl, ⟨by omega, rfl, fun j hj => by omega⟩, by kernel_rfl, hp0⟩ ?_
  rintro _ e4 w5 ⟨k, ct, rfl, hI7, hE8, hp6⟩
  obtain ⟨b9, rfl⟩ := toMk hE8
  clear hE8
  obtain ⟨h1, h2, h3⟩ := hI7
  have hck := cntN_le l k
  refine WP.seq ?_
  refine WP.pure {} [] [0, 5, 9, 10, 11, 12] [.slice a l.length cp, .int .i64 ct, .slice a l.length cp, .int .i64 ((l.length : Nat) : Int), .int .i64 (k : Int), .bool (decide ((k : Int) < ((l.length : Nat) : Int)))] .nil (by kernel_rfl) (fun b10 => ?_)
  refine thn_n ?_
  refine WP.seq ?_
  refine WP.test (p := (k : Int) < ((l.length : Nat) : Int)) rfl Bp.dec (fun h11 => ?_) (fun h11 => ?_)
  · refine WP.skip ?_
    refine thn_n ?_
    refine WP.seq ?_
    refine WP.block ?_
    refine WP.seq ?_
    refine WP.region _ rfl (by kernel_rfl) ?_
    have hy15 : (l)[k]? = some l[k]! := get_bang (by first | (omega) | (simp only [List.length_append, List.length_cons, List.length_nil]; omega))
    refine OPS.batch 2 {} [GCall.val (l[k]!)] [0, 5, 9, 10, 11, 14] [.slice a l.length cp, .int .i64 ct, .slice a l.length cp, .int .i64 ((l.length : Nat) : Int), .int .i64 (k : Int), GCall.val (l[k]!)] (.cons (show InB ((k : Int)) (l.length) from ⟨by omega, by omega⟩) (.cons ((hs.at hp6).some (by omega)) (.cons (Ld.add0 (Ld.elN (P := Try.prog) (t := 41) (hs.at hp6).rd 11 (fun _ => rfl) hy15 (o := 0) (cs := [.int .i64 (l[k]!.Client), .int .i64 (l[k]!.Op), .bool (l[k]!.Put), .string (l[k]!.Key), .slice (l[k]!.Value.a) (l[k]!.Value.n) (l[k]!.Value.c), .int .i64 (l[k]!.Status), .int .i64 (l[k]!.From), .int .i64 (l[k]!.To), .bool (l[k]!.Open), .int .i64 (l[k]!.Tag.Count), .int .i64 (l[k]!.Tag.Client)]) (by kernel_rfl))) .nil))) (by kernel_rfl) (fun b16 => ?_)
    refine OPS.cons (opStep.alloc hp6 [.int .i64 0, .int .i64 0, .bool false, .string ByteArray.empty, .slice none 0 0, .int .i64 0, .int .i64 0, .int .i64 0, .bool false, .int .i64 0, .int .i64 0] (by kernel_rfl) (fun g19 w17 hp18 => ?_))
    refine OPS.cons (opStep.store0 hp18 rfl [.int .i64 (l[k]!.Client), .int .i64 (l[k]!.Op), .bool (l[k]!.Put), .string (l[k]!.Key), .slice (l[k]!.Value.a) (l[k]!.Value.n) (l[k]!.Value.c), .int .i64 (l[k]!.Status), .int .i64 (l[k]!.From), .int .i64 (l[k]!.To), .bool (l[k]!.Open), .int .i64 (l[k]!.Tag.Count), .int .i64 (l[k]!.Tag.Client)] [.int .i64 (l[k]!.Client), .int .i64 (l[k]!.Op), .bool (l[k]!.Put), .string (l[k]!.Key), .slice (l[k]!.Value.a) (l[k]!.Value.n) (l[k]!.Value.c), .int .i64 (l[k]!.Status), .int .i64 (l[k]!.From), .int .i64 (l[k]!.To), .bool (l[k]!.Open), .int .i64 (l[k]!.Tag.Count), .int .i64 (l[k]!.Tag.Client)] (by kernel_rfl) (fun w20 hp21 => ?_))
    refine OPS.nil ?_
    refine thn_n ?_
    refine WP.seq ?_
    refine WP.cut (fun e36 w37 => ∃ (x34 : Bool), (True) ∧ Bp x34 ((((l[k]!.From) < 0)) ∨ ((¬ ((l[k]!.From) < 0)) ∧ (¬ ((l[k]!.To) = (-1))) ∧ ((l[k]!.To) ≤ (l[k]!.From)))) ∧ List.map e36 [0, 5, 7, 9, 10, 11, 29] = [.slice a l.length cp, .int .i64 ct, .pointer (some ⟨g19, 0, none⟩), .slice a l.length cp, .int .i64 ((l.length : Nat) : Int), .int .i64 (k : Int), .bool x34] ∧ Hp w Non [Res.row g19 [.int .i64 (l[k]!.Client), .int .i64 (l[k]!.Op), .bool (l[k]!.Put), .string (l[k]!.Key), .slice (l[k]!.Value.a) (l[k]!.Value.n) (l[k]!.Value.c), .int .i64 (l[k]!.Status), .int .i64 (l[k]!.From), .int .i64 (l[k]!.To), .bool (l[k]!.Open), .int .i64 (l[k]!.Tag.Count), .int .i64 (l[k]!.Tag.Client)] 41] w37) ?_ ?_
    · refine WP.region _ rfl (by kernel_rfl) ?_
      refine OPS.batch 4 {} [.int .i64 (l[k]!.From)] [0, 5, 7, 9, 10, 11, 18] [.slice a l.length cp, .int .i64 ct, .pointer (some ⟨g19, 0, none⟩), .slice a l.length cp, .int .i64 ((l.length : Nat) : Int), .int .i64 (k : Int), .bool (decide ((l[k]!.From) < 0))] (.cons (Ld.row1 (P := Try.prog) (t := 3) (o := 6) (v := .int .i64 (l[k]!.From)) hp21.get0 (by kernel_rfl)) .nil) (by kernel_rfl) (fun b23 => ?_)
      by_cases h24 : (l[k]!.From) < 0
      · refine OPS.batch 0 {} [] [0, 5, 7, 9, 10, 11, 18] [.slice a l.length cp, .int .i64 ct, .pointer (some ⟨g19, 0, none⟩), .slice a l.length cp, .int .i64 ((l.length : Nat) : Int), .int .i64 (k : Int), .bool (decide ((l[k]!.From) < 0))] .nil (by kernel_rfl) (fun b25 => ?_)
        refine OPS.re [.slice a l.length cp, .int .i64 ct, .pointer (some ⟨g19, 0, none⟩), .slice a l.length cp, .int .i64 ((l.length : Nat) : Int), .int .i64 (k : Int), .bool true] (by rw [show (decide ((l[k]!.From) < 0)) = true from Bp.dec.tt h24]) ?_
        refine OPS.batch 11 { wraps := [29] } [] [0, 5, 7, 9, 10, 11, 29] [.slice a l.length cp, .int .i64 ct, .pointer (some ⟨g19, 0, none⟩), .slice a l.length cp, .int .i64 ((l.length : Nat) : Int), .int .i64 (k : Int), .bool true] .nil (by kernel_rfl) (fun b26 => ?_)
        refine OPS.nil ?_
        refine thn_n ?_
        exact ⟨true, trivial, Bp.of Bp.t (by first | (simp only [h24, iff_false, false_iff, iff_true, true_iff, Classical.not_not, and_true, true_and, and_false, false_and, or_true, true_or, or_false, false_or, not_true_eq_false, not_false_eq_true, and_self, or_self, iff_self]; done) | (simp [h24]; done) | simp_all), by kernel_rfl, hp21⟩
      · refine OPS.batch 0 {} [] [0, 5, 7, 9, 10, 11, 18] [.slice a l.length cp, .int .i64 ct, .pointer (some ⟨g19, 0, none⟩), .slice a l.length cp, .int .i64 ((l.length : Nat) : Int), .int .i64 (k : Int), .bool (decide ((l[k]!.From) < 0))] .nil (by kernel_rfl) (fun b27 => ?_)
        refine OPS.re [.slice a l.length cp, .int .i64 ct, .pointer (some ⟨g19, 0, none⟩), .slice a l.length cp, .int .i64 ((l.length : Nat) : Int), .int .i64 (k : Int), .bool false] (by rw [show (decide ((l[k]!.From) < 0)) = false from Bp.dec.ff h24]) ?_
        refine OPS.batch 4 {} [.int .i64 (l[k]!.To)] [0, 5, 7, 9, 10, 11, 18, 22] [.slice a l.length cp, .int .i64 ct, .pointer (some ⟨g19, 0, none⟩), .slice a l.length cp, .int .i64 ((l.length : Nat) : Int), .int .i64 (k : Int), .bool false, .bool (decide (¬ ((l[k]!.To) = (-1))))] (.cons (Ld.row1 (P := Try.prog) (t := 3) (o := 7) (v := .int .i64 (l[k]!.To)) hp21.get0 (by kernel_rfl)) .nil) (by kernel_rfl) (fun b28 => ?_)
        by_cases h29 : (l[k]!.To) = (-1)
        · refine OPS.batch 0 {} [] [0, 5, 7, 9, 10, 11, 18, 22] [.slice a l.length cp, .int .i64 ct, .pointer (some ⟨g19, 0, none⟩), .slice a l.length cp, .int .i64 ((l.length : Nat) : Int), .int .i64 (k : Int), .bool false, .bool (decide (¬ ((l[k]!.To) = (-1))))] .nil (by kernel_rfl) (fun b32 => ?_)
          refine OPS.re [.slice a l.length cp, .int .i64 ct, .pointer (some ⟨g19, 0, none⟩), .slice a l.length cp, .int .i64 ((l.length : Nat) : Int), .int .i64 (k : Int), .bool false, .bool false] (by rw [show (decide (¬ ((l[k]!.To) = (-1)))) = false from Bp.dec.ff (fun k => k h29)]) ?_
          refine OPS.batch 7 { wraps := [28, 29] } [] [0, 5, 7, 9, 10, 11, 29] [.slice a l.length cp, .int .i64 ct, .pointer (some ⟨g19, 0, none⟩), .slice a l.length cp, .int .i64 ((l.length : Nat) : Int), .int .i64 (k : Int), .bool false] .nil (by kernel_rfl) (fun b33 => ?_)
          refine OPS.nil ?_
          refine thn_n ?_
          exact ⟨false, trivial, Bp.of Bp.f (by first | (simp only [h24, h29, iff_false, false_iff, iff_true, true_iff, Classical.not_not, and_true, true_and, and_false, false_and, or_true, true_or, or_false, false_or, not_true_eq_false, not_false_eq_true, and_self, or_self, iff_self]; done) | (simp [h24, h29]; done) | simp_all), by kernel_rfl, hp21⟩
        · refine OPS.batch 0 {} [] [0, 5, 7, 9, 10, 11, 18, 22] [.slice a l.length cp, .int .i64 ct, .pointer (some ⟨g19, 0, none⟩), .slice a l.length cp, .int .i64 ((l.length : Nat) : Int), .int .i64 (k : Int), .bool false, .bool (decide (¬ ((l[k]!.To) = (-1))))] .nil (by kernel_rfl) (fun b30 => ?_)
          refine OPS.re [.slice a l.length cp, .int .i64 ct, .pointer (some ⟨g19, 0, none⟩), .slice a l.length cp, .int .i64 ((l.length : Nat) : Int), .int .i64 (k : Int), .bool false, .bool true] (by rw [show (decide (¬ ((l[k]!.To) = (-1)))) = true from Bp.dec.tt h29]) ?_
          refine OPS.batch 7 { wraps := [28, 29] } [.int .i64 (l[k]!.To), .int .i64 (l[k]!.From)] [0, 5, 7, 9, 10, 11, 29] [.slice a l.length cp, .int .i64 ct, .pointer (some ⟨g19, 0, none⟩), .slice a l.length cp, .int .i64 ((l.length : Nat) : Int), .int .i64 (k : Int), .bool (decide ((l[k]!.To) ≤ (l[k]!.From)))] (.cons (Ld.row1 (P := Try.prog) (t := 3) (o := 7) (v := .int .i64 (l[k]!.To)) hp21.get0 (by kernel_rfl)) (.cons (Ld.row1 (P := Try.prog) (t := 3) (o := 6) (v := .int .i64 (l[k]!.From)) hp21.get0 (by kernel_rfl)) .nil)) (by kernel_rfl) (fun b31 => ?_)
          refine OPS.nil ?_
          refine thn_n ?_
          exact ⟨decide ((l[k]!.To) ≤ (l[k]!.From)), trivial, Bp.of Bp.dec (by first | (simp only [h24, h29, iff_false, false_iff, iff_true, true_iff, Classical.not_not, and_true, true_and, and_false, false_and, or_true, true_or, or_false, false_or, not_true_eq_false, not_false_eq_true, and_self, or_self, iff_self]; done) | (simp [h24, h29]; done) | simp_all), by kernel_rfl, hp21⟩
    rintro e36 w37 ⟨x34, hd39, hb35, hE40, hp38⟩
    obtain ⟨b41, rfl⟩ := toMk hE40
    clear hE40
    clear hd39
    refine WP.test (p := (((l[k]!.From) < 0)) ∨ ((¬ ((l[k]!.From) < 0)) ∧ (¬ ((l[k]!.To) = (-1))) ∧ ((l[k]!.To) ≤ (l[k]!.From)))) rfl hb35 (fun h42 => ?_) (fun h42 => ?_)
    · refine WP.seq ?_
      refine WP.pure {} [] [2, 3, 4] [.slice none 0 0, .bool false, .int .i64 1] .nil (by kernel_rfl) (fun b43 => ?_)
      refine thn_n ?_
      refine WP.ret ?_
      refine thn_r ?_
      refine blk_r ?_
      refine thn_r ?_
      refine thn_r ?_
      refine blk_r ?_
      refine thn_r ?_
      refine bodyQ.of _ rfl [.slice none 0 0, .bool false, .int .i64 1] ⟨rfl, rfl, rfl, trivial⟩ ?_
      exact ⟨[], false, 1, none, 0, 0, rfl, .inl ⟨⟨k, by omega, by simp only [okArg]; omega⟩, rfl, rfl, rfl⟩, ((hp38.nil).nilOwn 3 1)⟩
    · refine WP.skip ?_
      refine thn_n ?_
      refine WP.seq ?_
      refine WP.region _ rfl (by kernel_rfl) ?_
      refine OPS.batch 1 {} [GCall.val (l[k]!)] [0, 5, 9, 10, 11, 30] [.slice a l.length cp, .int .i64 ct, .slice a l.length cp, .int .i64 ((l.length : Nat) : Int), .int .i64 (k : Int), GCall.val (l[k]!)] (.cons (show Ld Try.prog w37 41 ⟨g19, 0, none⟩ (GCall.val (l[k]!)) from Ld.rowN (cs := [.int .i64 (l[k]!.Client), .int .i64 (l[k]!.Op), .bool (l[k]!.Put), .string (l[k]!.Key), .slice (l[k]!.Value.a) (l[k]!.Value.n) (l[k]!.Value.c), .int .i64 (l[k]!.Status), .int .i64 (l[k]!.From), .int .i64 (l[k]!.To), .bool (l[k]!.Open), .int .i64 (l[k]!.Tag.Count), .int .i64 (l[k]!.Tag.Client)]) hp38.get0 (by kernel_rfl)) .nil) (by kernel_rfl) (fun b44 => ?_)
      refine OPS.cons (opStep.call (some 31) [GCall.val (l[k]!)] (by kernel_rfl) (sherdref20_part (l[k]!) _) ?_)
      rintro _ w47 ⟨b50, rfl, hb51, hf48⟩
      refine ⟨_, rfl, ?_⟩
      have hp49 := hp38.step hf48
      refine OPS.nil ?_
      refine thn_n ?_
      refine WP.test (p := partC (l[k]!)) rfl hb51 (fun h52 => ?_) (fun h52 => ?_)
      · refine WP.pure {} [] [0, 5, 9, 10, 11] [.slice a l.length cp, .int .i64 (ct + 1), .slice a l.length cp, .int .i64 ((l.length : Nat) : Int), .int .i64 (k : Int)] (.cons (show Rng .i64 (ct + 1) from Rng.i64 (by omega)) .nil) (by kernel_rfl) (fun b53 => ?_)
        refine blk_n ?_
        refine thn_n ?_
        refine WP.pure {} [] [0, 5, 9, 10, 11] [.slice a l.length cp, .int .i64 (ct + 1), .slice a l.length cp, .int .i64 ((l.length : Nat) : Int), .int .i64 ((k : Int) + 1)] (.cons (show Rng .i64 ((k : Int) + 1) from Rng.i64 (by omega)) .nil) (by kernel_rfl) (fun b54 => ?_)
        refine thn_n ?_
        exact ⟨l.length - (k + 1), (by omega), k + 1, ct + 1, rfl, ⟨by omega, cnt_step h2 (.inl ⟨rfl, h52⟩), fun j hj => by rcases Nat.lt_or_ge j k with q | q; exact h3 j q; (obtain rfl : j = k := by omega); simp only [okArg]; omega⟩, by kernel_rfl, (hp49.sub (.cons _ (.slnil)))⟩
      · refine WP.skip ?_
        refine blk_n ?_
        refine thn_n ?_
        refine WP.pure {} [] [0, 5, 9, 10, 11] [.slice a l.length cp, .int .i64 ct, .slice a l.length cp, .int .i64 ((l.length : Nat) : Int), .int .i64 ((k : Int) + 1)] (.cons (show Rng .i64 ((k : Int) + 1) from Rng.i64 (by omega)) .nil) (by kernel_rfl) (fun b55 => ?_)
        refine thn_n ?_
        exact ⟨l.length - (k + 1), (by omega), k + 1, ct, rfl, ⟨by omega, cnt_step h2 (.inr ⟨rfl, h52⟩), fun j hj => by rcases Nat.lt_or_ge j k with q | q; exact h3 j q; (obtain rfl : j = k := by omega); simp only [okArg]; omega⟩, by kernel_rfl, (hp49.sub (.cons _ (.slnil)))⟩
  · refine WP.exit ?_
    refine thn_x ?_
    refine thn_x ?_
    refine blk_hit ?_
    refine thn_n ?_
    refine WP.seq ?_
    refine WP.seq ?_
    refine WP.pure {} [] [0, 36] [.slice a l.length cp, .bool (decide (24 < ct))] .nil (by kernel_rfl) (fun b56 => ?_)
    refine thn_n ?_
    refine WP.test (p := 24 < ct) rfl Bp.dec (fun h57 => ?_) (fun h57 => ?_)
    · refine WP.seq ?_
      refine WP.pure {} [] [2, 3, 4] [.slice none 0 0, .bool false, .int .i64 4] .nil (by kernel_rfl) (fun b58 => ?_)
      refine thn_n ?_
      refine WP.ret ?_
      refine thn_r ?_
      refine bodyQ.of _ rfl [.slice none 0 0, .bool false, .int .i64 4] ⟨rfl, rfl, rfl, trivial⟩ ?_
      exact ⟨[], false, 4, none, 0, 0, rfl, .inr (.inl ⟨fun j hj => h3 j (by omega), (by have hk : k = l.length := (by omega); rw [hk] at h2; omega), rfl, rfl, rfl⟩), ((hp6.nil).nilOwn 3 1)⟩
    · refine WP.skip ?_
      refine thn_n ?_
      refine WP.seq ?_
      refine WP.region _ rfl (by kernel_rfl) ?_
      refine OPS.batch 3 {} [] [37, 39] [.slice a l.length cp, .int .i64 ((l.length : Nat) : Int)] .nil (by kernel_rfl) (fun b59 => ?_)
      refine OPS.cons (opStep.makeSlice (f := (fun y => [.bool y])) (E := 4) (sz := 1) (bytes := 1) (n := l.length) false hp6 (by kernel_rfl) (by decide) (by kernel_rfl) (by omega) (by unfold maxLen; omega) (fun g62 w60 hp61 => ?_))
      refine OPS.batch 1 {} [] [41] [.agg #[.slice a l.length cp, .slice none 0 0, .slice (some ⟨g62, 0, none⟩) l.length l.length]] .nil (by kernel_rfl) (fun b63 => ?_)
      refine OPS.cons (opStep.box hp61 [.slice a l.length cp, .slice none 0 0, .slice (some ⟨g62, 0, none⟩) l.length l.length] (by kernel_rfl) (fun g66 w64 hp65 => ?_))
      refine OPS.batch 1 {} [] [8] [.pointer (some ⟨g66, 0, none⟩)] .nil (by kernel_rfl) (fun b67 => ?_)
      refine OPS.nil ?_
      refine thn_n ?_
      refine WP.seq ?_
      refine WP.seq ?_
      refine WP.region _ rfl (by kernel_rfl) ?_
      refine OPS.batch 1 {} [] [8, 43] [.pointer (some ⟨g66, 0, none⟩), .pointer (some ⟨g66, 0, none⟩)] .nil (by kernel_rfl) (fun b68 => ?_)
      have hp71 := (show Hp w Non [Res.own 3 1 (.slice none 0 0) 0 (List.flatMap (fun (y : Nat) => [Go.Value.int .i64 (y : Int)]) ([] : List Nat)), Res.row g66 [.slice a l.length cp, .slice none 0 0, .slice (some ⟨g62, 0, none⟩) l.length l.length] 114, Res.own 4 1 (.slice (some ⟨g62, 0, none⟩) l.length l.length) l.length (List.flatMap (fun y => [.bool y]) (List.replicate l.length false))] w64 from hp65.nilOwn 3 1)
      have hp72 := hp71.pull2
      have hp73 := hp72.pull1
      have hp74 := hp73.pull2
      have hk : k = l.length := by omega
      have hoks : ∀ j, j < l.length → okArg l[j]! := fun j hj => h3 j (by omega)
      have hct : cntN l l.length ≤ 24 := by rw [hk] at h2; omega
      refine OPS.cons (opStep.call (some 44) [.pointer (some ⟨g66, 0, none⟩)] (by kernel_rfl) (ref_down w g66 l a cp (some ⟨g62, 0, none⟩) l.length l.length hs hv hll _ _ none 0 0 [] (List.replicate l.length false) _ ⟨by simp, fun i hi => by simp [hi], by simp⟩ (by simp) hp74 (Nat.le_refl _)) ?_)
      rintro _ w75 ⟨b77, ao78, no79, co80, pr81, nn82, rfl, hr83, hp76⟩
      refine ⟨_, rfl, ?_⟩
      obtain ⟨hr1, hr2⟩ := hr83
      cases b77
      · refine OPS.batch 1 {} [] [8, 45] [.pointer (some ⟨g66, 0, none⟩), .bool true] .nil (by kernel_rfl) (fun b84 => ?_)
        refine OPS.nil ?_
        refine thn_n ?_
        refine WP.condT rfl ?_
        refine WP.seq ?_
        refine WP.pure {} [] [2, 3, 4] [.slice none 0 0, .bool false, .int .i64 0] .nil (by kernel_rfl) (fun b85 => ?_)
        refine thn_n ?_
        refine WP.ret ?_
        refine thn_r ?_
        refine bodyQ.of _ rfl [.slice none 0 0, .bool false, .int .i64 0] ⟨rfl, rfl, rfl, trivial⟩ ?_
        exact ⟨[], false, 0, none, 0, 0, rfl, .inr (.inr ⟨hoks, hct, rfl, .inr ⟨rfl, rfl, (hr2 rfl).2.2.2⟩⟩), ((hp76.nil).nilOwn 3 1)⟩
      · refine OPS.batch 1 {} [] [8, 45] [.pointer (some ⟨g66, 0, none⟩), .bool false] .nil (by kernel_rfl) (fun b86 => ?_)
        refine OPS.nil ?_
        refine thn_n ?_
        refine WP.condF rfl ?_
        refine WP.skip ?_
        refine thn_n ?_
        refine WP.seq ?_
        refine WP.pure {} [.slice ao78 no79 co80] [2, 3, 4] [.slice ao78 no79 co80, .bool true, .int .i64 0] (.cons (Ld.row1 (P := Try.prog) (t := 36) (o := 1) (v := .slice ao78 no79 co80) hp76.get0 (by kernel_rfl)) .nil) (by kernel_rfl) (fun b87 => ?_)
        refine thn_n ?_
        refine WP.ret ?_
        refine bodyQ.of _ rfl [.slice ao78 no79 co80, .bool true, .int .i64 0] ⟨rfl, rfl, rfl, trivial⟩ ?_
        exact ⟨pr81, true, 0, ao78, no79, co80, rfl, .inr (.inr ⟨hoks, hct, rfl, .inl ⟨rfl, by obtain ⟨p, hp1, hp2⟩ := hr1 rfl; rw [show pr81 = p from by rw [hp2]; rfl]; exact hp1⟩⟩), (hp76.sub (.cons _ (.cons_cons _ (.cons _ (.slnil)))))⟩

end Go.Proofs.Ythdkbbpiaeaojaa.K
