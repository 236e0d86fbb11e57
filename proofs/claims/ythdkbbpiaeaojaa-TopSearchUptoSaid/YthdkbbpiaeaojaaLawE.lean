/- The walks of LawE: what each function computes. -/
import Derived.Test.YthdkbbpiaeaojaaProg
import Derived.Test.YthdkbbpiaeaojaaCoreO
import Derived.Test.YthdkbbpiaeaojaaLawL
namespace Go.Proofs.Ythdkbbpiaeaojaa.K
open Go Go.Proofs Go.RowKit
set_option linter.unusedVariables false
set_option linter.unusedSimpArgs false
set_option maxRecDepth 20000
set_option maxHeartbeats 4000000

def posI (os : List Nat) (i : Nat) : Int := if i ∈ os then (os.idxOf i : Int) else -1
theorem posI_nil (i : Nat) : posI [] i = -1 := rfl
theorem posI_nn {os : List Nat} {i : Nat} : 0 ≤ posI os i ↔ i ∈ os := by unfold posI; split <;> simp_all <;> omega
theorem posI_neg {os : List Nat} {i : Nat} : posI os i < 0 ↔ ¬ i ∈ os := by rw [← posI_nn]; omega
theorem posI_snoc {os : List Nat} {x i : Nat} (h : ¬ x ∈ os) : posI (os ++ [x]) i = if i = x then (os.length : Int) else posI os i := by
  unfold posI
  by_cases hi : i = x
  · subst hi
    simp [List.idxOf_append, h]
  · rw [if_neg hi]
    simp only [List.mem_append, List.mem_singleton, hi, or_false]
    split
    · rename_i hm
      rw [List.idxOf_append, if_pos hm]
    · rfl
theorem set_get {α : Type} [Inhabited α] {l : List α} {i j : Nat} {x : α} (hi : i < l.length) : (l.set i x)[j]! = if j = i then x else l[j]! := by
  rw [List.getElem!_eq_getElem?_getD, List.getElem!_eq_getElem?_getD, List.getElem?_set]
  by_cases h : i = j
  · subst h; simp [hi]
  · have : ¬ j = i := fun e => h e.symm
    simp [h, this]
structure Expl (val : SlH → ByteArray) (l : List GCall) (os : List Nat) : Prop where
  nd : os.Nodup
  mem : ∀ x ∈ os, x < l.length ∧ partC l[x]!
  all : doneA l os
  ord : ∀ i j, i < l.length → j < l.length → mustC l[i]! → 0 ≤ l[i]!.To → l[i]!.To < l[j]!.From → j ∈ os → posI os i ≤ posI os j
  rd : ∀ k, k < os.length → l[os[k]!]!.Put = true ∨ explP val l l[os[k]!]! (lastOf l (os.take k))
def Pre1 (l : List GCall) (os : List Nat) : Prop := os.Nodup ∧ ∀ x ∈ os, x < l.length ∧ partC l[x]!
theorem pre1_step {l : List GCall} {os : List Nat} {k : Nat} (hk : k < os.length) (h : Pre1 l (os.take k)) (h1 : os[k]! < l.length) (h2 : ¬ os[k]! ∈ os.take k) (h3 : partC l[os[k]!]!) : Pre1 l (os.take (k + 1)) := by
  have e : os.take (k + 1) = os.take k ++ [os[k]!] := by rw [List.take_add_one, get_bang hk]; rfl
  rw [e]
  refine ⟨?_, fun x hx => ?_⟩
  · rw [List.nodup_append]
    exact ⟨h.1, by simp, fun a ha b hb e => h2 (by rw [← List.mem_singleton.1 hb, ← e]; exact ha)⟩
  · rcases List.mem_append.1 hx with q | q
    · exact h.2 x q
    · rw [List.mem_singleton.1 q]; exact ⟨h1, h3⟩
theorem pre1_no {val : SlH → ByteArray} {l : List GCall} {os : List Nat} {k : Nat} (hk : k < os.length) (h : Expl val l os) : os[k]! < l.length ∧ ¬ os[k]! ∈ os.take k ∧ partC l[os[k]!]! := by
  have hm : os[k]! ∈ os := List.mem_of_getElem? (get_bang hk)
  refine ⟨(h.mem _ hm).1, fun hh => ?_, (h.mem _ hm).2⟩
  have e : os = os.take k ++ os.drop k := (List.take_append_drop k os).symm
  have hn := h.nd
  rw [e, List.nodup_append] at hn
  refine hn.2.2 _ hh _ ?_ rfl
  have : (os.drop k)[0]? = some os[k]! := by rw [List.getElem?_drop, Nat.add_zero]; exact get_bang hk
  exact List.mem_of_getElem? this
theorem part_may (c : GCall) : partC c ↔ mustC c ∨ (c.Put = true ∧ c.Open = true) := by
  unfold partC mustC
  by_cases h1 : c.Put = true <;> by_cases h2 : c.Open = true <;> simp [h1, h2]
theorem expl_ok {l : List GCall} {os : List Nat} {ay : List Int} {m : Nat} (b4 : ∀ i, i < l.length → ay[i]! = posI (os.take m) i)
    (h : ¬ (((((os[m]! : Nat) : Int) < 0)) ∨ ((¬ (((os[m]! : Nat) : Int) < 0)) ∧ (((l.length : Nat) : Int) ≤ ((os[m]! : Nat) : Int))) ∨ ((¬ (((os[m]! : Nat) : Int) < 0)) ∧ (¬ (((l.length : Nat) : Int) ≤ ((os[m]! : Nat) : Int))) ∧ (0 ≤ (ay[(os[m]!)]!))) ∨ ((¬ (((os[m]! : Nat) : Int) < 0)) ∧ (¬ (((l.length : Nat) : Int) ≤ ((os[m]! : Nat) : Int))) ∧ (¬ (0 ≤ (ay[(os[m]!)]!))) ∧ (¬ (mustC (l[(os[m]!)]!))) ∧ (¬ ((l[(os[m]!)]!).Put = true ∧ (l[(os[m]!)]!).Open = true))))) :
    os[m]! < l.length ∧ ¬ os[m]! ∈ os.take m ∧ partC l[os[m]!]! := by
  have h0 : ¬ ((os[m]! : Nat) : Int) < 0 := by omega
  have h1 : ¬ ((l.length : Nat) : Int) ≤ ((os[m]! : Nat) : Int) := fun q => h (.inr (.inl ⟨h0, q⟩))
  have h2 : ¬ 0 ≤ ay[os[m]!]! := fun q => h (.inr (.inr (.inl ⟨h0, h1, q⟩)))
  refine ⟨by omega, ?_, ?_⟩
  · rw [b4 _ (by omega), posI_nn] at h2; exact h2
  · rw [part_may]
    exact Classical.byContradiction fun q => h (.inr (.inr (.inr ⟨h0, h1, h2, fun z => q (.inl z), fun z => q (.inr z)⟩)))
theorem expl_no {val : SlH → ByteArray} {l : List GCall} {os : List Nat} {ay : List Int} {m : Nat} (hm : m < os.length) (b4 : ∀ i, i < l.length → ay[i]! = posI (os.take m) i)
    (h : ((((os[m]! : Nat) : Int) < 0)) ∨ ((¬ (((os[m]! : Nat) : Int) < 0)) ∧ (((l.length : Nat) : Int) ≤ ((os[m]! : Nat) : Int))) ∨ ((¬ (((os[m]! : Nat) : Int) < 0)) ∧ (¬ (((l.length : Nat) : Int) ≤ ((os[m]! : Nat) : Int))) ∧ (0 ≤ (ay[(os[m]!)]!))) ∨ ((¬ (((os[m]! : Nat) : Int) < 0)) ∧ (¬ (((l.length : Nat) : Int) ≤ ((os[m]! : Nat) : Int))) ∧ (¬ (0 ≤ (ay[(os[m]!)]!))) ∧ (¬ (mustC (l[(os[m]!)]!))) ∧ (¬ ((l[(os[m]!)]!).Put = true ∧ (l[(os[m]!)]!).Open = true)))) :
    ¬ Expl val l os := fun he => by
  obtain ⟨e1, e2, e3⟩ := pre1_no hm he
  rcases h with h | ⟨_, h⟩ | ⟨_, _, h⟩ | ⟨_, _, _, h1, h2⟩
  · omega
  · omega
  · rw [b4 _ e1, posI_nn] at h; exact e2 h
  · rcases (part_may _).1 e3 with q | q
    · exact h1 q
    · exact h2 q
theorem read_iff {val : SlH → ByteArray} {l : List GCall} {c : GCall} {la : Int} (hp : partC c) (hn : ¬ c.Put = true) (hla : la < (l.length : Int)) : explP val l c la ↔ ¬ (c.Status = 76 ∧ 0 ≤ la) ∧ ¬ ((c.Status = 0 ∧ la < 0) ∨ (c.Status = 0 ∧ (¬ la < 0) ∧ ¬ (val l[(la : Int).toNat]!.Value = val c.Value))) := by
  have hs : c.Status = 0 ∨ c.Status = 76 := by
    unfold partC mustC at hp
    rcases hp with (h | h) | h
    · exact absurd h.1 hn
    · exact h.2.2
    · exact absurd h hn
  unfold explP
  rcases hs with h | h
  · rw [if_neg (by omega)]
    by_cases h0 : 0 ≤ la
    · have : ¬ la < 0 := by omega
      have h76 : ¬ (0 : Int) = 76 := by decide
      rw [get_bang (show la.toNat < l.length by omega)]
      simp [h, h0, this, h76]
    · have : la < 0 := by omega
      simp [h, h0, this]
  · rw [if_pos h]
    have h76 : ¬ (76 : Int) = 0 := by decide
    simp only [h, h76, false_and, or_self, not_false_eq_true, and_true, true_and]
    omega
theorem take_snoc_get {os : List Nat} {k : Nat} (hk : k < os.length) : os.take (k + 1) = os.take k ++ [os[k]!] := by rw [List.take_add_one, get_bang hk]; rfl

theorem law20_must (c : GCall) (w : World) :
    Calls Try.prog 80 #[GCall.val c] w (fun r_ w' => ∃ f_, r_ = .returned (.bool f_) ∧ Bp f_ (mustC c) ∧ Fram Non w w') := by
  refine calls_of Try.func80 rfl 21 rfl (by simp) ?_
  have hp0 := Hp.init w
  have he0 : List.map (env0 [GCall.val c]) [0] = [GCall.val c] := by kernel_rfl
  obtain ⟨b0, he0⟩ := toMk he0
  rw [he0]
  clear he0
  refine WP.seq ?_
  refine WP.region _ rfl (by kernel_rfl) ?_
  refine OPS.cons (opStep.box hp0 [.int .i64 c.Client, .int .i64 c.Op, .bool c.Put, .string c.Key, .slice c.Value.a c.Value.n c.Value.c, .int .i64 c.Status, .int .i64 c.From, .int .i64 c.To, .bool c.Open, .int .i64 c.Tag.Count, .int .i64 c.Tag.Client] (by kernel_rfl) (fun g3 w1 hp2 => ?_))
  refine OPS.batch 1 {} [] [1] [.pointer (some ⟨g3, 0, none⟩)] .nil (by kernel_rfl) (fun b4 => ?_)
  refine OPS.nil ?_
  refine thn_n ?_
  refine WP.seq ?_
  refine WP.seq ?_
  refine WP.pure {} [.bool c.Put] [1, 4] [.pointer (some ⟨g3, 0, none⟩), .bool c.Put] (.cons (Ld.row1 (P := Try.prog) (t := 4) (o := 2) (v := .bool c.Put) hp2.get0 (by kernel_rfl)) .nil) (by kernel_rfl) (fun b5 => ?_)
  refine thn_n ?_
  refine WP.test (p := c.Put = true) rfl Bp.var (fun h6 => ?_) (fun h6 => ?_)
  · refine WP.seq ?_
    refine WP.pure {} [.bool c.Open] [2] [.bool (!c.Open)] (.cons (Ld.row1 (P := Try.prog) (t := 4) (o := 8) (v := .bool c.Open) hp2.get0 (by kernel_rfl)) .nil) (by kernel_rfl) (fun b7 => ?_)
    refine thn_n ?_
    refine WP.ret ?_
    refine thn_r ?_
    refine bodyQ.of _ rfl [.bool (!c.Open)] ⟨rfl, trivial⟩ ?_
    exact ⟨_, rfl, Bp.of (Bp.not Bp.var) (by first | (simp only [mustC]; done) | (simp only [mustC]; simp_all; done) | (simp only [mustC]; simp_all; omega)), hp2.fr⟩
  · refine WP.skip ?_
    refine thn_n ?_
    refine WP.cut (fun e22 w23 => ∃ (x20 : Bool), (True) ∧ Bp x20 (((0 ≤ c.To) ∧ (c.Status = 0)) ∨ ((0 ≤ c.To) ∧ (¬ (c.Status = 0)) ∧ (c.Status = 76))) ∧ List.map e22 [2] = [.bool x20] ∧ Hp w Non [Res.row g3 [.int .i64 c.Client, .int .i64 c.Op, .bool c.Put, .string c.Key, .slice c.Value.a c.Value.n c.Value.c, .int .i64 c.Status, .int .i64 c.From, .int .i64 c.To, .bool c.Open, .int .i64 c.Tag.Count, .int .i64 c.Tag.Client] 41] w23) ?_ ?_
    · refine WP.region _ rfl (by kernel_rfl) ?_
      refine OPS.batch 4 {} [.int .i64 c.To] [1, 11] [.pointer (some ⟨g3, 0, none⟩), .bool (decide (0 ≤ c.To))] (.cons (Ld.row1 (P := Try.prog) (t := 3) (o := 7) (v := .int .i64 c.To) hp2.get0 (by kernel_rfl)) .nil) (by kernel_rfl) (fun b9 => ?_)
      by_cases h10 : 0 ≤ c.To
      · refine OPS.batch 0 {} [] [1, 11] [.pointer (some ⟨g3, 0, none⟩), .bool (decide (0 ≤ c.To))] .nil (by kernel_rfl) (fun b11 => ?_)
        refine OPS.re [.pointer (some ⟨g3, 0, none⟩), .bool true] (by rw [show (decide (0 ≤ c.To)) = true from Bp.dec.tt h10]) ?_
        refine OPS.batch 4 {} [.int .i64 c.Status] [1, 11, 15] [.pointer (some ⟨g3, 0, none⟩), .bool true, .bool (decide (c.Status = 0))] (.cons (Ld.row1 (P := Try.prog) (t := 27) (o := 5) (v := .int .i64 c.Status) hp2.get0 (by kernel_rfl)) .nil) (by kernel_rfl) (fun b12 => ?_)
        by_cases h13 : c.Status = 0
        · refine OPS.batch 0 {} [] [1, 11, 15] [.pointer (some ⟨g3, 0, none⟩), .bool true, .bool (decide (c.Status = 0))] .nil (by kernel_rfl) (fun b14 => ?_)
          refine OPS.re [.pointer (some ⟨g3, 0, none⟩), .bool true, .bool true] (by rw [show (decide (c.Status = 0)) = true from Bp.dec.tt h13]) ?_
          refine OPS.batch 6 { wraps := [19, 20] } [] [2] [.bool true] .nil (by kernel_rfl) (fun b15 => ?_)
          refine OPS.nil ?_
          refine thn_n ?_
          exact ⟨true, trivial, Bp.of Bp.t (by first | (simp only [h10, h13, iff_false, false_iff, iff_true, true_iff, Classical.not_not, and_true, true_and, and_false, false_and, or_true, true_or, or_false, false_or, not_true_eq_false, not_false_eq_true, and_self, or_self, iff_self]; done) | (simp [h10, h13]; done) | simp_all), by kernel_rfl, hp2⟩
        · refine OPS.batch 0 {} [] [1, 11, 15] [.pointer (some ⟨g3, 0, none⟩), .bool true, .bool (decide (c.Status = 0))] .nil (by kernel_rfl) (fun b16 => ?_)
          refine OPS.re [.pointer (some ⟨g3, 0, none⟩), .bool true, .bool false] (by rw [show (decide (c.Status = 0)) = false from Bp.dec.ff h13]) ?_
          refine OPS.batch 6 { wraps := [19, 20] } [.int .i64 c.Status] [2] [.bool (decide (c.Status = 76))] (.cons (Ld.row1 (P := Try.prog) (t := 27) (o := 5) (v := .int .i64 c.Status) hp2.get0 (by kernel_rfl)) .nil) (by kernel_rfl) (fun b17 => ?_)
          refine OPS.nil ?_
          refine thn_n ?_
          exact ⟨decide (c.Status = 76), trivial, Bp.of Bp.dec (by first | (simp only [h10, h13, iff_false, false_iff, iff_true, true_iff, Classical.not_not, and_true, true_and, and_false, false_and, or_true, true_or, or_false, false_or, not_true_eq_false, not_false_eq_true, and_self, or_self, iff_self]; done) | (simp [h10, h13]; done) | simp_all), by kernel_rfl, hp2⟩
      · refine OPS.batch 0 {} [] [1, 11] [.pointer (some ⟨g3, 0, none⟩), .bool (decide (0 ≤ c.To))] .nil (by kernel_rfl) (fun b18 => ?_)
        refine OPS.re [.pointer (some ⟨g3, 0, none⟩), .bool false] (by rw [show (decide (0 ≤ c.To)) = false from Bp.dec.ff h10]) ?_
        refine OPS.batch 10 { wraps := [20] } [] [2] [.bool false] .nil (by kernel_rfl) (fun b19 => ?_)
        refine OPS.nil ?_
        refine thn_n ?_
        exact ⟨false, trivial, Bp.of Bp.f (by first | (simp only [h10, iff_false, false_iff, iff_true, true_iff, Classical.not_not, and_true, true_and, and_false, false_and, or_true, true_or, or_false, false_or, not_true_eq_false, not_false_eq_true, and_self, or_self, iff_self]; done) | (simp [h10]; done) | simp_all), by kernel_rfl, hp2⟩
    rintro e22 w23 ⟨x20, hd25, hb21, hE26, hp24⟩
    obtain ⟨b27, rfl⟩ := toMk hE26
    clear hE26
    clear hd25
    refine WP.ret ?_
    refine bodyQ.of _ rfl [.bool x20] ⟨rfl, trivial⟩ ?_
    exact ⟨_, rfl, Bp.of hb21 (by first | (simp only [mustC]; done) | (simp only [mustC]; simp_all; done) | (simp only [mustC]; simp_all; omega)), hp24.fr⟩

theorem law20_may (c : GCall) (w : World) :
    Calls Try.prog 81 #[GCall.val c] w (fun r_ w' => ∃ f_, r_ = .returned (.bool f_) ∧ Bp f_ (c.Put = true ∧ c.Open = true) ∧ Fram Non w w') := by
  refine calls_of Try.func81 rfl 9 rfl (by simp) ?_
  have hp0 := Hp.init w
  have he0 : List.map (env0 [GCall.val c]) [0] = [GCall.val c] := by kernel_rfl
  obtain ⟨b0, he0⟩ := toMk he0
  rw [he0]
  clear he0
  refine WP.seq ?_
  refine WP.region _ rfl (by kernel_rfl) ?_
  refine OPS.cons (opStep.box hp0 [.int .i64 c.Client, .int .i64 c.Op, .bool c.Put, .string c.Key, .slice c.Value.a c.Value.n c.Value.c, .int .i64 c.Status, .int .i64 c.From, .int .i64 c.To, .bool c.Open, .int .i64 c.Tag.Count, .int .i64 c.Tag.Client] (by kernel_rfl) (fun g3 w1 hp2 => ?_))
  refine OPS.batch 1 {} [] [1] [.pointer (some ⟨g3, 0, none⟩)] .nil (by kernel_rfl) (fun b4 => ?_)
  refine OPS.nil ?_
  refine thn_n ?_
  refine WP.cut (fun e14 w15 => ∃ (x12 : Bool), (True) ∧ Bp x12 ((c.Put = true) ∧ (c.Open = true)) ∧ List.map e14 [2] = [.bool x12] ∧ Hp w Non [Res.row g3 [.int .i64 c.Client, .int .i64 c.Op, .bool c.Put, .string c.Key, .slice c.Value.a c.Value.n c.Value.c, .int .i64 c.Status, .int .i64 c.From, .int .i64 c.To, .bool c.Open, .int .i64 c.Tag.Count, .int .i64 c.Tag.Client] 41] w15) ?_ ?_
  · refine WP.region _ rfl (by kernel_rfl) ?_
    refine OPS.batch 3 {} [.bool c.Put] [1, 5] [.pointer (some ⟨g3, 0, none⟩), .bool c.Put] (.cons (Ld.row1 (P := Try.prog) (t := 4) (o := 2) (v := .bool c.Put) hp2.get0 (by kernel_rfl)) .nil) (by kernel_rfl) (fun b6 => ?_)
    by_cases h7 : c.Put = true
    · refine OPS.batch 0 {} [] [1, 5] [.pointer (some ⟨g3, 0, none⟩), .bool c.Put] .nil (by kernel_rfl) (fun b8 => ?_)
      refine OPS.re [.pointer (some ⟨g3, 0, none⟩), .bool true] (by rw [show c.Put = true from Bp.var.tt h7]) ?_
      refine OPS.batch 4 { wraps := [8] } [.bool c.Open] [2] [.bool c.Open] (.cons (Ld.row1 (P := Try.prog) (t := 4) (o := 8) (v := .bool c.Open) hp2.get0 (by kernel_rfl)) .nil) (by kernel_rfl) (fun b9 => ?_)
      refine OPS.nil ?_
      refine thn_n ?_
      exact ⟨c.Open, trivial, Bp.of Bp.var (by first | (simp only [h7, iff_false, false_iff, iff_true, true_iff, Classical.not_not, and_true, true_and, and_false, false_and, or_true, true_or, or_false, false_or, not_true_eq_false, not_false_eq_true, and_self, or_self, iff_self]; done) | (simp [h7]; done) | simp_all), by kernel_rfl, hp2⟩
    · refine OPS.batch 0 {} [] [1, 5] [.pointer (some ⟨g3, 0, none⟩), .bool c.Put] .nil (by kernel_rfl) (fun b10 => ?_)
      refine OPS.re [.pointer (some ⟨g3, 0, none⟩), .bool false] (by rw [show c.Put = false from Bp.var.ff h7]) ?_
      refine OPS.batch 4 { wraps := [8] } [] [2] [.bool false] .nil (by kernel_rfl) (fun b11 => ?_)
      refine OPS.nil ?_
      refine thn_n ?_
      exact ⟨false, trivial, Bp.of Bp.f (by first | (simp only [h7, iff_false, false_iff, iff_true, true_iff, Classical.not_not, and_true, true_and, and_false, false_and, or_true, true_or, or_false, false_or, not_true_eq_false, not_false_eq_true, and_self, or_self, iff_self]; done) | (simp [h7]; done) | simp_all), by kernel_rfl, hp2⟩
  rintro e14 w15 ⟨x12, hd17, hb13, hE18, hp16⟩
  obtain ⟨b19, rfl⟩ := toMk hE18
  clear hE18
  clear hd17
  refine WP.ret ?_
  refine bodyQ.of _ rfl [.bool x12] ⟨rfl, trivial⟩ ?_
  exact ⟨_, rfl, Bp.of hb13 (by first | rfl | simp_all), hp16.fr⟩

theorem law20_explains (l : List GCall) (a : Option Addr) (cp : Nat) (os : List Nat) (ao : Option Addr) (no co : Nat) (w : World) (hs : SlR w a l.length (l.flatMap GCall.cells)) (hv : ∀ x ∈ l, VB w x.Value) (hll : l.length ≤ 8796093022207) (h2 : SlR w ao no (List.flatMap (fun (y : Nat) => [Go.Value.int .i64 (y : Int)]) os)) (hno : os.length = no) (hol : no ≤ 8796093022207) :
    Calls Try.prog 27 #[.slice a l.length cp, .slice ao no co] w (fun r_ w' => ∃ f_, r_ = .returned (.bool f_) ∧ Bp f_ (Expl (valAt w) l os) ∧ Fram Non w w') := by
  refine calls_of Try.func27 rfl 182 rfl (by simp) ?_
  have hp0 := Hp.init w
  have he0 : List.map (env0 [.slice a l.length cp, .slice ao no co]) [0, 1] = [.slice a l.length cp, .slice ao no co] := by kernel_rfl
  obtain ⟨b0, he0⟩ := toMk he0
  rw [he0]
  clear he0
  refine WP.seq ?_
  refine WP.pure {} [] [0, 1] [.slice a l.length cp, .slice ao no co] .nil (by kernel_rfl) (fun b1 => ?_)
  refine thn_n ?_
  refine WP.seq ?_
  refine WP.region _ rfl (by kernel_rfl) ?_
  refine OPS.batch 2 {} [] [0, 1, 20] [.slice a l.length cp, .slice ao no co, .int .i64 ((l.length : Nat) : Int)] .nil (by kernel_rfl) (fun b2 => ?_)
  refine OPS.cons (opStep.makeSlice (f := (fun y => [.int .i64 y])) (E := 3) (sz := 1) (bytes := 8) (n := l.length) (0 : Int) hp0 (by kernel_rfl) (by decide) (by kernel_rfl) (by omega) (by unfold maxLen; omega) (fun g5 w3 hp4 => ?_))
  refine OPS.batch 1 {} [] [0, 1, 5] [.slice a l.length cp, .slice ao no co, .slice (some ⟨g5, 0, none⟩) l.length l.length] .nil (by kernel_rfl) (fun b6 => ?_)
  refine OPS.nil ?_
  refine thn_n ?_
  refine WP.seq ?_
  refine WP.seq ?_
  refine WP.pure {} [] [0, 1, 5, 23, 24] [.slice a l.length cp, .slice ao no co, .slice (some ⟨g5, 0, none⟩) l.length l.length, .int .i64 ((l.length : Nat) : Int), .int .i64 0] .nil (by kernel_rfl) (fun b7 => ?_)
  refine thn_n ?_
  refine WP.block ?_
  refine WP.loop (fun mz_ e8 w9 => ∃ (k : Nat) (az : List Int), mz_ = l.length - k ∧ (k ≤ l.length ∧ az.length = l.length ∧ ∀ i, i < k → az[i]! = -1) ∧ List.map e8 [0, 1, 5, 23, 24] = [.slice a l.length cp, .slice ao no co, .slice (some ⟨g5, 0, none⟩) l.length l.length, .int .i64 ((l.length : Nat) : Int), .int .i64 (k : Int)] ∧ Hp w Non [Res.own 3 1 (.slice (some ⟨g5, 0, none⟩) l.length l.length) l.length (List.flatMap (fun y => [.int .i64 y]) az)] w9) (l.length - (0)) ⟨0, List.replicate l.length 0, rfl, ⟨by omega, by simp, fun i hi => by omega⟩, by kernel_rfl, hp4⟩ ?_
  rintro _ e8 w9 ⟨k, az, rfl, hI11, hE12, hp10⟩
  obtain ⟨b13, rfl⟩ := toMk hE12
  clear hE12
  obtain ⟨a1, a2, a3⟩ := hI11
  refine WP.seq ?_
  refine WP.pure {} [] [0, 1, 5, 23, 24, 25] [.slice a l.length cp, .slice ao no co, .slice (some ⟨g5, 0, none⟩) l.length l.length, .int .i64 ((l.length : Nat) : Int), .int .i64 (k : Int), .bool (decide ((k : Int) < ((l.length : Nat) : Int)))] .nil (by kernel_rfl) (fun b14 => ?_)
  refine thn_n ?_
  refine WP.seq ?_
  refine WP.test (p := (k : Int) < ((l.length : Nat) : Int)) rfl Bp.dec (fun h15 => ?_) (fun h15 => ?_)
  · refine WP.skip ?_
    refine thn_n ?_
    refine WP.seq ?_
    refine WP.block ?_
    refine WP.seq ?_
    refine WP.pure {} [] [0, 1, 5, 6, 23, 24] [.slice a l.length cp, .slice ao no co, .slice (some ⟨g5, 0, none⟩) l.length l.length, .int .i64 (k : Int), .int .i64 ((l.length : Nat) : Int), .int .i64 (k : Int)] .nil (by kernel_rfl) (fun b16 => ?_)
    refine thn_n ?_
    refine WP.region _ rfl (by kernel_rfl) ?_
    refine OPS.batch 3 {} [] [0, 1, 5, 23, 24, 29] [.slice a l.length cp, .slice ao no co, .slice (some ⟨g5, 0, none⟩) l.length l.length, .int .i64 ((l.length : Nat) : Int), .int .i64 (k : Int), .pointer (some ((adr (some ⟨g5, 0, none⟩)).add (k * 1)))] (.cons (show InB ((k : Int)) (l.length) from ⟨by omega, by omega⟩) (.cons ((SlR.own (hp10.get0)).some (by omega)) .nil)) (by kernel_rfl) (fun b17 => ?_)
    have := own_flat (sz := 1) (fun _ => rfl) (by decide) hp10.get0
    try simp only [List.length_set] at this
    refine OPS.cons (opStep.storeOwn0 (k * 1) hp10 rfl [.int .i64 (-1)] (by kernel_rfl) (by simp) (show k * 1 + 1 ≤ l.length * 1 by omega) (fun w18 hp19 => ?_))
    have hp20 := hp19
    rw [show ow (List.flatMap (fun y => [.int .i64 y]) az) (k * 1) [.int .i64 (-1)] = List.flatMap (fun y => [.int .i64 y]) (az.set k (-1)) from ow_flat (sz := 1) (fun _ => rfl) (by first | (omega) | (simp only [List.length_set]; omega)) (-1)] at hp20
    refine OPS.nil ?_
    refine blk_n ?_
    refine thn_n ?_
    refine WP.pure {} [] [0, 1, 5, 23, 24] [.slice a l.length cp, .slice ao no co, .slice (some ⟨g5, 0, none⟩) l.length l.length, .int .i64 ((l.length : Nat) : Int), .int .i64 ((k : Int) + 1)] (.cons (show Rng .i64 ((k : Int) + 1) from Rng.i64 (by omega)) .nil) (by kernel_rfl) (fun b21 => ?_)
    refine thn_n ?_
    exact ⟨l.length - (k + 1), (by omega), k + 1, az.set k (-1), rfl, ⟨by omega, by simp [a2], fun i hi => by rw [set_get (by omega)]; split; rfl; exact a3 i (by omega)⟩, by kernel_rfl, hp20⟩
  · refine WP.exit ?_
    refine thn_x ?_
    refine thn_x ?_
    refine blk_hit ?_
    refine thn_n ?_
    refine WP.seq ?_
    refine WP.seq ?_
    refine WP.pure {} [] [0, 1, 5, 31, 32, 33] [.slice a l.length cp, .slice ao no co, .slice (some ⟨g5, 0, none⟩) l.length l.length, .slice ao no co, .int .i64 ((no : Nat) : Int), .int .i64 0] .nil (by kernel_rfl) (fun b22 => ?_)
    refine thn_n ?_
    refine WP.block ?_
    refine WP.loop (fun mz_ e23 w24 => ∃ (m : Nat) (ay : List Int), mz_ = os.length - m ∧ (m ≤ os.length ∧ ay.length = l.length ∧ Pre1 l (os.take m) ∧ ∀ i, i < l.length → ay[i]! = posI (os.take m) i) ∧ List.map e23 [0, 1, 5, 31, 32, 33] = [.slice a l.length cp, .slice ao no co, .slice (some ⟨g5, 0, none⟩) l.length l.length, .slice ao no co, .int .i64 ((no : Nat) : Int), .int .i64 (m : Int)] ∧ Hp w Non [Res.own 3 1 (.slice (some ⟨g5, 0, none⟩) l.length l.length) l.length (List.flatMap (fun y => [.int .i64 y]) ay)] w24) (os.length - (0)) ⟨0, az, rfl, ⟨by omega, a2, ⟨by simp, by simp⟩, fun i hi => a3 i (by omega)⟩, by kernel_rfl, hp10⟩ ?_
    rintro _ e23 w24 ⟨m, ay, rfl, hI26, hE27, hp25⟩
    obtain ⟨b28, rfl⟩ := toMk hE27
    clear hE27
    obtain ⟨b1, b2, b3, b4⟩ := hI26
    refine WP.seq ?_
    refine WP.pure {} [] [0, 1, 5, 31, 32, 33, 34] [.slice a l.length cp, .slice ao no co, .slice (some ⟨g5, 0, none⟩) l.length l.length, .slice ao no co, .int .i64 ((no : Nat) : Int), .int .i64 (m : Int), .bool (decide ((m : Int) < ((no : Nat) : Int)))] .nil (by kernel_rfl) (fun b29 => ?_)
    refine thn_n ?_
    refine WP.seq ?_
    refine WP.test (p := (m : Int) < ((no : Nat) : Int)) rfl Bp.dec (fun h30 => ?_) (fun h30 => ?_)
    · refine WP.skip ?_
      refine thn_n ?_
      refine WP.seq ?_
      refine WP.block ?_
      refine WP.seq ?_
      have hy32 : (os)[m]? = some os[m]! := get_bang (by first | (omega) | (simp only [List.length_append, List.length_cons, List.length_nil]; omega))
      refine WP.pure {} [.int .i64 ((os[m]! : Nat) : Int)] [0, 1, 5, 7, 8, 31, 32, 33] [.slice a l.length cp, .slice ao no co, .slice (some ⟨g5, 0, none⟩) l.length l.length, .int .i64 (m : Int), .int .i64 ((os[m]! : Nat) : Int), .slice ao no co, .int .i64 ((no : Nat) : Int), .int .i64 (m : Int)] (.cons (show InB ((m : Int)) (no) from ⟨by omega, by omega⟩) (.cons ((h2.at hp25).some (by omega)) (.cons (Ld.add0 (Ld.el1 (P := Try.prog) (t := 3) (h2.at hp25).rd 1 (fun _ => rfl) hy32 (o := 0) (v := .int .i64 ((os[m]! : Nat) : Int)) (by kernel_rfl))) .nil))) (by kernel_rfl) (fun b33 => ?_)
      refine thn_n ?_
      refine WP.seq ?_
      refine WP.cut (fun e78 w79 => ∃ (x76 : Bool), (True) ∧ Bp x76 (((((os[m]! : Nat) : Int) < 0)) ∨ ((¬ (((os[m]! : Nat) : Int) < 0)) ∧ (((l.length : Nat) : Int) ≤ ((os[m]! : Nat) : Int))) ∨ ((¬ (((os[m]! : Nat) : Int) < 0)) ∧ (¬ (((l.length : Nat) : Int) ≤ ((os[m]! : Nat) : Int))) ∧ (0 ≤ (ay[(os[m]!)]!))) ∨ ((¬ (((os[m]! : Nat) : Int) < 0)) ∧ (¬ (((l.length : Nat) : Int) ≤ ((os[m]! : Nat) : Int))) ∧ (¬ (0 ≤ (ay[(os[m]!)]!))) ∧ (¬ (mustC (l[(os[m]!)]!))) ∧ (¬ ((l[(os[m]!)]!).Put = true ∧ (l[(os[m]!)]!).Open = true)))) ∧ List.map e78 [0, 1, 5, 7, 8, 31, 32, 33, 68] = [.slice a l.length cp, .slice ao no co, .slice (some ⟨g5, 0, none⟩) l.length l.length, .int .i64 (m : Int), .int .i64 ((os[m]! : Nat) : Int), .slice ao no co, .int .i64 ((no : Nat) : Int), .int .i64 (m : Int), .bool x76] ∧ Hp w Non [Res.own 3 1 (.slice (some ⟨g5, 0, none⟩) l.length l.length) l.length (List.flatMap (fun y => [.int .i64 y]) ay)] w79) ?_ ?_
      · refine WP.region _ rfl (by kernel_rfl) ?_
        refine OPS.batch 3 {} [] [0, 1, 5, 7, 8, 31, 32, 33, 40] [.slice a l.length cp, .slice ao no co, .slice (some ⟨g5, 0, none⟩) l.length l.length, .int .i64 (m : Int), .int .i64 ((os[m]! : Nat) : Int), .slice ao no co, .int .i64 ((no : Nat) : Int), .int .i64 (m : Int), .bool (decide (((os[m]! : Nat) : Int) < 0))] .nil (by kernel_rfl) (fun b35 => ?_)
        by_cases h36 : ((os[m]! : Nat) : Int) < 0
        · refine OPS.batch 0 {} [] [0, 1, 5, 7, 8, 31, 32, 33, 40] [.slice a l.length cp, .slice ao no co, .slice (some ⟨g5, 0, none⟩) l.length l.length, .int .i64 (m : Int), .int .i64 ((os[m]! : Nat) : Int), .slice ao no co, .int .i64 ((no : Nat) : Int), .int .i64 (m : Int), .bool (decide (((os[m]! : Nat) : Int) < 0))] .nil (by kernel_rfl) (fun b37 => ?_)
          refine OPS.re [.slice a l.length cp, .slice ao no co, .slice (some ⟨g5, 0, none⟩) l.length l.length, .int .i64 (m : Int), .int .i64 ((os[m]! : Nat) : Int), .slice ao no co, .int .i64 ((no : Nat) : Int), .int .i64 (m : Int), .bool true] (by rw [show (decide (((os[m]! : Nat) : Int) < 0)) = true from Bp.dec.tt h36]) ?_
          refine OPS.batch 28 { wraps := [45, 52, 68] } [] [0, 1, 5, 7, 8, 31, 32, 33, 68] [.slice a l.length cp, .slice ao no co, .slice (some ⟨g5, 0, none⟩) l.length l.length, .int .i64 (m : Int), .int .i64 ((os[m]! : Nat) : Int), .slice ao no co, .int .i64 ((no : Nat) : Int), .int .i64 (m : Int), .bool true] .nil (by kernel_rfl) (fun b38 => ?_)
          refine OPS.nil ?_
          refine thn_n ?_
          exact ⟨true, trivial, Bp.of Bp.t (by first | (simp only [h36, iff_false, false_iff, iff_true, true_iff, Classical.not_not, and_true, true_and, and_false, false_and, or_true, true_or, or_false, false_or, not_true_eq_false, not_false_eq_true, and_self, or_self, iff_self]; done) | (simp [h36]; done) | simp_all), by kernel_rfl, hp25⟩
        · refine OPS.batch 0 {} [] [0, 1, 5, 7, 8, 31, 32, 33, 40] [.slice a l.length cp, .slice ao no co, .slice (some ⟨g5, 0, none⟩) l.length l.length, .int .i64 (m : Int), .int .i64 ((os[m]! : Nat) : Int), .slice ao no co, .int .i64 ((no : Nat) : Int), .int .i64 (m : Int), .bool (decide (((os[m]! : Nat) : Int) < 0))] .nil (by kernel_rfl) (fun b39 => ?_)
          refine OPS.re [.slice a l.length cp, .slice ao no co, .slice (some ⟨g5, 0, none⟩) l.length l.length, .int .i64 (m : Int), .int .i64 ((os[m]! : Nat) : Int), .slice ao no co, .int .i64 ((no : Nat) : Int), .int .i64 (m : Int), .bool false] (by rw [show (decide (((os[m]! : Nat) : Int) < 0)) = false from Bp.dec.ff h36]) ?_
          refine OPS.batch 6 { wraps := [45] } [] [0, 1, 5, 7, 8, 31, 32, 33, 46] [.slice a l.length cp, .slice ao no co, .slice (some ⟨g5, 0, none⟩) l.length l.length, .int .i64 (m : Int), .int .i64 ((os[m]! : Nat) : Int), .slice ao no co, .int .i64 ((no : Nat) : Int), .int .i64 (m : Int), .bool (decide (((l.length : Nat) : Int) ≤ ((os[m]! : Nat) : Int)))] .nil (by kernel_rfl) (fun b40 => ?_)
          by_cases h41 : ((l.length : Nat) : Int) ≤ ((os[m]! : Nat) : Int)
          · refine OPS.batch 0 {} [] [0, 1, 5, 7, 8, 31, 32, 33, 46] [.slice a l.length cp, .slice ao no co, .slice (some ⟨g5, 0, none⟩) l.length l.length, .int .i64 (m : Int), .int .i64 ((os[m]! : Nat) : Int), .slice ao no co, .int .i64 ((no : Nat) : Int), .int .i64 (m : Int), .bool (decide (((l.length : Nat) : Int) ≤ ((os[m]! : Nat) : Int)))] .nil (by kernel_rfl) (fun b42 => ?_)
            refine OPS.re [.slice a l.length cp, .slice ao no co, .slice (some ⟨g5, 0, none⟩) l.length l.length, .int .i64 (m : Int), .int .i64 ((os[m]! : Nat) : Int), .slice ao no co, .int .i64 ((no : Nat) : Int), .int .i64 (m : Int), .bool true] (by rw [show (decide (((l.length : Nat) : Int) ≤ ((os[m]! : Nat) : Int))) = true from Bp.dec.tt h41]) ?_
            refine OPS.batch 22 { wraps := [52, 68] } [] [0, 1, 5, 7, 8, 31, 32, 33, 68] [.slice a l.length cp, .slice ao no co, .slice (some ⟨g5, 0, none⟩) l.length l.length, .int .i64 (m : Int), .int .i64 ((os[m]! : Nat) : Int), .slice ao no co, .int .i64 ((no : Nat) : Int), .int .i64 (m : Int), .bool true] .nil (by kernel_rfl) (fun b43 => ?_)
            refine OPS.nil ?_
            refine thn_n ?_
            exact ⟨true, trivial, Bp.of Bp.t (by first | (simp only [h36, h41, iff_false, false_iff, iff_true, true_iff, Classical.not_not, and_true, true_and, and_false, false_and, or_true, true_or, or_false, false_or, not_true_eq_false, not_false_eq_true, and_self, or_self, iff_self]; done) | (simp [h36, h41]; done) | simp_all), by kernel_rfl, hp25⟩
          · refine OPS.batch 0 {} [] [0, 1, 5, 7, 8, 31, 32, 33, 46] [.slice a l.length cp, .slice ao no co, .slice (some ⟨g5, 0, none⟩) l.length l.length, .int .i64 (m : Int), .int .i64 ((os[m]! : Nat) : Int), .slice ao no co, .int .i64 ((no : Nat) : Int), .int .i64 (m : Int), .bool (decide (((l.length : Nat) : Int) ≤ ((os[m]! : Nat) : Int)))] .nil (by kernel_rfl) (fun b44 => ?_)
            refine OPS.re [.slice a l.length cp, .slice ao no co, .slice (some ⟨g5, 0, none⟩) l.length l.length, .int .i64 (m : Int), .int .i64 ((os[m]! : Nat) : Int), .slice ao no co, .int .i64 ((no : Nat) : Int), .int .i64 (m : Int), .bool false] (by rw [show (decide (((l.length : Nat) : Int) ≤ ((os[m]! : Nat) : Int))) = false from Bp.dec.ff h41]) ?_
            have := own_flat (sz := 1) (fun _ => rfl) (by decide) hp25.get0
            have hy46 : (ay)[(os[m]!)]? = some ay[(os[m]!)]! := get_bang (by first | (omega) | (simp only [List.length_append, List.length_cons, List.length_nil]; omega))
            refine OPS.batch 7 { wraps := [52] } [.int .i64 (ay[(os[m]!)]!)] [0, 1, 5, 7, 8, 31, 32, 33, 53] [.slice a l.length cp, .slice ao no co, .slice (some ⟨g5, 0, none⟩) l.length l.length, .int .i64 (m : Int), .int .i64 ((os[m]! : Nat) : Int), .slice ao no co, .int .i64 ((no : Nat) : Int), .int .i64 (m : Int), .bool (decide (0 ≤ (ay[(os[m]!)]!)))] (.cons (show InB (((os[m]! : Nat) : Int)) (l.length) from ⟨by omega, by omega⟩) (.cons ((SlR.own (hp25.get0)).some (by omega)) (.cons (Ld.add0 (Ld.el1 (P := Try.prog) (t := 3) (SlR.own (hp25.get0)).rd 1 (fun _ => rfl) hy46 (o := 0) (v := .int .i64 (ay[(os[m]!)]!)) (by kernel_rfl))) .nil))) (by kernel_rfl) (fun b47 => ?_)
            by_cases h48 : 0 ≤ (ay[(os[m]!)]!)
            · refine OPS.batch 0 {} [] [0, 1, 5, 7, 8, 31, 32, 33, 53] [.slice a l.length cp, .slice ao no co, .slice (some ⟨g5, 0, none⟩) l.length l.length, .int .i64 (m : Int), .int .i64 ((os[m]! : Nat) : Int), .slice ao no co, .int .i64 ((no : Nat) : Int), .int .i64 (m : Int), .bool (decide (0 ≤ (ay[(os[m]!)]!)))] .nil (by kernel_rfl) (fun b49 => ?_)
              refine OPS.re [.slice a l.length cp, .slice ao no co, .slice (some ⟨g5, 0, none⟩) l.length l.length, .int .i64 (m : Int), .int .i64 ((os[m]! : Nat) : Int), .slice ao no co, .int .i64 ((no : Nat) : Int), .int .i64 (m : Int), .bool true] (by rw [show (decide (0 ≤ (ay[(os[m]!)]!))) = true from Bp.dec.tt h48]) ?_
              refine OPS.batch 15 { wraps := [68] } [] [0, 1, 5, 7, 8, 31, 32, 33, 68] [.slice a l.length cp, .slice ao no co, .slice (some ⟨g5, 0, none⟩) l.length l.length, .int .i64 (m : Int), .int .i64 ((os[m]! : Nat) : Int), .slice ao no co, .int .i64 ((no : Nat) : Int), .int .i64 (m : Int), .bool true] .nil (by kernel_rfl) (fun b50 => ?_)
              refine OPS.nil ?_
              refine thn_n ?_
              exact ⟨true, trivial, Bp.of Bp.t (by first | (simp only [h36, h41, h48, iff_false, false_iff, iff_true, true_iff, Classical.not_not, and_true, true_and, and_false, false_and, or_true, true_or, or_false, false_or, not_true_eq_false, not_false_eq_true, and_self, or_self, iff_self]; done) | (simp [h36, h41, h48]; done) | simp_all), by kernel_rfl, hp25⟩
            · refine OPS.batch 0 {} [] [0, 1, 5, 7, 8, 31, 32, 33, 53] [.slice a l.length cp, .slice ao no co, .slice (some ⟨g5, 0, none⟩) l.length l.length, .int .i64 (m : Int), .int .i64 ((os[m]! : Nat) : Int), .slice ao no co, .int .i64 ((no : Nat) : Int), .int .i64 (m : Int), .bool (decide (0 ≤ (ay[(os[m]!)]!)))] .nil (by kernel_rfl) (fun b51 => ?_)
              refine OPS.re [.slice a l.length cp, .slice ao no co, .slice (some ⟨g5, 0, none⟩) l.length l.length, .int .i64 (m : Int), .int .i64 ((os[m]! : Nat) : Int), .slice ao no co, .int .i64 ((no : Nat) : Int), .int .i64 (m : Int), .bool false] (by rw [show (decide (0 ≤ (ay[(os[m]!)]!))) = false from Bp.dec.ff h48]) ?_
              have hy53 : (l)[(os[m]!)]? = some l[(os[m]!)]! := get_bang (by first | (omega) | (simp only [List.length_append, List.length_cons, List.length_nil]; omega))
              refine OPS.batch 4 {} [GCall.val (l[(os[m]!)]!)] [0, 1, 5, 7, 8, 31, 32, 33, 53, 57] [.slice a l.length cp, .slice ao no co, .slice (some ⟨g5, 0, none⟩) l.length l.length, .int .i64 (m : Int), .int .i64 ((os[m]! : Nat) : Int), .slice ao no co, .int .i64 ((no : Nat) : Int), .int .i64 (m : Int), .bool false, GCall.val (l[(os[m]!)]!)] (.cons (show InB (((os[m]! : Nat) : Int)) (l.length) from ⟨by omega, by omega⟩) (.cons ((hs.at hp25).some (by omega)) (.cons (Ld.add0 (Ld.elN (P := Try.prog) (t := 41) (hs.at hp25).rd 11 (fun _ => rfl) hy53 (o := 0) (cs := [.int .i64 (l[(os[m]!)]!.Client), .int .i64 (l[(os[m]!)]!.Op), .bool (l[(os[m]!)]!.Put), .string (l[(os[m]!)]!.Key), .slice (l[(os[m]!)]!.Value.a) (l[(os[m]!)]!.Value.n) (l[(os[m]!)]!.Value.c), .int .i64 (l[(os[m]!)]!.Status), .int .i64 (l[(os[m]!)]!.From), .int .i64 (l[(os[m]!)]!.To), .bool (l[(os[m]!)]!.Open), .int .i64 (l[(os[m]!)]!.Tag.Count), .int .i64 (l[(os[m]!)]!.Tag.Client)]) (by kernel_rfl))) .nil))) (by kernel_rfl) (fun b54 => ?_)
              refine OPS.want (by kernel_rfl) ?_
              refine OPS.cons (opStep.call (some 58) [GCall.val (l[(os[m]!)]!)] (by kernel_rfl) (law20_must (l[(os[m]!)]!) _) ?_)
              rintro _ w57 ⟨b60, rfl, hb61, hf58⟩
              refine ⟨_, rfl, ?_⟩
              have hp59 := hp25.step hf58
              refine OPS.batch 2 {} [] [0, 1, 5, 7, 8, 31, 32, 33, 53, 60] [.slice a l.length cp, .slice ao no co, .slice (some ⟨g5, 0, none⟩) l.length l.length, .int .i64 (m : Int), .int .i64 ((os[m]! : Nat) : Int), .slice ao no co, .int .i64 ((no : Nat) : Int), .int .i64 (m : Int), .bool false, .bool (!b60)] .nil (by kernel_rfl) (fun b62 => ?_)
              by_cases h63 : mustC (l[(os[m]!)]!)
              · refine OPS.batch 0 {} [] [0, 1, 5, 7, 8, 31, 32, 33, 53, 60] [.slice a l.length cp, .slice ao no co, .slice (some ⟨g5, 0, none⟩) l.length l.length, .int .i64 (m : Int), .int .i64 ((os[m]! : Nat) : Int), .slice ao no co, .int .i64 ((no : Nat) : Int), .int .i64 (m : Int), .bool false, .bool (!b60)] .nil (by kernel_rfl) (fun b74 => ?_)
                refine OPS.re [.slice a l.length cp, .slice ao no co, .slice (some ⟨g5, 0, none⟩) l.length l.length, .int .i64 (m : Int), .int .i64 ((os[m]! : Nat) : Int), .slice ao no co, .int .i64 ((no : Nat) : Int), .int .i64 (m : Int), .bool false, .bool false] (by rw [show (!b60) = false from (Bp.not hb61).ff (fun k => k h63)]) ?_
                refine OPS.batch 8 { wraps := [67, 68] } [] [0, 1, 5, 7, 8, 31, 32, 33, 68] [.slice a l.length cp, .slice ao no co, .slice (some ⟨g5, 0, none⟩) l.length l.length, .int .i64 (m : Int), .int .i64 ((os[m]! : Nat) : Int), .slice ao no co, .int .i64 ((no : Nat) : Int), .int .i64 (m : Int), .bool false] .nil (by kernel_rfl) (fun b75 => ?_)
                refine OPS.nil ?_
                refine thn_n ?_
                exact ⟨false, trivial, Bp.of Bp.f (by first | (simp only [h36, h41, h48, h63, iff_false, false_iff, iff_true, true_iff, Classical.not_not, and_true, true_and, and_false, false_and, or_true, true_or, or_false, false_or, not_true_eq_false, not_false_eq_true, and_self, or_self, iff_self]; done) | (simp [h36, h41, h48, h63]; done) | simp_all), by kernel_rfl, hp59⟩
              · refine OPS.batch 0 {} [] [0, 1, 5, 7, 8, 31, 32, 33, 53, 60] [.slice a l.length cp, .slice ao no co, .slice (some ⟨g5, 0, none⟩) l.length l.length, .int .i64 (m : Int), .int .i64 ((os[m]! : Nat) : Int), .slice ao no co, .int .i64 ((no : Nat) : Int), .int .i64 (m : Int), .bool false, .bool (!b60)] .nil (by kernel_rfl) (fun b64 => ?_)
                refine OPS.re [.slice a l.length cp, .slice ao no co, .slice (some ⟨g5, 0, none⟩) l.length l.length, .int .i64 (m : Int), .int .i64 ((os[m]! : Nat) : Int), .slice ao no co, .int .i64 ((no : Nat) : Int), .int .i64 (m : Int), .bool false, .bool true] (by rw [show (!b60) = true from (Bp.not hb61).tt h63]) ?_
                refine OPS.batch 4 {} [GCall.val (l[(os[m]!)]!)] [0, 1, 5, 7, 8, 31, 32, 33, 53, 60, 64] [.slice a l.length cp, .slice ao no co, .slice (some ⟨g5, 0, none⟩) l.length l.length, .int .i64 (m : Int), .int .i64 ((os[m]! : Nat) : Int), .slice ao no co, .int .i64 ((no : Nat) : Int), .int .i64 (m : Int), .bool false, .bool true, GCall.val (l[(os[m]!)]!)] (.cons (show InB (((os[m]! : Nat) : Int)) (l.length) from ⟨by omega, by omega⟩) (.cons ((hs.at hp59).some (by omega)) (.cons (Ld.add0 (Ld.elN (P := Try.prog) (t := 41) (hs.at hp59).rd 11 (fun _ => rfl) hy53 (o := 0) (cs := [.int .i64 (l[(os[m]!)]!.Client), .int .i64 (l[(os[m]!)]!.Op), .bool (l[(os[m]!)]!.Put), .string (l[(os[m]!)]!.Key), .slice (l[(os[m]!)]!.Value.a) (l[(os[m]!)]!.Value.n) (l[(os[m]!)]!.Value.c), .int .i64 (l[(os[m]!)]!.Status), .int .i64 (l[(os[m]!)]!.From), .int .i64 (l[(os[m]!)]!.To), .bool (l[(os[m]!)]!.Open), .int .i64 (l[(os[m]!)]!.Tag.Count), .int .i64 (l[(os[m]!)]!.Tag.Client)]) (by kernel_rfl))) .nil))) (by kernel_rfl) (fun b65 => ?_)
                refine OPS.want (by kernel_rfl) ?_
                refine OPS.cons (opStep.call (some 65) [GCall.val (l[(os[m]!)]!)] (by kernel_rfl) (law20_may (l[(os[m]!)]!) _) ?_)
                rintro _ w68 ⟨b71, rfl, hb72, hf69⟩
                refine ⟨_, rfl, ?_⟩
                have hp70 := hp59.step hf69
                refine OPS.batch 3 { wraps := [67, 68] } [] [0, 1, 5, 7, 8, 31, 32, 33, 68] [.slice a l.length cp, .slice ao no co, .slice (some ⟨g5, 0, none⟩) l.length l.length, .int .i64 (m : Int), .int .i64 ((os[m]! : Nat) : Int), .slice ao no co, .int .i64 ((no : Nat) : Int), .int .i64 (m : Int), .bool (!b71)] .nil (by kernel_rfl) (fun b73 => ?_)
                refine OPS.nil ?_
                refine thn_n ?_
                exact ⟨!b71, trivial, Bp.of (Bp.not hb72) (by first | (simp only [h36, h41, h48, h63, iff_false, false_iff, iff_true, true_iff, Classical.not_not, and_true, true_and, and_false, false_and, or_true, true_or, or_false, false_or, not_true_eq_false, not_false_eq_true, and_self, or_self, iff_self]; done) | (simp [h36, h41, h48, h63]; done) | simp_all), by kernel_rfl, hp70⟩
      rintro e78 w79 ⟨x76, hd81, hb77, hE82, hp80⟩
      obtain ⟨b83, rfl⟩ := toMk hE82
      clear hE82
      clear hd81
      refine WP.test (p := ((((os[m]! : Nat) : Int) < 0)) ∨ ((¬ (((os[m]! : Nat) : Int) < 0)) ∧ (((l.length : Nat) : Int) ≤ ((os[m]! : Nat) : Int))) ∨ ((¬ (((os[m]! : Nat) : Int) < 0)) ∧ (¬ (((l.length : Nat) : Int) ≤ ((os[m]! : Nat) : Int))) ∧ (0 ≤ (ay[(os[m]!)]!))) ∨ ((¬ (((os[m]! : Nat) : Int) < 0)) ∧ (¬ (((l.length : Nat) : Int) ≤ ((os[m]! : Nat) : Int))) ∧ (¬ (0 ≤ (ay[(os[m]!)]!))) ∧ (¬ (mustC (l[(os[m]!)]!))) ∧ (¬ ((l[(os[m]!)]!).Put = true ∧ (l[(os[m]!)]!).Open = true)))) rfl hb77 (fun h84 => ?_) (fun h84 => ?_)
      · refine WP.seq ?_
        refine WP.pure {} [] [4] [.bool false] .nil (by kernel_rfl) (fun b85 => ?_)
        refine thn_n ?_
        refine WP.ret ?_
        refine thn_r ?_
        refine blk_r ?_
        refine thn_r ?_
        refine thn_r ?_
        refine blk_r ?_
        refine thn_r ?_
        refine bodyQ.of _ rfl [.bool false] ⟨rfl, trivial⟩ ?_
        exact ⟨_, rfl, Bp.of Bp.f (by exact ⟨fun h => h.elim, fun h => expl_no (by omega) b4 h84 h⟩), hp80.fr⟩
      · refine WP.skip ?_
        refine thn_n ?_
        refine WP.region _ rfl (by kernel_rfl) ?_
        refine OPS.batch 4 {} [] [0, 1, 5, 31, 32, 33, 71, 72] [.slice a l.length cp, .slice ao no co, .slice (some ⟨g5, 0, none⟩) l.length l.length, .slice ao no co, .int .i64 ((no : Nat) : Int), .int .i64 (m : Int), .int .i64 (m : Int), .pointer (some ((adr (some ⟨g5, 0, none⟩)).add ((os[m]!) * 1)))] (.cons (show InB (((os[m]! : Nat) : Int)) (l.length) from ⟨by omega, by omega⟩) (.cons ((SlR.own (hp80.get0)).some (by omega)) .nil)) (by kernel_rfl) (fun b86 => ?_)
        have := own_flat (sz := 1) (fun _ => rfl) (by decide) hp80.get0
        try simp only [List.length_set] at this
        refine OPS.cons (opStep.storeOwn0 ((os[m]!) * 1) hp80 rfl [.int .i64 (m : Int)] (by kernel_rfl) (by simp) (show (os[m]!) * 1 + 1 ≤ l.length * 1 by omega) (fun w87 hp88 => ?_))
        have hp89 := hp88
        rw [show ow (List.flatMap (fun y => [.int .i64 y]) ay) ((os[m]!) * 1) [.int .i64 (m : Int)] = List.flatMap (fun y => [.int .i64 y]) (ay.set (os[m]!) (m : Int)) from ow_flat (sz := 1) (fun _ => rfl) (by first | (omega) | (simp only [List.length_set]; omega)) (m : Int)] at hp89
        refine OPS.nil ?_
        refine blk_n ?_
        refine thn_n ?_
        refine WP.pure {} [] [0, 1, 5, 31, 32, 33] [.slice a l.length cp, .slice ao no co, .slice (some ⟨g5, 0, none⟩) l.length l.length, .slice ao no co, .int .i64 ((no : Nat) : Int), .int .i64 ((m : Int) + 1)] (.cons (show Rng .i64 ((m : Int) + 1) from Rng.i64 (by omega)) .nil) (by kernel_rfl) (fun b90 => ?_)
        refine thn_n ?_
        obtain ⟨e1, e2, e4⟩ := expl_ok b4 h84
        have e3 := pre1_step (by omega) b3 e1 e2 e4
        exact ⟨os.length - (m + 1), (by omega), m + 1, ay.set (os[m]!) (m : Int), rfl, ⟨by omega, by simp [b2], e3, fun i hi => by rw [set_get (by omega), take_snoc_get (by omega), posI_snoc e2]; split; (rw [List.length_take]; omega); exact b4 i hi⟩, by kernel_rfl, hp89⟩
    · refine WP.exit ?_
      refine thn_x ?_
      refine thn_x ?_
      refine blk_hit ?_
      refine thn_n ?_
      refine WP.seq ?_
      refine WP.seq ?_
      refine WP.pure {} [] [0, 1, 5, 74, 75, 76] [.slice a l.length cp, .slice ao no co, .slice (some ⟨g5, 0, none⟩) l.length l.length, .slice a l.length cp, .int .i64 ((l.length : Nat) : Int), .int .i64 0] .nil (by kernel_rfl) (fun b91 => ?_)
      refine thn_n ?_
      refine WP.block ?_
      have em : m = os.length := by omega
      rw [em, List.take_of_length_le (Nat.le_refl _)] at b3 b4
      have c4 := b4
      have c3 := b3
      refine WP.loop (fun mz_ e92 w93 => ∃ (p : Nat), mz_ = l.length - p ∧ (p ≤ l.length ∧ ∀ i, i < p → mustC l[i]! → i ∈ os) ∧ List.map e92 [0, 1, 5, 74, 75, 76] = [.slice a l.length cp, .slice ao no co, .slice (some ⟨g5, 0, none⟩) l.length l.length, .slice a l.length cp, .int .i64 ((l.length : Nat) : Int), .int .i64 (p : Int)] ∧ Hp w Non [Res.own 3 1 (.slice (some ⟨g5, 0, none⟩) l.length l.length) l.length (List.flatMap (fun y => [.int .i64 y]) ay)] w93) (l.length - (0)) ⟨0, rfl, ⟨by omega, fun i hi => by omega⟩, by kernel_rfl, hp25⟩ ?_
      rintro _ e92 w93 ⟨p, rfl, hI95, hE96, hp94⟩
      obtain ⟨b97, rfl⟩ := toMk hE96
      clear hE96
      obtain ⟨d1, d2⟩ := hI95
      refine WP.seq ?_
      refine WP.pure {} [] [0, 1, 5, 74, 75, 76, 77] [.slice a l.length cp, .slice ao no co, .slice (some ⟨g5, 0, none⟩) l.length l.length, .slice a l.length cp, .int .i64 ((l.length : Nat) : Int), .int .i64 (p : Int), .bool (decide ((p : Int) < ((l.length : Nat) : Int)))] .nil (by kernel_rfl) (fun b98 => ?_)
      refine thn_n ?_
      refine WP.seq ?_
      refine WP.test (p := (p : Int) < ((l.length : Nat) : Int)) rfl Bp.dec (fun h99 => ?_) (fun h99 => ?_)
      · refine WP.skip ?_
        refine thn_n ?_
        refine WP.seq ?_
        refine WP.block ?_
        refine WP.seq ?_
        refine WP.region _ rfl (by kernel_rfl) ?_
        have hy103 : (l)[p]? = some l[p]! := get_bang (by first | (omega) | (simp only [List.length_append, List.length_cons, List.length_nil]; omega))
        refine OPS.batch 3 {} [GCall.val (l[p]!)] [0, 1, 5, 74, 75, 76, 78, 80] [.slice a l.length cp, .slice ao no co, .slice (some ⟨g5, 0, none⟩) l.length l.length, .slice a l.length cp, .int .i64 ((l.length : Nat) : Int), .int .i64 (p : Int), .int .i64 (p : Int), GCall.val (l[p]!)] (.cons (show InB ((p : Int)) (l.length) from ⟨by omega, by omega⟩) (.cons ((hs.at hp94).some (by omega)) (.cons (Ld.add0 (Ld.elN (P := Try.prog) (t := 41) (hs.at hp94).rd 11 (fun _ => rfl) hy103 (o := 0) (cs := [.int .i64 (l[p]!.Client), .int .i64 (l[p]!.Op), .bool (l[p]!.Put), .string (l[p]!.Key), .slice (l[p]!.Value.a) (l[p]!.Value.n) (l[p]!.Value.c), .int .i64 (l[p]!.Status), .int .i64 (l[p]!.From), .int .i64 (l[p]!.To), .bool (l[p]!.Open), .int .i64 (l[p]!.Tag.Count), .int .i64 (l[p]!.Tag.Client)]) (by kernel_rfl))) .nil))) (by kernel_rfl) (fun b104 => ?_)
        refine OPS.cons (opStep.alloc hp94 [.int .i64 0, .int .i64 0, .bool false, .string ByteArray.empty, .slice none 0 0, .int .i64 0, .int .i64 0, .int .i64 0, .bool false, .int .i64 0, .int .i64 0] (by kernel_rfl) (fun g107 w105 hp106 => ?_))
        refine OPS.batch 1 {} [] [0, 1, 5, 9, 10, 74, 75, 76, 80] [.slice a l.length cp, .slice ao no co, .slice (some ⟨g5, 0, none⟩) l.length l.length, .int .i64 (p : Int), .pointer (some ⟨g107, 0, none⟩), .slice a l.length cp, .int .i64 ((l.length : Nat) : Int), .int .i64 (p : Int), GCall.val (l[p]!)] .nil (by kernel_rfl) (fun b108 => ?_)
        refine OPS.cons (opStep.store0 hp106 rfl [.int .i64 (l[p]!.Client), .int .i64 (l[p]!.Op), .bool (l[p]!.Put), .string (l[p]!.Key), .slice (l[p]!.Value.a) (l[p]!.Value.n) (l[p]!.Value.c), .int .i64 (l[p]!.Status), .int .i64 (l[p]!.From), .int .i64 (l[p]!.To), .bool (l[p]!.Open), .int .i64 (l[p]!.Tag.Count), .int .i64 (l[p]!.Tag.Client)] [.int .i64 (l[p]!.Client), .int .i64 (l[p]!.Op), .bool (l[p]!.Put), .string (l[p]!.Key), .slice (l[p]!.Value.a) (l[p]!.Value.n) (l[p]!.Value.c), .int .i64 (l[p]!.Status), .int .i64 (l[p]!.From), .int .i64 (l[p]!.To), .bool (l[p]!.Open), .int .i64 (l[p]!.Tag.Count), .int .i64 (l[p]!.Tag.Client)] (by kernel_rfl) (fun w109 hp110 => ?_))
        refine OPS.nil ?_
        refine thn_n ?_
        refine WP.cut (fun e128 w129 => ∃ (x126 : Bool), (True) ∧ Bp x126 ((mustC (l[p]!)) ∧ ((ay[p]!) < 0)) ∧ List.map e128 [0, 1, 5, 74, 75, 76, 89] = [.slice a l.length cp, .slice ao no co, .slice (some ⟨g5, 0, none⟩) l.length l.length, .slice a l.length cp, .int .i64 ((l.length : Nat) : Int), .int .i64 (p : Int), .bool x126] ∧ Hp w Non [Res.row g107 [.int .i64 (l[p]!.Client), .int .i64 (l[p]!.Op), .bool (l[p]!.Put), .string (l[p]!.Key), .slice (l[p]!.Value.a) (l[p]!.Value.n) (l[p]!.Value.c), .int .i64 (l[p]!.Status), .int .i64 (l[p]!.From), .int .i64 (l[p]!.To), .bool (l[p]!.Open), .int .i64 (l[p]!.Tag.Count), .int .i64 (l[p]!.Tag.Client)] 41, Res.own 3 1 (.slice (some ⟨g5, 0, none⟩) l.length l.length) l.length (List.flatMap (fun y => [.int .i64 y]) ay)] w129) ?_ ?_
        · refine WP.region _ rfl (by kernel_rfl) ?_
          refine OPS.batch 1 {} [GCall.val (l[p]!)] [0, 1, 5, 9, 74, 75, 76, 81] [.slice a l.length cp, .slice ao no co, .slice (some ⟨g5, 0, none⟩) l.length l.length, .int .i64 (p : Int), .slice a l.length cp, .int .i64 ((l.length : Nat) : Int), .int .i64 (p : Int), GCall.val (l[p]!)] (.cons (show Ld Try.prog w109 41 ⟨g107, 0, none⟩ (GCall.val (l[p]!)) from Ld.rowN (cs := [.int .i64 (l[p]!.Client), .int .i64 (l[p]!.Op), .bool (l[p]!.Put), .string (l[p]!.Key), .slice (l[p]!.Value.a) (l[p]!.Value.n) (l[p]!.Value.c), .int .i64 (l[p]!.Status), .int .i64 (l[p]!.From), .int .i64 (l[p]!.To), .bool (l[p]!.Open), .int .i64 (l[p]!.Tag.Count), .int .i64 (l[p]!.Tag.Client)]) hp110.get0 (by kernel_rfl)) .nil) (by kernel_rfl) (fun b112 => ?_)
          refine OPS.cons (opStep.call (some 82) [GCall.val (l[p]!)] (by kernel_rfl) (law20_must (l[p]!) _) ?_)
          rintro _ w115 ⟨b118, rfl, hb119, hf116⟩
          refine ⟨_, rfl, ?_⟩
          have hp117 := hp110.step hf116
          refine OPS.batch 1 {} [] [0, 1, 5, 9, 74, 75, 76, 83] [.slice a l.length cp, .slice ao no co, .slice (some ⟨g5, 0, none⟩) l.length l.length, .int .i64 (p : Int), .slice a l.length cp, .int .i64 ((l.length : Nat) : Int), .int .i64 (p : Int), .bool b118] .nil (by kernel_rfl) (fun b120 => ?_)
          by_cases h121 : mustC (l[p]!)
          · rw [show b118 = true from hb119.tt h121]
            have := own_flat (sz := 1) (fun _ => rfl) (by decide) hp117.get1
            have hy123 : (ay)[p]? = some ay[p]! := get_bang (by first | (omega) | (simp only [List.length_append, List.length_cons, List.length_nil]; omega))
            refine OPS.batch 6 { wraps := [89] } [.int .i64 (ay[p]!)] [0, 1, 5, 74, 75, 76, 89] [.slice a l.length cp, .slice ao no co, .slice (some ⟨g5, 0, none⟩) l.length l.length, .slice a l.length cp, .int .i64 ((l.length : Nat) : Int), .int .i64 (p : Int), .bool (decide ((ay[p]!) < 0))] (.cons (show InB ((p : Int)) (l.length) from ⟨by omega, by omega⟩) (.cons ((SlR.own (hp117.get1)).some (by omega)) (.cons (Ld.add0 (Ld.el1 (P := Try.prog) (t := 3) (SlR.own (hp117.get1)).rd 1 (fun _ => rfl) hy123 (o := 0) (v := .int .i64 (ay[p]!)) (by kernel_rfl))) .nil))) (by kernel_rfl) (fun b124 => ?_)
            refine OPS.nil ?_
            refine thn_n ?_
            exact ⟨decide ((ay[p]!) < 0), trivial, Bp.of Bp.dec (by first | (simp only [h121, iff_false, false_iff, iff_true, true_iff, Classical.not_not, and_true, true_and, and_false, false_and, or_true, true_or, or_false, false_or, not_true_eq_false, not_false_eq_true, and_self, or_self, iff_self]; done) | (simp [h121]; done) | simp_all), by kernel_rfl, hp117⟩
          · rw [show b118 = false from hb119.ff h121]
            refine OPS.batch 6 { wraps := [89] } [] [0, 1, 5, 74, 75, 76, 89] [.slice a l.length cp, .slice ao no co, .slice (some ⟨g5, 0, none⟩) l.length l.length, .slice a l.length cp, .int .i64 ((l.length : Nat) : Int), .int .i64 (p : Int), .bool false] .nil (by kernel_rfl) (fun b125 => ?_)
            refine OPS.nil ?_
            refine thn_n ?_
            exact ⟨false, trivial, Bp.of Bp.f (by first | (simp only [h121, iff_false, false_iff, iff_true, true_iff, Classical.not_not, and_true, true_and, and_false, false_and, or_true, true_or, or_false, false_or, not_true_eq_false, not_false_eq_true, and_self, or_self, iff_self]; done) | (simp [h121]; done) | simp_all), by kernel_rfl, hp117⟩
        rintro e128 w129 ⟨x126, hd131, hb127, hE132, hp130⟩
        obtain ⟨b133, rfl⟩ := toMk hE132
        clear hE132
        clear hd131
        refine WP.test (p := (mustC (l[p]!)) ∧ ((ay[p]!) < 0)) rfl hb127 (fun h134 => ?_) (fun h134 => ?_)
        · refine WP.seq ?_
          refine WP.pure {} [] [4] [.bool false] .nil (by kernel_rfl) (fun b135 => ?_)
          refine thn_n ?_
          refine WP.ret ?_
          refine blk_r ?_
          refine thn_r ?_
          refine thn_r ?_
          refine blk_r ?_
          refine thn_r ?_
          refine bodyQ.of _ rfl [.bool false] ⟨rfl, trivial⟩ ?_
          exact ⟨_, rfl, Bp.of Bp.f (by exact ⟨fun h => h.elim, fun h => (posI_neg.1 (by rw [← c4 p (by omega)]; exact h134.2)) (h.all p (by omega) h134.1)⟩), hp130.fr⟩
        · refine WP.skip ?_
          refine blk_n ?_
          refine thn_n ?_
          refine WP.pure {} [] [0, 1, 5, 74, 75, 76] [.slice a l.length cp, .slice ao no co, .slice (some ⟨g5, 0, none⟩) l.length l.length, .slice a l.length cp, .int .i64 ((l.length : Nat) : Int), .int .i64 ((p : Int) + 1)] (.cons (show Rng .i64 ((p : Int) + 1) from Rng.i64 (by omega)) .nil) (by kernel_rfl) (fun b136 => ?_)
          refine thn_n ?_
          exact ⟨l.length - (p + 1), (by omega), p + 1, rfl, ⟨by omega, fun i hi hm => by rcases Nat.lt_or_ge i p with q | q; exact d2 i q hm; (obtain rfl : i = p := by omega); exact Classical.byContradiction fun hn => h134 ⟨hm, by rw [c4 i (by omega)]; exact posI_neg.2 hn⟩⟩, by kernel_rfl, (hp130.sub (.cons _ (.cons_cons _ (.slnil))))⟩
      · refine WP.exit ?_
        refine thn_x ?_
        refine thn_x ?_
        refine blk_hit ?_
        refine thn_n ?_
        refine WP.seq ?_
        refine WP.seq ?_
        refine WP.pure {} [] [0, 1, 5, 91, 92, 93] [.slice a l.length cp, .slice ao no co, .slice (some ⟨g5, 0, none⟩) l.length l.length, .slice a l.length cp, .int .i64 ((l.length : Nat) : Int), .int .i64 0] .nil (by kernel_rfl) (fun b137 => ?_)
        refine thn_n ?_
        refine WP.block ?_
        have hall : doneA l os := fun x hx hm => d2 x (by omega) hm
        refine WP.loop (fun mz_ e138 w139 => ∃ (i : Nat), mz_ = l.length - i ∧ (i ≤ l.length ∧ ∀ x y, x < i → y < l.length → mustC l[x]! → 0 ≤ l[x]!.To → l[x]!.To < l[y]!.From → y ∈ os → posI os x ≤ posI os y) ∧ List.map e138 [0, 1, 5, 91, 92, 93] = [.slice a l.length cp, .slice ao no co, .slice (some ⟨g5, 0, none⟩) l.length l.length, .slice a l.length cp, .int .i64 ((l.length : Nat) : Int), .int .i64 (i : Int)] ∧ Hp w Non [Res.own 3 1 (.slice (some ⟨g5, 0, none⟩) l.length l.length) l.length (List.flatMap (fun y => [.int .i64 y]) ay)] w139) (l.length - (0)) ⟨0, rfl, ⟨by omega, fun x y hx => by omega⟩, by kernel_rfl, hp94⟩ ?_
        rintro _ e138 w139 ⟨i, rfl, hI141, hE142, hp140⟩
        obtain ⟨b143, rfl⟩ := toMk hE142
        clear hE142
        obtain ⟨f1, f2⟩ := hI141
        refine WP.seq ?_
        refine WP.pure {} [] [0, 1, 5, 91, 92, 93, 94] [.slice a l.length cp, .slice ao no co, .slice (some ⟨g5, 0, none⟩) l.length l.length, .slice a l.length cp, .int .i64 ((l.length : Nat) : Int), .int .i64 (i : Int), .bool (decide ((i : Int) < ((l.length : Nat) : Int)))] .nil (by kernel_rfl) (fun b144 => ?_)
        refine thn_n ?_
        refine WP.seq ?_
        refine WP.test (p := (i : Int) < ((l.length : Nat) : Int)) rfl Bp.dec (fun h145 => ?_) (fun h145 => ?_)
        · refine WP.skip ?_
          refine thn_n ?_
          refine WP.seq ?_
          refine WP.block ?_
          refine WP.seq ?_
          refine WP.region _ rfl (by kernel_rfl) ?_
          have hy149 : (l)[i]? = some l[i]! := get_bang (by first | (omega) | (simp only [List.length_append, List.length_cons, List.length_nil]; omega))
          refine OPS.batch 3 {} [GCall.val (l[i]!)] [0, 1, 5, 91, 92, 93, 95, 97] [.slice a l.length cp, .slice ao no co, .slice (some ⟨g5, 0, none⟩) l.length l.length, .slice a l.length cp, .int .i64 ((l.length : Nat) : Int), .int .i64 (i : Int), .int .i64 (i : Int), GCall.val (l[i]!)] (.cons (show InB ((i : Int)) (l.length) from ⟨by omega, by omega⟩) (.cons ((hs.at hp140).some (by omega)) (.cons (Ld.add0 (Ld.elN (P := Try.prog) (t := 41) (hs.at hp140).rd 11 (fun _ => rfl) hy149 (o := 0) (cs := [.int .i64 (l[i]!.Client), .int .i64 (l[i]!.Op), .bool (l[i]!.Put), .string (l[i]!.Key), .slice (l[i]!.Value.a) (l[i]!.Value.n) (l[i]!.Value.c), .int .i64 (l[i]!.Status), .int .i64 (l[i]!.From), .int .i64 (l[i]!.To), .bool (l[i]!.Open), .int .i64 (l[i]!.Tag.Count), .int .i64 (l[i]!.Tag.Client)]) (by kernel_rfl))) .nil))) (by kernel_rfl) (fun b150 => ?_)
          refine OPS.cons (opStep.alloc hp140 [.int .i64 0, .int .i64 0, .bool false, .string ByteArray.empty, .slice none 0 0, .int .i64 0, .int .i64 0, .int .i64 0, .bool false, .int .i64 0, .int .i64 0] (by kernel_rfl) (fun g153 w151 hp152 => ?_))
          refine OPS.batch 1 {} [] [0, 1, 5, 11, 12, 91, 92, 93, 97] [.slice a l.length cp, .slice ao no co, .slice (some ⟨g5, 0, none⟩) l.length l.length, .int .i64 (i : Int), .pointer (some ⟨g153, 0, none⟩), .slice a l.length cp, .int .i64 ((l.length : Nat) : Int), .int .i64 (i : Int), GCall.val (l[i]!)] .nil (by kernel_rfl) (fun b154 => ?_)
          refine OPS.cons (opStep.store0 hp152 rfl [.int .i64 (l[i]!.Client), .int .i64 (l[i]!.Op), .bool (l[i]!.Put), .string (l[i]!.Key), .slice (l[i]!.Value.a) (l[i]!.Value.n) (l[i]!.Value.c), .int .i64 (l[i]!.Status), .int .i64 (l[i]!.From), .int .i64 (l[i]!.To), .bool (l[i]!.Open), .int .i64 (l[i]!.Tag.Count), .int .i64 (l[i]!.Tag.Client)] [.int .i64 (l[i]!.Client), .int .i64 (l[i]!.Op), .bool (l[i]!.Put), .string (l[i]!.Key), .slice (l[i]!.Value.a) (l[i]!.Value.n) (l[i]!.Value.c), .int .i64 (l[i]!.Status), .int .i64 (l[i]!.From), .int .i64 (l[i]!.To), .bool (l[i]!.Open), .int .i64 (l[i]!.Tag.Count), .int .i64 (l[i]!.Tag.Client)] (by kernel_rfl) (fun w155 hp156 => ?_))
          refine OPS.nil ?_
          refine thn_n ?_
          refine WP.seq ?_
          refine WP.pure {} [] [0, 1, 5, 11, 12, 91, 92, 93, 98, 99, 100] [.slice a l.length cp, .slice ao no co, .slice (some ⟨g5, 0, none⟩) l.length l.length, .int .i64 (i : Int), .pointer (some ⟨g153, 0, none⟩), .slice a l.length cp, .int .i64 ((l.length : Nat) : Int), .int .i64 (i : Int), .slice a l.length cp, .int .i64 ((l.length : Nat) : Int), .int .i64 0] .nil (by kernel_rfl) (fun b157 => ?_)
          refine thn_n ?_
          refine WP.block ?_
          refine WP.loop (fun mz_ e158 w159 => ∃ (j : Nat), mz_ = l.length - j ∧ (j ≤ l.length ∧ ∀ y, y < j → mustC l[i]! → 0 ≤ l[i]!.To → l[i]!.To < l[y]!.From → y ∈ os → posI os i ≤ posI os y) ∧ List.map e158 [0, 1, 5, 11, 12, 91, 92, 93, 98, 99, 100] = [.slice a l.length cp, .slice ao no co, .slice (some ⟨g5, 0, none⟩) l.length l.length, .int .i64 (i : Int), .pointer (some ⟨g153, 0, none⟩), .slice a l.length cp, .int .i64 ((l.length : Nat) : Int), .int .i64 (i : Int), .slice a l.length cp, .int .i64 ((l.length : Nat) : Int), .int .i64 (j : Int)] ∧ Hp w Non [Res.row g153 [.int .i64 (l[i]!.Client), .int .i64 (l[i]!.Op), .bool (l[i]!.Put), .string (l[i]!.Key), .slice (l[i]!.Value.a) (l[i]!.Value.n) (l[i]!.Value.c), .int .i64 (l[i]!.Status), .int .i64 (l[i]!.From), .int .i64 (l[i]!.To), .bool (l[i]!.Open), .int .i64 (l[i]!.Tag.Count), .int .i64 (l[i]!.Tag.Client)] 41, Res.own 3 1 (.slice (some ⟨g5, 0, none⟩) l.length l.length) l.length (List.flatMap (fun y => [.int .i64 y]) ay)] w159) (l.length - (0)) ⟨0, rfl, ⟨by omega, fun y hy => by omega⟩, by kernel_rfl, hp156⟩ ?_
          rintro _ e158 w159 ⟨j, rfl, hI161, hE162, hp160⟩
          obtain ⟨b163, rfl⟩ := toMk hE162
          clear hE162
          obtain ⟨j1, j2⟩ := hI161
          refine WP.seq ?_
          refine WP.pure {} [] [0, 1, 5, 11, 12, 91, 92, 93, 98, 99, 100, 101] [.slice a l.length cp, .slice ao no co, .slice (some ⟨g5, 0, none⟩) l.length l.length, .int .i64 (i : Int), .pointer (some ⟨g153, 0, none⟩), .slice a l.length cp, .int .i64 ((l.length : Nat) : Int), .int .i64 (i : Int), .slice a l.length cp, .int .i64 ((l.length : Nat) : Int), .int .i64 (j : Int), .bool (decide ((j : Int) < ((l.length : Nat) : Int)))] .nil (by kernel_rfl) (fun b164 => ?_)
          refine thn_n ?_
          refine WP.seq ?_
          refine WP.test (p := (j : Int) < ((l.length : Nat) : Int)) rfl Bp.dec (fun h165 => ?_) (fun h165 => ?_)
          · refine WP.skip ?_
            refine thn_n ?_
            refine WP.seq ?_
            refine WP.block ?_
            refine WP.seq ?_
            refine WP.region _ rfl (by kernel_rfl) ?_
            have hy169 : (l)[j]? = some l[j]! := get_bang (by first | (omega) | (simp only [List.length_append, List.length_cons, List.length_nil]; omega))
            refine OPS.batch 3 {} [GCall.val (l[j]!)] [0, 1, 5, 11, 12, 91, 92, 93, 98, 99, 100, 102, 104] [.slice a l.length cp, .slice ao no co, .slice (some ⟨g5, 0, none⟩) l.length l.length, .int .i64 (i : Int), .pointer (some ⟨g153, 0, none⟩), .slice a l.length cp, .int .i64 ((l.length : Nat) : Int), .int .i64 (i : Int), .slice a l.length cp, .int .i64 ((l.length : Nat) : Int), .int .i64 (j : Int), .int .i64 (j : Int), GCall.val (l[j]!)] (.cons (show InB ((j : Int)) (l.length) from ⟨by omega, by omega⟩) (.cons ((hs.at hp160).some (by omega)) (.cons (Ld.add0 (Ld.elN (P := Try.prog) (t := 41) (hs.at hp160).rd 11 (fun _ => rfl) hy169 (o := 0) (cs := [.int .i64 (l[j]!.Client), .int .i64 (l[j]!.Op), .bool (l[j]!.Put), .string (l[j]!.Key), .slice (l[j]!.Value.a) (l[j]!.Value.n) (l[j]!.Value.c), .int .i64 (l[j]!.Status), .int .i64 (l[j]!.From), .int .i64 (l[j]!.To), .bool (l[j]!.Open), .int .i64 (l[j]!.Tag.Count), .int .i64 (l[j]!.Tag.Client)]) (by kernel_rfl))) .nil))) (by kernel_rfl) (fun b170 => ?_)
            refine OPS.cons (opStep.alloc hp160 [.int .i64 0, .int .i64 0, .bool false, .string ByteArray.empty, .slice none 0 0, .int .i64 0, .int .i64 0, .int .i64 0, .bool false, .int .i64 0, .int .i64 0] (by kernel_rfl) (fun g173 w171 hp172 => ?_))
            refine OPS.batch 1 {} [] [0, 1, 5, 11, 12, 13, 14, 91, 92, 93, 98, 99, 100, 104] [.slice a l.length cp, .slice ao no co, .slice (some ⟨g5, 0, none⟩) l.length l.length, .int .i64 (i : Int), .pointer (some ⟨g153, 0, none⟩), .int .i64 (j : Int), .pointer (some ⟨g173, 0, none⟩), .slice a l.length cp, .int .i64 ((l.length : Nat) : Int), .int .i64 (i : Int), .slice a l.length cp, .int .i64 ((l.length : Nat) : Int), .int .i64 (j : Int), GCall.val (l[j]!)] .nil (by kernel_rfl) (fun b174 => ?_)
            refine OPS.cons (opStep.store0 hp172 rfl [.int .i64 (l[j]!.Client), .int .i64 (l[j]!.Op), .bool (l[j]!.Put), .string (l[j]!.Key), .slice (l[j]!.Value.a) (l[j]!.Value.n) (l[j]!.Value.c), .int .i64 (l[j]!.Status), .int .i64 (l[j]!.From), .int .i64 (l[j]!.To), .bool (l[j]!.Open), .int .i64 (l[j]!.Tag.Count), .int .i64 (l[j]!.Tag.Client)] [.int .i64 (l[j]!.Client), .int .i64 (l[j]!.Op), .bool (l[j]!.Put), .string (l[j]!.Key), .slice (l[j]!.Value.a) (l[j]!.Value.n) (l[j]!.Value.c), .int .i64 (l[j]!.Status), .int .i64 (l[j]!.From), .int .i64 (l[j]!.To), .bool (l[j]!.Open), .int .i64 (l[j]!.Tag.Count), .int .i64 (l[j]!.Tag.Client)] (by kernel_rfl) (fun w175 hp176 => ?_))
            refine OPS.nil ?_
            refine thn_n ?_
            refine WP.cut (fun e241 w242 => ∃ (x239 : Bool), (True) ∧ Bp x239 ((mustC (l[i]!)) ∧ (0 ≤ (l[i]!.To)) ∧ ((l[i]!.To) < (l[j]!.From)) ∧ (0 ≤ (ay[j]!)) ∧ ((ay[j]!) < (ay[i]!))) ∧ List.map e241 [0, 1, 5, 11, 12, 91, 92, 93, 98, 99, 100, 136] = [.slice a l.length cp, .slice ao no co, .slice (some ⟨g5, 0, none⟩) l.length l.length, .int .i64 (i : Int), .pointer (some ⟨g153, 0, none⟩), .slice a l.length cp, .int .i64 ((l.length : Nat) : Int), .int .i64 (i : Int), .slice a l.length cp, .int .i64 ((l.length : Nat) : Int), .int .i64 (j : Int), .bool x239] ∧ Hp w Non [Res.row g173 [.int .i64 (l[j]!.Client), .int .i64 (l[j]!.Op), .bool (l[j]!.Put), .string (l[j]!.Key), .slice (l[j]!.Value.a) (l[j]!.Value.n) (l[j]!.Value.c), .int .i64 (l[j]!.Status), .int .i64 (l[j]!.From), .int .i64 (l[j]!.To), .bool (l[j]!.Open), .int .i64 (l[j]!.Tag.Count), .int .i64 (l[j]!.Tag.Client)] 41, Res.row g153 [.int .i64 (l[i]!.Client), .int .i64 (l[i]!.Op), .bool (l[i]!.Put), .string (l[i]!.Key), .slice (l[i]!.Value.a) (l[i]!.Value.n) (l[i]!.Value.c), .int .i64 (l[i]!.Status), .int .i64 (l[i]!.From), .int .i64 (l[i]!.To), .bool (l[i]!.Open), .int .i64 (l[i]!.Tag.Count), .int .i64 (l[i]!.Tag.Client)] 41, Res.own 3 1 (.slice (some ⟨g5, 0, none⟩) l.length l.length) l.length (List.flatMap (fun y => [.int .i64 y]) ay)] w242) ?_ ?_
            · have hp180 := hp176.drew
              refine WP.quiet (fun w178 => Hp w Non [Res.row g173 [.int .i64 (l[j]!.Client), .int .i64 (l[j]!.Op), .bool (l[j]!.Put), .string (l[j]!.Key), .slice (l[j]!.Value.a) (l[j]!.Value.n) (l[j]!.Value.c), .int .i64 (l[j]!.Status), .int .i64 (l[j]!.From), .int .i64 (l[j]!.To), .bool (l[j]!.Open), .int .i64 (l[j]!.Tag.Count), .int .i64 (l[j]!.Tag.Client)] 41, Res.row g153 [.int .i64 (l[i]!.Client), .int .i64 (l[i]!.Op), .bool (l[i]!.Put), .string (l[i]!.Key), .slice (l[i]!.Value.a) (l[i]!.Value.n) (l[i]!.Value.c), .int .i64 (l[i]!.Status), .int .i64 (l[i]!.From), .int .i64 (l[i]!.To), .bool (l[i]!.Open), .int .i64 (l[i]!.Tag.Count), .int .i64 (l[i]!.Tag.Client)] 41, Res.own 3 1 (.slice (some ⟨g5, 0, none⟩) l.length l.length) l.length (List.flatMap (fun y => [.int .i64 y]) ay)] w178) (by kernel_rfl) hp180 ?_
              have hnehp180 : ∃ wz_, (fun w178 => Hp w Non [Res.row g173 [.int .i64 (l[j]!.Client), .int .i64 (l[j]!.Op), .bool (l[j]!.Put), .string (l[j]!.Key), .slice (l[j]!.Value.a) (l[j]!.Value.n) (l[j]!.Value.c), .int .i64 (l[j]!.Status), .int .i64 (l[j]!.From), .int .i64 (l[j]!.To), .bool (l[j]!.Open), .int .i64 (l[j]!.Tag.Count), .int .i64 (l[j]!.Tag.Client)] 41, Res.row g153 [.int .i64 (l[i]!.Client), .int .i64 (l[i]!.Op), .bool (l[i]!.Put), .string (l[i]!.Key), .slice (l[i]!.Value.a) (l[i]!.Value.n) (l[i]!.Value.c), .int .i64 (l[i]!.Status), .int .i64 (l[i]!.From), .int .i64 (l[i]!.To), .bool (l[i]!.Open), .int .i64 (l[i]!.Tag.Count), .int .i64 (l[i]!.Tag.Client)] 41, Res.own 3 1 (.slice (some ⟨g5, 0, none⟩) l.length l.length) l.length (List.flatMap (fun y => [.int .i64 y]) ay)] w178) wz_ := ⟨_, hp180⟩
              refine QOPS.batch 1 {} [GCall.val (l[i]!)] [0, 1, 5, 11, 12, 13, 14, 91, 92, 93, 98, 99, 100, 105] [.slice a l.length cp, .slice ao no co, .slice (some ⟨g5, 0, none⟩) l.length l.length, .int .i64 (i : Int), .pointer (some ⟨g153, 0, none⟩), .int .i64 (j : Int), .pointer (some ⟨g173, 0, none⟩), .slice a l.length cp, .int .i64 ((l.length : Nat) : Int), .int .i64 (i : Int), .slice a l.length cp, .int .i64 ((l.length : Nat) : Int), .int .i64 (j : Int), GCall.val (l[i]!)] hnehp180 (fun w181 hp182 => QB.mk (.cons (show Ld Try.prog w181 41 ⟨g153, 0, none⟩ (GCall.val (l[i]!)) from Ld.rowN (cs := [.int .i64 (l[i]!.Client), .int .i64 (l[i]!.Op), .bool (l[i]!.Put), .string (l[i]!.Key), .slice (l[i]!.Value.a) (l[i]!.Value.n) (l[i]!.Value.c), .int .i64 (l[i]!.Status), .int .i64 (l[i]!.From), .int .i64 (l[i]!.To), .bool (l[i]!.Open), .int .i64 (l[i]!.Tag.Count), .int .i64 (l[i]!.Tag.Client)]) hp182.get1 (by kernel_rfl)) .nil) (by kernel_rfl)) (fun b183 => ?_)
              refine QOPS.call (some 106) [GCall.val (l[i]!)] (by kernel_rfl) (fun w184 hp185 => (law20_must (l[i]!) _).mono fun _ _ h => by obtain ⟨b, h1, h2, h3⟩ := h; exact ⟨by rw [h1, h2.eq_bo], hp185.step h3⟩) ?_
              refine QOPS.batch 1 {} [] [0, 1, 5, 11, 12, 13, 14, 91, 92, 93, 98, 99, 100, 107] [.slice a l.length cp, .slice ao no co, .slice (some ⟨g5, 0, none⟩) l.length l.length, .int .i64 (i : Int), .pointer (some ⟨g153, 0, none⟩), .int .i64 (j : Int), .pointer (some ⟨g173, 0, none⟩), .slice a l.length cp, .int .i64 ((l.length : Nat) : Int), .int .i64 (i : Int), .slice a l.length cp, .int .i64 ((l.length : Nat) : Int), .int .i64 (j : Int), .bool (bo (mustC (l[i]!)))] hnehp180 (fun w186 hp187 => QB.mk .nil (by kernel_rfl)) (fun b188 => ?_)
              by_cases h189 : mustC (l[i]!)
              · refine QOPS.batch 0 {} [] [0, 1, 5, 11, 12, 13, 14, 91, 92, 93, 98, 99, 100, 107] [.slice a l.length cp, .slice ao no co, .slice (some ⟨g5, 0, none⟩) l.length l.length, .int .i64 (i : Int), .pointer (some ⟨g153, 0, none⟩), .int .i64 (j : Int), .pointer (some ⟨g173, 0, none⟩), .slice a l.length cp, .int .i64 ((l.length : Nat) : Int), .int .i64 (i : Int), .slice a l.length cp, .int .i64 ((l.length : Nat) : Int), .int .i64 (j : Int), .bool (bo (mustC (l[i]!)))] hnehp180 (fun _ _ => QB.mk .nil (by kernel_rfl)) (fun b190 => ?_)
                refine QOPS.re [.slice a l.length cp, .slice ao no co, .slice (some ⟨g5, 0, none⟩) l.length l.length, .int .i64 (i : Int), .pointer (some ⟨g153, 0, none⟩), .int .i64 (j : Int), .pointer (some ⟨g173, 0, none⟩), .slice a l.length cp, .int .i64 ((l.length : Nat) : Int), .int .i64 (i : Int), .slice a l.length cp, .int .i64 ((l.length : Nat) : Int), .int .i64 (j : Int), .bool true] (by rw [show (bo (mustC (l[i]!))) = true from Bp.bo.tt h189]) ?_
                refine QOPS.batch 5 { wraps := [111] } [.int .i64 (l[i]!.To)] [0, 1, 5, 11, 12, 13, 14, 91, 92, 93, 98, 99, 100, 112] [.slice a l.length cp, .slice ao no co, .slice (some ⟨g5, 0, none⟩) l.length l.length, .int .i64 (i : Int), .pointer (some ⟨g153, 0, none⟩), .int .i64 (j : Int), .pointer (some ⟨g173, 0, none⟩), .slice a l.length cp, .int .i64 ((l.length : Nat) : Int), .int .i64 (i : Int), .slice a l.length cp, .int .i64 ((l.length : Nat) : Int), .int .i64 (j : Int), .bool (decide (0 ≤ (l[i]!.To)))] hnehp180 (fun w191 hp192 => QB.mk (.cons (Ld.row1 (P := Try.prog) (t := 3) (o := 7) (v := .int .i64 (l[i]!.To)) hp192.get1 (by kernel_rfl)) .nil) (by kernel_rfl)) (fun b193 => ?_)
                by_cases h194 : 0 ≤ (l[i]!.To)
                · refine QOPS.batch 0 {} [] [0, 1, 5, 11, 12, 13, 14, 91, 92, 93, 98, 99, 100, 112] [.slice a l.length cp, .slice ao no co, .slice (some ⟨g5, 0, none⟩) l.length l.length, .int .i64 (i : Int), .pointer (some ⟨g153, 0, none⟩), .int .i64 (j : Int), .pointer (some ⟨g173, 0, none⟩), .slice a l.length cp, .int .i64 ((l.length : Nat) : Int), .int .i64 (i : Int), .slice a l.length cp, .int .i64 ((l.length : Nat) : Int), .int .i64 (j : Int), .bool (decide (0 ≤ (l[i]!.To)))] hnehp180 (fun _ _ => QB.mk .nil (by kernel_rfl)) (fun b195 => ?_)
                  refine QOPS.re [.slice a l.length cp, .slice ao no co, .slice (some ⟨g5, 0, none⟩) l.length l.length, .int .i64 (i : Int), .pointer (some ⟨g153, 0, none⟩), .int .i64 (j : Int), .pointer (some ⟨g173, 0, none⟩), .slice a l.length cp, .int .i64 ((l.length : Nat) : Int), .int .i64 (i : Int), .slice a l.length cp, .int .i64 ((l.length : Nat) : Int), .int .i64 (j : Int), .bool true] (by rw [show (decide (0 ≤ (l[i]!.To))) = true from Bp.dec.tt h194]) ?_
                  refine QOPS.batch 7 { wraps := [118] } [.int .i64 (l[i]!.To), .int .i64 (l[j]!.From)] [0, 1, 5, 11, 12, 13, 91, 92, 93, 98, 99, 100, 119] [.slice a l.length cp, .slice ao no co, .slice (some ⟨g5, 0, none⟩) l.length l.length, .int .i64 (i : Int), .pointer (some ⟨g153, 0, none⟩), .int .i64 (j : Int), .slice a l.length cp, .int .i64 ((l.length : Nat) : Int), .int .i64 (i : Int), .slice a l.length cp, .int .i64 ((l.length : Nat) : Int), .int .i64 (j : Int), .bool (decide ((l[i]!.To) < (l[j]!.From)))] hnehp180 (fun w196 hp197 => QB.mk (.cons (Ld.row1 (P := Try.prog) (t := 3) (o := 7) (v := .int .i64 (l[i]!.To)) hp197.get1 (by kernel_rfl)) (.cons (Ld.row1 (P := Try.prog) (t := 3) (o := 6) (v := .int .i64 (l[j]!.From)) hp197.get0 (by kernel_rfl)) .nil)) (by kernel_rfl)) (fun b198 => ?_)
                  by_cases h199 : (l[i]!.To) < (l[j]!.From)
                  · refine QOPS.batch 0 {} [] [0, 1, 5, 11, 12, 13, 91, 92, 93, 98, 99, 100, 119] [.slice a l.length cp, .slice ao no co, .slice (some ⟨g5, 0, none⟩) l.length l.length, .int .i64 (i : Int), .pointer (some ⟨g153, 0, none⟩), .int .i64 (j : Int), .slice a l.length cp, .int .i64 ((l.length : Nat) : Int), .int .i64 (i : Int), .slice a l.length cp, .int .i64 ((l.length : Nat) : Int), .int .i64 (j : Int), .bool (decide ((l[i]!.To) < (l[j]!.From)))] hnehp180 (fun _ _ => QB.mk .nil (by kernel_rfl)) (fun b200 => ?_)
                    refine QOPS.re [.slice a l.length cp, .slice ao no co, .slice (some ⟨g5, 0, none⟩) l.length l.length, .int .i64 (i : Int), .pointer (some ⟨g153, 0, none⟩), .int .i64 (j : Int), .slice a l.length cp, .int .i64 ((l.length : Nat) : Int), .int .i64 (i : Int), .slice a l.length cp, .int .i64 ((l.length : Nat) : Int), .int .i64 (j : Int), .bool true] (by rw [show (decide ((l[i]!.To) < (l[j]!.From))) = true from Bp.dec.tt h199]) ?_
                    have := own_flat (sz := 1) (fun _ => rfl) (by decide) hp180.get2
                    have hy204 : (ay)[j]? = some ay[j]! := get_bang (by first | (omega) | (simp only [List.length_append, List.length_cons, List.length_nil]; omega))
                    refine QOPS.batch 7 { wraps := [125] } [.int .i64 (ay[j]!)] [0, 1, 5, 11, 12, 13, 91, 92, 93, 98, 99, 100, 126] [.slice a l.length cp, .slice ao no co, .slice (some ⟨g5, 0, none⟩) l.length l.length, .int .i64 (i : Int), .pointer (some ⟨g153, 0, none⟩), .int .i64 (j : Int), .slice a l.length cp, .int .i64 ((l.length : Nat) : Int), .int .i64 (i : Int), .slice a l.length cp, .int .i64 ((l.length : Nat) : Int), .int .i64 (j : Int), .bool (decide (0 ≤ (ay[j]!)))] hnehp180 (fun w201 hp202 => QB.mk (.cons (show InB ((j : Int)) (l.length) from ⟨by omega, by omega⟩) (.cons ((SlR.own (hp202.get2)).some (by omega)) (.cons (Ld.add0 (Ld.el1 (P := Try.prog) (t := 3) (SlR.own (hp202.get2)).rd 1 (fun _ => rfl) hy204 (o := 0) (v := .int .i64 (ay[j]!)) (by kernel_rfl))) .nil))) (by kernel_rfl)) (fun b205 => ?_)
                    by_cases h206 : 0 ≤ (ay[j]!)
                    · refine QOPS.batch 0 {} [] [0, 1, 5, 11, 12, 13, 91, 92, 93, 98, 99, 100, 126] [.slice a l.length cp, .slice ao no co, .slice (some ⟨g5, 0, none⟩) l.length l.length, .int .i64 (i : Int), .pointer (some ⟨g153, 0, none⟩), .int .i64 (j : Int), .slice a l.length cp, .int .i64 ((l.length : Nat) : Int), .int .i64 (i : Int), .slice a l.length cp, .int .i64 ((l.length : Nat) : Int), .int .i64 (j : Int), .bool (decide (0 ≤ (ay[j]!)))] hnehp180 (fun _ _ => QB.mk .nil (by kernel_rfl)) (fun b207 => ?_)
                      refine QOPS.re [.slice a l.length cp, .slice ao no co, .slice (some ⟨g5, 0, none⟩) l.length l.length, .int .i64 (i : Int), .pointer (some ⟨g153, 0, none⟩), .int .i64 (j : Int), .slice a l.length cp, .int .i64 ((l.length : Nat) : Int), .int .i64 (i : Int), .slice a l.length cp, .int .i64 ((l.length : Nat) : Int), .int .i64 (j : Int), .bool true] (by rw [show (decide (0 ≤ (ay[j]!))) = true from Bp.dec.tt h206]) ?_
                      have := own_flat (sz := 1) (fun _ => rfl) (by decide) hp180.get2
                      have hy211 : (ay)[i]? = some ay[i]! := get_bang (by first | (omega) | (simp only [List.length_append, List.length_cons, List.length_nil]; omega))
                      refine QOPS.batch 10 { wraps := [136] } [.int .i64 (ay[i]!), .int .i64 (ay[j]!)] [0, 1, 5, 11, 12, 91, 92, 93, 98, 99, 100, 136] [.slice a l.length cp, .slice ao no co, .slice (some ⟨g5, 0, none⟩) l.length l.length, .int .i64 (i : Int), .pointer (some ⟨g153, 0, none⟩), .slice a l.length cp, .int .i64 ((l.length : Nat) : Int), .int .i64 (i : Int), .slice a l.length cp, .int .i64 ((l.length : Nat) : Int), .int .i64 (j : Int), .bool (decide ((ay[j]!) < (ay[i]!)))] hnehp180 (fun w208 hp209 => QB.mk (.cons (show InB ((i : Int)) (l.length) from ⟨by omega, by omega⟩) (.cons ((SlR.own (hp209.get2)).some (by omega)) (.cons (Ld.add0 (Ld.el1 (P := Try.prog) (t := 3) (SlR.own (hp209.get2)).rd 1 (fun _ => rfl) hy211 (o := 0) (v := .int .i64 (ay[i]!)) (by kernel_rfl))) (.cons (show InB ((j : Int)) (l.length) from ⟨by omega, by omega⟩) (.cons ((SlR.own (hp209.get2)).some (by omega)) (.cons (Ld.add0 (Ld.el1 (P := Try.prog) (t := 3) (SlR.own (hp209.get2)).rd 1 (fun _ => rfl) hy204 (o := 0) (v := .int .i64 (ay[j]!)) (by kernel_rfl))) .nil)))))) (by kernel_rfl)) (fun b212 => ?_)
                      refine QOPS.nil (fun w213 hp214 => ?_)
                      refine thn_n ?_
                      exact ⟨decide ((ay[j]!) < (ay[i]!)), trivial, Bp.of Bp.dec (by first | (simp only [h189, h194, h199, h206, iff_false, false_iff, iff_true, true_iff, Classical.not_not, and_true, true_and, and_false, false_and, or_true, true_or, or_false, false_or, not_true_eq_false, not_false_eq_true, and_self, or_self, iff_self]; done) | (simp [h189, h194, h199, h206]; done) | simp_all), by kernel_rfl, hp214⟩
                    · refine QOPS.batch 0 {} [] [0, 1, 5, 11, 12, 13, 91, 92, 93, 98, 99, 100, 126] [.slice a l.length cp, .slice ao no co, .slice (some ⟨g5, 0, none⟩) l.length l.length, .int .i64 (i : Int), .pointer (some ⟨g153, 0, none⟩), .int .i64 (j : Int), .slice a l.length cp, .int .i64 ((l.length : Nat) : Int), .int .i64 (i : Int), .slice a l.length cp, .int .i64 ((l.length : Nat) : Int), .int .i64 (j : Int), .bool (decide (0 ≤ (ay[j]!)))] hnehp180 (fun _ _ => QB.mk .nil (by kernel_rfl)) (fun b215 => ?_)
                      refine QOPS.re [.slice a l.length cp, .slice ao no co, .slice (some ⟨g5, 0, none⟩) l.length l.length, .int .i64 (i : Int), .pointer (some ⟨g153, 0, none⟩), .int .i64 (j : Int), .slice a l.length cp, .int .i64 ((l.length : Nat) : Int), .int .i64 (i : Int), .slice a l.length cp, .int .i64 ((l.length : Nat) : Int), .int .i64 (j : Int), .bool false] (by rw [show (decide (0 ≤ (ay[j]!))) = false from Bp.dec.ff h206]) ?_
                      refine QOPS.batch 10 { wraps := [136] } [] [0, 1, 5, 11, 12, 91, 92, 93, 98, 99, 100, 136] [.slice a l.length cp, .slice ao no co, .slice (some ⟨g5, 0, none⟩) l.length l.length, .int .i64 (i : Int), .pointer (some ⟨g153, 0, none⟩), .slice a l.length cp, .int .i64 ((l.length : Nat) : Int), .int .i64 (i : Int), .slice a l.length cp, .int .i64 ((l.length : Nat) : Int), .int .i64 (j : Int), .bool false] hnehp180 (fun w216 hp217 => QB.mk .nil (by kernel_rfl)) (fun b218 => ?_)
                      refine QOPS.nil (fun w219 hp220 => ?_)
                      refine thn_n ?_
                      exact ⟨false, trivial, Bp.of Bp.f (by first | (simp only [h189, h194, h199, h206, iff_false, false_iff, iff_true, true_iff, Classical.not_not, and_true, true_and, and_false, false_and, or_true, true_or, or_false, false_or, not_true_eq_false, not_false_eq_true, and_self, or_self, iff_self]; done) | (simp [h189, h194, h199, h206]; done) | simp_all), by kernel_rfl, hp220⟩
                  · refine QOPS.batch 0 {} [] [0, 1, 5, 11, 12, 13, 91, 92, 93, 98, 99, 100, 119] [.slice a l.length cp, .slice ao no co, .slice (some ⟨g5, 0, none⟩) l.length l.length, .int .i64 (i : Int), .pointer (some ⟨g153, 0, none⟩), .int .i64 (j : Int), .slice a l.length cp, .int .i64 ((l.length : Nat) : Int), .int .i64 (i : Int), .slice a l.length cp, .int .i64 ((l.length : Nat) : Int), .int .i64 (j : Int), .bool (decide ((l[i]!.To) < (l[j]!.From)))] hnehp180 (fun _ _ => QB.mk .nil (by kernel_rfl)) (fun b221 => ?_)
                    refine QOPS.re [.slice a l.length cp, .slice ao no co, .slice (some ⟨g5, 0, none⟩) l.length l.length, .int .i64 (i : Int), .pointer (some ⟨g153, 0, none⟩), .int .i64 (j : Int), .slice a l.length cp, .int .i64 ((l.length : Nat) : Int), .int .i64 (i : Int), .slice a l.length cp, .int .i64 ((l.length : Nat) : Int), .int .i64 (j : Int), .bool false] (by rw [show (decide ((l[i]!.To) < (l[j]!.From))) = false from Bp.dec.ff h199]) ?_
                    refine QOPS.batch 17 { wraps := [125, 136] } [] [0, 1, 5, 11, 12, 91, 92, 93, 98, 99, 100, 136] [.slice a l.length cp, .slice ao no co, .slice (some ⟨g5, 0, none⟩) l.length l.length, .int .i64 (i : Int), .pointer (some ⟨g153, 0, none⟩), .slice a l.length cp, .int .i64 ((l.length : Nat) : Int), .int .i64 (i : Int), .slice a l.length cp, .int .i64 ((l.length : Nat) : Int), .int .i64 (j : Int), .bool false] hnehp180 (fun w222 hp223 => QB.mk .nil (by kernel_rfl)) (fun b224 => ?_)
                    refine QOPS.nil (fun w225 hp226 => ?_)
                    refine thn_n ?_
                    exact ⟨false, trivial, Bp.of Bp.f (by first | (simp only [h189, h194, h199, iff_false, false_iff, iff_true, true_iff, Classical.not_not, and_true, true_and, and_false, false_and, or_true, true_or, or_false, false_or, not_true_eq_false, not_false_eq_true, and_self, or_self, iff_self]; done) | (simp [h189, h194, h199]; done) | simp_all), by kernel_rfl, hp226⟩
                · refine QOPS.batch 0 {} [] [0, 1, 5, 11, 12, 13, 14, 91, 92, 93, 98, 99, 100, 112] [.slice a l.length cp, .slice ao no co, .slice (some ⟨g5, 0, none⟩) l.length l.length, .int .i64 (i : Int), .pointer (some ⟨g153, 0, none⟩), .int .i64 (j : Int), .pointer (some ⟨g173, 0, none⟩), .slice a l.length cp, .int .i64 ((l.length : Nat) : Int), .int .i64 (i : Int), .slice a l.length cp, .int .i64 ((l.length : Nat) : Int), .int .i64 (j : Int), .bool (decide (0 ≤ (l[i]!.To)))] hnehp180 (fun _ _ => QB.mk .nil (by kernel_rfl)) (fun b227 => ?_)
                  refine QOPS.re [.slice a l.length cp, .slice ao no co, .slice (some ⟨g5, 0, none⟩) l.length l.length, .int .i64 (i : Int), .pointer (some ⟨g153, 0, none⟩), .int .i64 (j : Int), .pointer (some ⟨g173, 0, none⟩), .slice a l.length cp, .int .i64 ((l.length : Nat) : Int), .int .i64 (i : Int), .slice a l.length cp, .int .i64 ((l.length : Nat) : Int), .int .i64 (j : Int), .bool false] (by rw [show (decide (0 ≤ (l[i]!.To))) = false from Bp.dec.ff h194]) ?_
                  refine QOPS.batch 24 { wraps := [118, 125, 136] } [] [0, 1, 5, 11, 12, 91, 92, 93, 98, 99, 100, 136] [.slice a l.length cp, .slice ao no co, .slice (some ⟨g5, 0, none⟩) l.length l.length, .int .i64 (i : Int), .pointer (some ⟨g153, 0, none⟩), .slice a l.length cp, .int .i64 ((l.length : Nat) : Int), .int .i64 (i : Int), .slice a l.length cp, .int .i64 ((l.length : Nat) : Int), .int .i64 (j : Int), .bool false] hnehp180 (fun w228 hp229 => QB.mk .nil (by kernel_rfl)) (fun b230 => ?_)
                  refine QOPS.nil (fun w231 hp232 => ?_)
                  refine thn_n ?_
                  exact ⟨false, trivial, Bp.of Bp.f (by first | (simp only [h189, h194, iff_false, false_iff, iff_true, true_iff, Classical.not_not, and_true, true_and, and_false, false_and, or_true, true_or, or_false, false_or, not_true_eq_false, not_false_eq_true, and_self, or_self, iff_self]; done) | (simp [h189, h194]; done) | simp_all), by kernel_rfl, hp232⟩
              · refine QOPS.batch 0 {} [] [0, 1, 5, 11, 12, 13, 14, 91, 92, 93, 98, 99, 100, 107] [.slice a l.length cp, .slice ao no co, .slice (some ⟨g5, 0, none⟩) l.length l.length, .int .i64 (i : Int), .pointer (some ⟨g153, 0, none⟩), .int .i64 (j : Int), .pointer (some ⟨g173, 0, none⟩), .slice a l.length cp, .int .i64 ((l.length : Nat) : Int), .int .i64 (i : Int), .slice a l.length cp, .int .i64 ((l.length : Nat) : Int), .int .i64 (j : Int), .bool (bo (mustC (l[i]!)))] hnehp180 (fun _ _ => QB.mk .nil (by kernel_rfl)) (fun b233 => ?_)
                refine QOPS.re [.slice a l.length cp, .slice ao no co, .slice (some ⟨g5, 0, none⟩) l.length l.length, .int .i64 (i : Int), .pointer (some ⟨g153, 0, none⟩), .int .i64 (j : Int), .pointer (some ⟨g173, 0, none⟩), .slice a l.length cp, .int .i64 ((l.length : Nat) : Int), .int .i64 (i : Int), .slice a l.length cp, .int .i64 ((l.length : Nat) : Int), .int .i64 (j : Int), .bool false] (by rw [show (bo (mustC (l[i]!))) = false from Bp.bo.ff h189]) ?_
                refine QOPS.batch 29 { wraps := [111, 118, 125, 136] } [] [0, 1, 5, 11, 12, 91, 92, 93, 98, 99, 100, 136] [.slice a l.length cp, .slice ao no co, .slice (some ⟨g5, 0, none⟩) l.length l.length, .int .i64 (i : Int), .pointer (some ⟨g153, 0, none⟩), .slice a l.length cp, .int .i64 ((l.length : Nat) : Int), .int .i64 (i : Int), .slice a l.length cp, .int .i64 ((l.length : Nat) : Int), .int .i64 (j : Int), .bool false] hnehp180 (fun w234 hp235 => QB.mk .nil (by kernel_rfl)) (fun b236 => ?_)
                refine QOPS.nil (fun w237 hp238 => ?_)
                refine thn_n ?_
                exact ⟨false, trivial, Bp.of Bp.f (by first | (simp only [h189, iff_false, false_iff, iff_true, true_iff, Classical.not_not, and_true, true_and, and_false, false_and, or_true, true_or, or_false, false_or, not_true_eq_false, not_false_eq_true, and_self, or_self, iff_self]; done) | (simp [h189]; done) | simp_all), by kernel_rfl, hp238⟩
            rintro e241 w242 ⟨x239, hd244, hb240, hE245, hp243⟩
            obtain ⟨b246, rfl⟩ := toMk hE245
            clear hE245
            clear hd244
            refine WP.test (p := (mustC (l[i]!)) ∧ (0 ≤ (l[i]!.To)) ∧ ((l[i]!.To) < (l[j]!.From)) ∧ (0 ≤ (ay[j]!)) ∧ ((ay[j]!) < (ay[i]!))) rfl hb240 (fun h247 => ?_) (fun h247 => ?_)
            · refine WP.seq ?_
              refine WP.pure {} [] [4] [.bool false] .nil (by kernel_rfl) (fun b248 => ?_)
              refine thn_n ?_
              refine WP.ret ?_
              refine blk_r ?_
              refine thn_r ?_
              refine thn_r ?_
              refine blk_r ?_
              refine blk_r ?_
              refine thn_r ?_
              refine thn_r ?_
              refine blk_r ?_
              refine thn_r ?_
              refine bodyQ.of _ rfl [.bool false] ⟨rfl, trivial⟩ ?_
              exact ⟨_, rfl, Bp.of Bp.f (by exact ⟨fun h => h.elim, fun h => by have hh := h.ord i j (by omega) (by omega) h247.1 h247.2.1 h247.2.2.1 (posI_nn.1 (by rw [← c4 j (by omega)]; exact h247.2.2.2.1)); rw [← c4 i (by omega), ← c4 j (by omega)] at hh; have := h247.2.2.2.2; omega⟩), hp243.fr⟩
            · refine WP.skip ?_
              refine blk_n ?_
              refine thn_n ?_
              refine WP.pure {} [] [0, 1, 5, 11, 12, 91, 92, 93, 98, 99, 100] [.slice a l.length cp, .slice ao no co, .slice (some ⟨g5, 0, none⟩) l.length l.length, .int .i64 (i : Int), .pointer (some ⟨g153, 0, none⟩), .slice a l.length cp, .int .i64 ((l.length : Nat) : Int), .int .i64 (i : Int), .slice a l.length cp, .int .i64 ((l.length : Nat) : Int), .int .i64 ((j : Int) + 1)] (.cons (show Rng .i64 ((j : Int) + 1) from Rng.i64 (by omega)) .nil) (by kernel_rfl) (fun b249 => ?_)
              refine thn_n ?_
              exact ⟨l.length - (j + 1), (by omega), j + 1, rfl, ⟨by omega, fun y hy => by rcases Nat.lt_or_ge y j with q | q; exact j2 y q; (obtain rfl : y = j := by omega); exact fun q1 q2 q3 q4 => Classical.byContradiction fun hn => h247 ⟨q1, q2, q3, by rw [c4 y (by omega)]; exact posI_nn.2 q4, by rw [c4 y (by omega), c4 i (by omega)]; omega⟩⟩, by kernel_rfl, (hp243.sub (.cons _ (.cons_cons _ (.cons_cons _ (.slnil)))))⟩
          · refine WP.exit ?_
            refine thn_x ?_
            refine thn_x ?_
            refine blk_hit ?_
            refine blk_n ?_
            refine thn_n ?_
            refine WP.pure {} [] [0, 1, 5, 91, 92, 93] [.slice a l.length cp, .slice ao no co, .slice (some ⟨g5, 0, none⟩) l.length l.length, .slice a l.length cp, .int .i64 ((l.length : Nat) : Int), .int .i64 ((i : Int) + 1)] (.cons (show Rng .i64 ((i : Int) + 1) from Rng.i64 (by omega)) .nil) (by kernel_rfl) (fun b250 => ?_)
            refine thn_n ?_
            exact ⟨l.length - (i + 1), (by omega), i + 1, rfl, ⟨by omega, fun x y hx hy => by rcases Nat.lt_or_ge x i with q | q; exact f2 x y q hy; (obtain rfl : x = i := by omega); exact j2 y (by omega)⟩, by kernel_rfl, (hp160.sub (.cons _ (.cons_cons _ (.slnil))))⟩
        · refine WP.exit ?_
          refine thn_x ?_
          refine thn_x ?_
          refine blk_hit ?_
          refine thn_n ?_
          refine WP.seq ?_
          refine WP.pure {} [] [0, 1, 15] [.slice a l.length cp, .slice ao no co, .int .i64 (-1)] .nil (by kernel_rfl) (fun b251 => ?_)
          refine thn_n ?_
          refine WP.seq ?_
          refine WP.seq ?_
          refine WP.pure {} [] [0, 15, 139, 140, 141] [.slice a l.length cp, .int .i64 (-1), .slice ao no co, .int .i64 ((no : Nat) : Int), .int .i64 0] .nil (by kernel_rfl) (fun b252 => ?_)
          refine thn_n ?_
          refine WP.block ?_
          refine WP.loop (fun mz_ e253 w254 => ∃ (q : Nat) (la : Int), mz_ = os.length - q ∧ (q ≤ os.length ∧ la = lastOf l (os.take q) ∧ ∀ k, k < q → l[os[k]!]!.Put = true ∨ explP (valAt w) l l[os[k]!]! (lastOf l (os.take k))) ∧ List.map e253 [0, 15, 139, 140, 141] = [.slice a l.length cp, .int .i64 la, .slice ao no co, .int .i64 ((no : Nat) : Int), .int .i64 (q : Int)] ∧ Hp w Non [Res.own 3 1 (.slice (some ⟨g5, 0, none⟩) l.length l.length) l.length (List.flatMap (fun y => [.int .i64 y]) ay)] w254) (os.length - (0)) ⟨0, (-1), rfl, ⟨by omega, rfl, fun k hk => by omega⟩, by kernel_rfl, hp140⟩ ?_
          rintro _ e253 w254 ⟨q, la, rfl, hI256, hE257, hp255⟩
          obtain ⟨b258, rfl⟩ := toMk hE257
          clear hE257
          obtain ⟨g1, g2, g3⟩ := hI256
          have hqx : ¬ q < os.length ∨ os[q]! < l.length := by rcases Nat.lt_or_ge q os.length with z | z; exact .inr (c3.2 _ (List.mem_of_getElem? (get_bang z))).1; exact .inl (by omega)
          have hlm : ¬ 0 ≤ la ∨ la < (l.length : Int) := .inr (by rw [g2]; exact lastOf_lt (l := l) (pre := os.take q) (fun x hx => (c3.2 x (List.mem_of_mem_take hx)).1))
          have hla := lastOf_lt (l := l) (pre := os.take q) (fun x hx => (c3.2 x (List.mem_of_mem_take hx)).1)
          refine WP.seq ?_
          refine WP.pure {} [] [0, 15, 139, 140, 141, 142] [.slice a l.length cp, .int .i64 la, .slice ao no co, .int .i64 ((no : Nat) : Int), .int .i64 (q : Int), .bool (decide ((q : Int) < ((no : Nat) : Int)))] .nil (by kernel_rfl) (fun b259 => ?_)
          refine thn_n ?_
          refine WP.seq ?_
          refine WP.test (p := (q : Int) < ((no : Nat) : Int)) rfl Bp.dec (fun h260 => ?_) (fun h260 => ?_)
          · refine WP.skip ?_
            refine thn_n ?_
            refine WP.seq ?_
            refine WP.block ?_
            refine WP.seq ?_
            have hy262 : (os)[q]? = some os[q]! := get_bang (by first | (omega) | (simp only [List.length_append, List.length_cons, List.length_nil]; omega))
            refine WP.pure {} [.int .i64 ((os[q]! : Nat) : Int)] [0, 15, 17, 139, 140, 141] [.slice a l.length cp, .int .i64 la, .int .i64 ((os[q]! : Nat) : Int), .slice ao no co, .int .i64 ((no : Nat) : Int), .int .i64 (q : Int)] (.cons (show InB ((q : Int)) (no) from ⟨by omega, by omega⟩) (.cons ((h2.at hp255).some (by omega)) (.cons (Ld.add0 (Ld.el1 (P := Try.prog) (t := 3) (h2.at hp255).rd 1 (fun _ => rfl) hy262 (o := 0) (v := .int .i64 ((os[q]! : Nat) : Int)) (by kernel_rfl))) .nil))) (by kernel_rfl) (fun b263 => ?_)
            refine thn_n ?_
            refine WP.seq ?_
            refine WP.region _ rfl (by kernel_rfl) ?_
            have hy267 : (l)[(os[q]!)]? = some l[(os[q]!)]! := get_bang (by first | (omega) | (simp only [List.length_append, List.length_cons, List.length_nil]; omega))
            refine OPS.batch 4 {} [GCall.val (l[(os[q]!)]!)] [0, 15, 17, 139, 140, 141, 148] [.slice a l.length cp, .int .i64 la, .int .i64 ((os[q]! : Nat) : Int), .slice ao no co, .int .i64 ((no : Nat) : Int), .int .i64 (q : Int), GCall.val (l[(os[q]!)]!)] (.cons (show InB (((os[q]! : Nat) : Int)) (l.length) from ⟨by omega, by omega⟩) (.cons ((hs.at hp255).some (by omega)) (.cons (Ld.add0 (Ld.elN (P := Try.prog) (t := 41) (hs.at hp255).rd 11 (fun _ => rfl) hy267 (o := 0) (cs := [.int .i64 (l[(os[q]!)]!.Client), .int .i64 (l[(os[q]!)]!.Op), .bool (l[(os[q]!)]!.Put), .string (l[(os[q]!)]!.Key), .slice (l[(os[q]!)]!.Value.a) (l[(os[q]!)]!.Value.n) (l[(os[q]!)]!.Value.c), .int .i64 (l[(os[q]!)]!.Status), .int .i64 (l[(os[q]!)]!.From), .int .i64 (l[(os[q]!)]!.To), .bool (l[(os[q]!)]!.Open), .int .i64 (l[(os[q]!)]!.Tag.Count), .int .i64 (l[(os[q]!)]!.Tag.Client)]) (by kernel_rfl))) .nil))) (by kernel_rfl) (fun b268 => ?_)
            refine OPS.cons (opStep.alloc hp255 [.int .i64 0, .int .i64 0, .bool false, .string ByteArray.empty, .slice none 0 0, .int .i64 0, .int .i64 0, .int .i64 0, .bool false, .int .i64 0, .int .i64 0] (by kernel_rfl) (fun g271 w269 hp270 => ?_))
            refine OPS.cons (opStep.store0 hp270 rfl [.int .i64 (l[(os[q]!)]!.Client), .int .i64 (l[(os[q]!)]!.Op), .bool (l[(os[q]!)]!.Put), .string (l[(os[q]!)]!.Key), .slice (l[(os[q]!)]!.Value.a) (l[(os[q]!)]!.Value.n) (l[(os[q]!)]!.Value.c), .int .i64 (l[(os[q]!)]!.Status), .int .i64 (l[(os[q]!)]!.From), .int .i64 (l[(os[q]!)]!.To), .bool (l[(os[q]!)]!.Open), .int .i64 (l[(os[q]!)]!.Tag.Count), .int .i64 (l[(os[q]!)]!.Tag.Client)] [.int .i64 (l[(os[q]!)]!.Client), .int .i64 (l[(os[q]!)]!.Op), .bool (l[(os[q]!)]!.Put), .string (l[(os[q]!)]!.Key), .slice (l[(os[q]!)]!.Value.a) (l[(os[q]!)]!.Value.n) (l[(os[q]!)]!.Value.c), .int .i64 (l[(os[q]!)]!.Status), .int .i64 (l[(os[q]!)]!.From), .int .i64 (l[(os[q]!)]!.To), .bool (l[(os[q]!)]!.Open), .int .i64 (l[(os[q]!)]!.Tag.Count), .int .i64 (l[(os[q]!)]!.Tag.Client)] (by kernel_rfl) (fun w272 hp273 => ?_))
            refine OPS.nil ?_
            refine thn_n ?_
            refine WP.block ?_
            refine WP.seq ?_
            refine WP.pure {} [.bool (l[(os[q]!)]!.Put)] [0, 15, 17, 18, 139, 140, 141, 149] [.slice a l.length cp, .int .i64 la, .int .i64 ((os[q]! : Nat) : Int), .pointer (some ⟨g271, 0, none⟩), .slice ao no co, .int .i64 ((no : Nat) : Int), .int .i64 (q : Int), .bool (l[(os[q]!)]!.Put)] (.cons (Ld.row1 (P := Try.prog) (t := 4) (o := 2) (v := .bool (l[(os[q]!)]!.Put)) hp273.get0 (by kernel_rfl)) .nil) (by kernel_rfl) (fun b274 => ?_)
            refine thn_n ?_
            refine WP.test (p := (l[(os[q]!)]!.Put) = true) rfl Bp.var (fun h275 => ?_) (fun h275 => ?_)
            · refine WP.pure {} [] [0, 15, 139, 140, 141] [.slice a l.length cp, .int .i64 ((os[q]! : Nat) : Int), .slice ao no co, .int .i64 ((no : Nat) : Int), .int .i64 (q : Int)] .nil (by kernel_rfl) (fun b276 => ?_)
              refine blk_n ?_
              refine blk_n ?_
              refine thn_n ?_
              refine WP.pure {} [] [0, 15, 139, 140, 141] [.slice a l.length cp, .int .i64 ((os[q]! : Nat) : Int), .slice ao no co, .int .i64 ((no : Nat) : Int), .int .i64 ((q : Int) + 1)] (.cons (show Rng .i64 ((q : Int) + 1) from Rng.i64 (by omega)) .nil) (by kernel_rfl) (fun b277 => ?_)
              refine thn_n ?_
              exact ⟨os.length - (q + 1), (by omega), q + 1, ((os[q]! : Nat) : Int), rfl, ⟨by omega, by rw [take_snoc_get (by omega), lastOf_snoc, if_pos h275], fun k hk => by rcases Nat.lt_or_ge k q with z | z; exact g3 k z; (obtain rfl : k = q := by omega); exact .inl h275⟩, by kernel_rfl, (hp273.sub (.cons _ (.cons_cons _ (.slnil))))⟩
            · refine WP.cut (fun e287 w288 => ∃ (x285 : Bool), (True) ∧ Bp x285 (((l[(os[q]!)]!.Status) = 76) ∧ (0 ≤ la)) ∧ List.map e287 [0, 15, 18, 139, 140, 141, 153] = [.slice a l.length cp, .int .i64 la, .pointer (some ⟨g271, 0, none⟩), .slice ao no co, .int .i64 ((no : Nat) : Int), .int .i64 (q : Int), .bool x285] ∧ Hp w Non [Res.row g271 [.int .i64 (l[(os[q]!)]!.Client), .int .i64 (l[(os[q]!)]!.Op), .bool (l[(os[q]!)]!.Put), .string (l[(os[q]!)]!.Key), .slice (l[(os[q]!)]!.Value.a) (l[(os[q]!)]!.Value.n) (l[(os[q]!)]!.Value.c), .int .i64 (l[(os[q]!)]!.Status), .int .i64 (l[(os[q]!)]!.From), .int .i64 (l[(os[q]!)]!.To), .bool (l[(os[q]!)]!.Open), .int .i64 (l[(os[q]!)]!.Tag.Count), .int .i64 (l[(os[q]!)]!.Tag.Client)] 41, Res.own 3 1 (.slice (some ⟨g5, 0, none⟩) l.length l.length) l.length (List.flatMap (fun y => [.int .i64 y]) ay)] w288) ?_ ?_
              · refine WP.region _ rfl (by kernel_rfl) ?_
                refine OPS.batch 4 {} [.int .i64 (l[(os[q]!)]!.Status)] [0, 15, 18, 139, 140, 141, 157] [.slice a l.length cp, .int .i64 la, .pointer (some ⟨g271, 0, none⟩), .slice ao no co, .int .i64 ((no : Nat) : Int), .int .i64 (q : Int), .bool (decide ((l[(os[q]!)]!.Status) = 76))] (.cons (Ld.row1 (P := Try.prog) (t := 27) (o := 5) (v := .int .i64 (l[(os[q]!)]!.Status)) hp273.get0 (by kernel_rfl)) .nil) (by kernel_rfl) (fun b279 => ?_)
                by_cases h280 : (l[(os[q]!)]!.Status) = 76
                · refine OPS.batch 0 {} [] [0, 15, 18, 139, 140, 141, 157] [.slice a l.length cp, .int .i64 la, .pointer (some ⟨g271, 0, none⟩), .slice ao no co, .int .i64 ((no : Nat) : Int), .int .i64 (q : Int), .bool (decide ((l[(os[q]!)]!.Status) = 76))] .nil (by kernel_rfl) (fun b281 => ?_)
                  refine OPS.re [.slice a l.length cp, .int .i64 la, .pointer (some ⟨g271, 0, none⟩), .slice ao no co, .int .i64 ((no : Nat) : Int), .int .i64 (q : Int), .bool true] (by rw [show (decide ((l[(os[q]!)]!.Status) = 76)) = true from Bp.dec.tt h280]) ?_
                  refine OPS.batch 4 { wraps := [160] } [] [0, 15, 18, 139, 140, 141, 153] [.slice a l.length cp, .int .i64 la, .pointer (some ⟨g271, 0, none⟩), .slice ao no co, .int .i64 ((no : Nat) : Int), .int .i64 (q : Int), .bool (decide (0 ≤ la))] .nil (by kernel_rfl) (fun b282 => ?_)
                  refine OPS.nil ?_
                  refine thn_n ?_
                  exact ⟨decide (0 ≤ la), trivial, Bp.of Bp.dec (by first | (simp only [h280, iff_false, false_iff, iff_true, true_iff, Classical.not_not, and_true, true_and, and_false, false_and, or_true, true_or, or_false, false_or, not_true_eq_false, not_false_eq_true, and_self, or_self, iff_self]; done) | (simp [h280]; done) | simp_all), by kernel_rfl, hp273⟩
                · refine OPS.batch 0 {} [] [0, 15, 18, 139, 140, 141, 157] [.slice a l.length cp, .int .i64 la, .pointer (some ⟨g271, 0, none⟩), .slice ao no co, .int .i64 ((no : Nat) : Int), .int .i64 (q : Int), .bool (decide ((l[(os[q]!)]!.Status) = 76))] .nil (by kernel_rfl) (fun b283 => ?_)
                  refine OPS.re [.slice a l.length cp, .int .i64 la, .pointer (some ⟨g271, 0, none⟩), .slice ao no co, .int .i64 ((no : Nat) : Int), .int .i64 (q : Int), .bool false] (by rw [show (decide ((l[(os[q]!)]!.Status) = 76)) = false from Bp.dec.ff h280]) ?_
                  refine OPS.batch 4 { wraps := [160] } [] [0, 15, 18, 139, 140, 141, 153] [.slice a l.length cp, .int .i64 la, .pointer (some ⟨g271, 0, none⟩), .slice ao no co, .int .i64 ((no : Nat) : Int), .int .i64 (q : Int), .bool false] .nil (by kernel_rfl) (fun b284 => ?_)
                  refine OPS.nil ?_
                  refine thn_n ?_
                  exact ⟨false, trivial, Bp.of Bp.f (by first | (simp only [h280, iff_false, false_iff, iff_true, true_iff, Classical.not_not, and_true, true_and, and_false, false_and, or_true, true_or, or_false, false_or, not_true_eq_false, not_false_eq_true, and_self, or_self, iff_self]; done) | (simp [h280]; done) | simp_all), by kernel_rfl, hp273⟩
              rintro e287 w288 ⟨x285, hd290, hb286, hE291, hp289⟩
              obtain ⟨b292, rfl⟩ := toMk hE291
              clear hE291
              clear hd290
              refine WP.test (p := ((l[(os[q]!)]!.Status) = 76) ∧ (0 ≤ la)) rfl hb286 (fun h293 => ?_) (fun h293 => ?_)
              · refine WP.seq ?_
                refine WP.pure {} [] [4] [.bool false] .nil (by kernel_rfl) (fun b294 => ?_)
                refine thn_n ?_
                refine WP.ret ?_
                refine blk_r ?_
                refine blk_r ?_
                refine thn_r ?_
                refine thn_r ?_
                refine blk_r ?_
                refine thn_r ?_
                refine bodyQ.of _ rfl [.bool false] ⟨rfl, trivial⟩ ?_
                exact ⟨_, rfl, Bp.of Bp.f (by exact ⟨fun h => h.elim, fun h => by have hh := (h.rd q (by omega)).resolve_left h275; rw [← g2, read_iff (c3.2 _ (List.mem_of_getElem? (get_bang (by omega)))).2 h275 (by omega)] at hh; exact hh.1 h293⟩), hp289.fr⟩
              · refine WP.cut (fun e330 w331 => ∃ (x328 : Bool), (True) ∧ Bp x328 ((((l[(os[q]!)]!.Status) = 0) ∧ (la < 0)) ∨ (((l[(os[q]!)]!.Status) = 0) ∧ (¬ (la < 0)) ∧ (¬ ((valAt w l[(la : Int).toNat]!.Value) = (valAt w l[(os[q]!)]!.Value))))) ∧ List.map e330 [0, 15, 139, 140, 141, 161] = [.slice a l.length cp, .int .i64 la, .slice ao no co, .int .i64 ((no : Nat) : Int), .int .i64 (q : Int), .bool x328] ∧ Hp w Non [Res.row g271 [.int .i64 (l[(os[q]!)]!.Client), .int .i64 (l[(os[q]!)]!.Op), .bool (l[(os[q]!)]!.Put), .string (l[(os[q]!)]!.Key), .slice (l[(os[q]!)]!.Value.a) (l[(os[q]!)]!.Value.n) (l[(os[q]!)]!.Value.c), .int .i64 (l[(os[q]!)]!.Status), .int .i64 (l[(os[q]!)]!.From), .int .i64 (l[(os[q]!)]!.To), .bool (l[(os[q]!)]!.Open), .int .i64 (l[(os[q]!)]!.Tag.Count), .int .i64 (l[(os[q]!)]!.Tag.Client)] 41, Res.own 3 1 (.slice (some ⟨g5, 0, none⟩) l.length l.length) l.length (List.flatMap (fun y => [.int .i64 y]) ay)] w331) ?_ ?_
                · have hp298 := hp289.drew
                  refine WP.quiet (fun w296 => Hp w Non [Res.row g271 [.int .i64 (l[(os[q]!)]!.Client), .int .i64 (l[(os[q]!)]!.Op), .bool (l[(os[q]!)]!.Put), .string (l[(os[q]!)]!.Key), .slice (l[(os[q]!)]!.Value.a) (l[(os[q]!)]!.Value.n) (l[(os[q]!)]!.Value.c), .int .i64 (l[(os[q]!)]!.Status), .int .i64 (l[(os[q]!)]!.From), .int .i64 (l[(os[q]!)]!.To), .bool (l[(os[q]!)]!.Open), .int .i64 (l[(os[q]!)]!.Tag.Count), .int .i64 (l[(os[q]!)]!.Tag.Client)] 41, Res.own 3 1 (.slice (some ⟨g5, 0, none⟩) l.length l.length) l.length (List.flatMap (fun y => [.int .i64 y]) ay)] w296) (by kernel_rfl) hp298 ?_
                  have hnehp298 : ∃ wz_, (fun w296 => Hp w Non [Res.row g271 [.int .i64 (l[(os[q]!)]!.Client), .int .i64 (l[(os[q]!)]!.Op), .bool (l[(os[q]!)]!.Put), .string (l[(os[q]!)]!.Key), .slice (l[(os[q]!)]!.Value.a) (l[(os[q]!)]!.Value.n) (l[(os[q]!)]!.Value.c), .int .i64 (l[(os[q]!)]!.Status), .int .i64 (l[(os[q]!)]!.From), .int .i64 (l[(os[q]!)]!.To), .bool (l[(os[q]!)]!.Open), .int .i64 (l[(os[q]!)]!.Tag.Count), .int .i64 (l[(os[q]!)]!.Tag.Client)] 41, Res.own 3 1 (.slice (some ⟨g5, 0, none⟩) l.length l.length) l.length (List.flatMap (fun y => [.int .i64 y]) ay)] w296) wz_ := ⟨_, hp298⟩
                  refine QOPS.batch 4 {} [.int .i64 (l[(os[q]!)]!.Status)] [0, 15, 18, 139, 140, 141, 165] [.slice a l.length cp, .int .i64 la, .pointer (some ⟨g271, 0, none⟩), .slice ao no co, .int .i64 ((no : Nat) : Int), .int .i64 (q : Int), .bool (decide ((l[(os[q]!)]!.Status) = 0))] hnehp298 (fun w299 hp300 => QB.mk (.cons (Ld.row1 (P := Try.prog) (t := 27) (o := 5) (v := .int .i64 (l[(os[q]!)]!.Status)) hp300.get0 (by kernel_rfl)) .nil) (by kernel_rfl)) (fun b301 => ?_)
                  by_cases h302 : (l[(os[q]!)]!.Status) = 0
                  · refine QOPS.batch 0 {} [] [0, 15, 18, 139, 140, 141, 165] [.slice a l.length cp, .int .i64 la, .pointer (some ⟨g271, 0, none⟩), .slice ao no co, .int .i64 ((no : Nat) : Int), .int .i64 (q : Int), .bool (decide ((l[(os[q]!)]!.Status) = 0))] hnehp298 (fun _ _ => QB.mk .nil (by kernel_rfl)) (fun b303 => ?_)
                    refine QOPS.re [.slice a l.length cp, .int .i64 la, .pointer (some ⟨g271, 0, none⟩), .slice ao no co, .int .i64 ((no : Nat) : Int), .int .i64 (q : Int), .bool true] (by rw [show (decide ((l[(os[q]!)]!.Status) = 0)) = true from Bp.dec.tt h302]) ?_
                    refine QOPS.batch 3 {} [] [0, 15, 18, 139, 140, 141, 165, 168] [.slice a l.length cp, .int .i64 la, .pointer (some ⟨g271, 0, none⟩), .slice ao no co, .int .i64 ((no : Nat) : Int), .int .i64 (q : Int), .bool true, .bool (decide (la < 0))] hnehp298 (fun w304 hp305 => QB.mk .nil (by kernel_rfl)) (fun b306 => ?_)
                    by_cases h307 : la < 0
                    · refine QOPS.batch 0 {} [] [0, 15, 18, 139, 140, 141, 165, 168] [.slice a l.length cp, .int .i64 la, .pointer (some ⟨g271, 0, none⟩), .slice ao no co, .int .i64 ((no : Nat) : Int), .int .i64 (q : Int), .bool true, .bool (decide (la < 0))] hnehp298 (fun _ _ => QB.mk .nil (by kernel_rfl)) (fun b308 => ?_)
                      refine QOPS.re [.slice a l.length cp, .int .i64 la, .pointer (some ⟨g271, 0, none⟩), .slice ao no co, .int .i64 ((no : Nat) : Int), .int .i64 (q : Int), .bool true, .bool true] (by rw [show (decide (la < 0)) = true from Bp.dec.tt h307]) ?_
                      refine QOPS.batch 13 { wraps := [179, 180] } [] [0, 15, 139, 140, 141, 161] [.slice a l.length cp, .int .i64 la, .slice ao no co, .int .i64 ((no : Nat) : Int), .int .i64 (q : Int), .bool true] hnehp298 (fun w309 hp310 => QB.mk .nil (by kernel_rfl)) (fun b311 => ?_)
                      refine QOPS.nil (fun w312 hp313 => ?_)
                      refine thn_n ?_
                      exact ⟨true, trivial, Bp.of Bp.t (by first | (simp only [h302, h307, iff_false, false_iff, iff_true, true_iff, Classical.not_not, and_true, true_and, and_false, false_and, or_true, true_or, or_false, false_or, not_true_eq_false, not_false_eq_true, and_self, or_self, iff_self]; done) | (simp [h302, h307]; done) | simp_all), by kernel_rfl, hp313⟩
                    · refine QOPS.batch 0 {} [] [0, 15, 18, 139, 140, 141, 165, 168] [.slice a l.length cp, .int .i64 la, .pointer (some ⟨g271, 0, none⟩), .slice ao no co, .int .i64 ((no : Nat) : Int), .int .i64 (q : Int), .bool true, .bool (decide (la < 0))] hnehp298 (fun _ _ => QB.mk .nil (by kernel_rfl)) (fun b314 => ?_)
                      refine QOPS.re [.slice a l.length cp, .int .i64 la, .pointer (some ⟨g271, 0, none⟩), .slice ao no co, .int .i64 ((no : Nat) : Int), .int .i64 (q : Int), .bool true, .bool false] (by rw [show (decide (la < 0)) = false from Bp.dec.ff h307]) ?_
                      have hy318 : (l)[(la : Int).toNat]? = some l[(la : Int).toNat]! := get_bang (by first | (omega) | (simp only [List.length_append, List.length_cons, List.length_nil]; omega))
                      refine QOPS.batch 13 { wraps := [179, 180] } [.slice (l[(la : Int).toNat]!.Value.a) (l[(la : Int).toNat]!.Value.n) (l[(la : Int).toNat]!.Value.c), .string (valAt w l[(la : Int).toNat]!.Value), .slice (l[(os[q]!)]!.Value.a) (l[(os[q]!)]!.Value.n) (l[(os[q]!)]!.Value.c), .string (valAt w l[(os[q]!)]!.Value)] [0, 15, 139, 140, 141, 161] [.slice a l.length cp, .int .i64 la, .slice ao no co, .int .i64 ((no : Nat) : Int), .int .i64 (q : Int), .bool (decide (¬ ((valAt w l[(la : Int).toNat]!.Value) = (valAt w l[(os[q]!)]!.Value))))] hnehp298 (fun w315 hp316 => QB.mk (.cons (show InB (la) (l.length) from ⟨by omega, by omega⟩) (.cons ((hs.at hp316).some (by omega)) (.cons (Ld.el1 (P := Try.prog) (t := 39) (hs.at hp316).rd 11 (fun _ => rfl) hy318 (o := 4) (v := .slice (l[(la : Int).toNat]!.Value.a) (l[(la : Int).toNat]!.Value.n) (l[(la : Int).toNat]!.Value.c)) (by kernel_rfl)) (.cons (VB.bs (P := Try.prog) (hv l[(la : Int).toNat]! (List.mem_of_getElem? hy318)) hp316) (.cons (Ld.row1 (P := Try.prog) (t := 39) (o := 4) (v := .slice (l[(os[q]!)]!.Value.a) (l[(os[q]!)]!.Value.n) (l[(os[q]!)]!.Value.c)) hp316.get0 (by kernel_rfl)) (.cons (VB.bs (P := Try.prog) (hv l[(os[q]!)]! (List.mem_of_getElem? hy267)) hp316) .nil)))))) (by kernel_rfl)) (fun b319 => ?_)
                      refine QOPS.nil (fun w320 hp321 => ?_)
                      refine thn_n ?_
                      exact ⟨decide (¬ ((valAt w l[(la : Int).toNat]!.Value) = (valAt w l[(os[q]!)]!.Value))), trivial, Bp.of Bp.dec (by first | (simp only [h302, h307, iff_false, false_iff, iff_true, true_iff, Classical.not_not, and_true, true_and, and_false, false_and, or_true, true_or, or_false, false_or, not_true_eq_false, not_false_eq_true, and_self, or_self, iff_self]; done) | (simp [h302, h307]; done) | simp_all), by kernel_rfl, hp321⟩
                  · refine QOPS.batch 0 {} [] [0, 15, 18, 139, 140, 141, 165] [.slice a l.length cp, .int .i64 la, .pointer (some ⟨g271, 0, none⟩), .slice ao no co, .int .i64 ((no : Nat) : Int), .int .i64 (q : Int), .bool (decide ((l[(os[q]!)]!.Status) = 0))] hnehp298 (fun _ _ => QB.mk .nil (by kernel_rfl)) (fun b322 => ?_)
                    refine QOPS.re [.slice a l.length cp, .int .i64 la, .pointer (some ⟨g271, 0, none⟩), .slice ao no co, .int .i64 ((no : Nat) : Int), .int .i64 (q : Int), .bool false] (by rw [show (decide ((l[(os[q]!)]!.Status) = 0)) = false from Bp.dec.ff h302]) ?_
                    refine QOPS.batch 16 { wraps := [180] } [] [0, 15, 139, 140, 141, 161] [.slice a l.length cp, .int .i64 la, .slice ao no co, .int .i64 ((no : Nat) : Int), .int .i64 (q : Int), .bool false] hnehp298 (fun w323 hp324 => QB.mk .nil (by kernel_rfl)) (fun b325 => ?_)
                    refine QOPS.nil (fun w326 hp327 => ?_)
                    refine thn_n ?_
                    exact ⟨false, trivial, Bp.of Bp.f (by first | (simp only [h302, iff_false, false_iff, iff_true, true_iff, Classical.not_not, and_true, true_and, and_false, false_and, or_true, true_or, or_false, false_or, not_true_eq_false, not_false_eq_true, and_self, or_self, iff_self]; done) | (simp [h302]; done) | simp_all), by kernel_rfl, hp327⟩
                rintro e330 w331 ⟨x328, hd333, hb329, hE334, hp332⟩
                obtain ⟨b335, rfl⟩ := toMk hE334
                clear hE334
                clear hd333
                refine WP.test (p := (((l[(os[q]!)]!.Status) = 0) ∧ (la < 0)) ∨ (((l[(os[q]!)]!.Status) = 0) ∧ (¬ (la < 0)) ∧ (¬ ((valAt w l[(la : Int).toNat]!.Value) = (valAt w l[(os[q]!)]!.Value))))) rfl hb329 (fun h336 => ?_) (fun h336 => ?_)
                · refine WP.seq ?_
                  refine WP.pure {} [] [4] [.bool false] .nil (by kernel_rfl) (fun b337 => ?_)
                  refine thn_n ?_
                  refine WP.ret ?_
                  refine blk_r ?_
                  refine blk_r ?_
                  refine thn_r ?_
                  refine thn_r ?_
                  refine blk_r ?_
                  refine thn_r ?_
                  refine bodyQ.of _ rfl [.bool false] ⟨rfl, trivial⟩ ?_
                  exact ⟨_, rfl, Bp.of Bp.f (by exact ⟨fun h => h.elim, fun h => by have hh := (h.rd q (by omega)).resolve_left h275; rw [← g2, read_iff (c3.2 _ (List.mem_of_getElem? (get_bang (by omega)))).2 h275 (by omega)] at hh; exact hh.2 h336⟩), hp332.fr⟩
                · refine WP.skip ?_
                  refine blk_n ?_
                  refine blk_n ?_
                  refine thn_n ?_
                  refine WP.pure {} [] [0, 15, 139, 140, 141] [.slice a l.length cp, .int .i64 la, .slice ao no co, .int .i64 ((no : Nat) : Int), .int .i64 ((q : Int) + 1)] (.cons (show Rng .i64 ((q : Int) + 1) from Rng.i64 (by omega)) .nil) (by kernel_rfl) (fun b338 => ?_)
                  refine thn_n ?_
                  have hput : ¬ l[os[q]!]!.Put = true := h275
                  have hex : explP (valAt w) l l[os[q]!]! (lastOf l (os.take q)) := by rw [← g2]; exact (read_iff (c3.2 _ (List.mem_of_getElem? (get_bang (by omega)))).2 hput (by omega)).2 ⟨h293, h336⟩
                  exact ⟨os.length - (q + 1), (by omega), q + 1, la, rfl, ⟨by omega, by rw [take_snoc_get (by omega), lastOf_snoc, if_neg hput]; exact g2, fun k hk => by rcases Nat.lt_or_ge k q with z | z; exact g3 k z; (obtain rfl : k = q := by omega); exact .inr hex⟩, by kernel_rfl, (hp332.sub (.cons _ (.cons_cons _ (.slnil))))⟩
          · refine WP.exit ?_
            refine thn_x ?_
            refine thn_x ?_
            refine blk_hit ?_
            refine thn_n ?_
            refine WP.seq ?_
            refine WP.pure {} [] [4] [.bool true] .nil (by kernel_rfl) (fun b339 => ?_)
            refine thn_n ?_
            refine WP.ret ?_
            refine bodyQ.of _ rfl [.bool true] ⟨rfl, trivial⟩ ?_
            exact ⟨_, rfl, Bp.of Bp.t (by exact ⟨fun _ => ⟨c3.1, c3.2, hall, fun x y hx hy => f2 x y (by omega) hy, fun k hk => g3 k (by omega)⟩, fun _ => trivial⟩), hp255.fr⟩

end Go.Proofs.Ythdkbbpiaeaojaa.K
