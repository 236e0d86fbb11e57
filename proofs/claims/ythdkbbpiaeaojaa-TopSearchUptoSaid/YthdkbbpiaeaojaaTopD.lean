/- The walks of TopD: what each function computes. -/
import Derived.Test.YthdkbbpiaeaojaaProg
import Derived.Test.YthdkbbpiaeaojaaCoreO
import Derived.Test.YthdkbbpiaeaojaaTopB
import Derived.Test.YthdkbbpiaeaojaaCoreV
namespace Go.Proofs.Ythdkbbpiaeaojaa.K
open Go Go.Proofs Go.RowKit
set_option linter.unusedVariables false
set_option linter.unusedSimpArgs false
set_option maxRecDepth 20000
set_option maxHeartbeats 4000000

theorem posI_no {os : List Nat} {i : Nat} (h : ¬ i ∈ os) : posI os i = -1 := by unfold posI; rw [if_neg h]
theorem ex_first {l : List GCall} {ay : List Int} {os : List Nat} {m : Nat} {P : Prop} (e1 : os[m]! < l.length) (e2 : ¬ os[m]! ∈ os.take m) (e3 : partC l[os[m]!]!) (b4 : ∀ i, i < l.length → ay[i]! = posI (os.take m) i + 1)
    (h : (((os[m]! : Nat) : Int) < 0) ∨ (((l.length : Nat) : Int) ≤ ((os[m]! : Nat) : Int)) ∨ (0 < ay[os[m]!]!) ∨ (partT l[os[m]!]! = 0)) : P := by
  exfalso
  rcases h with h | h | h | h
  · omega
  · omega
  · rw [b4 _ e1, posI_no e2] at h; omega
  · exact partT_zero.1 h e3
theorem ex_ord {val : SlH → ByteArray} {l : List GCall} {os : List Nat} {ay : List Int} (hx : Expl val l os) (c4 : ∀ i, i < l.length → ay[i]! = posI os i + 1) {j i : Nat} (hj : j < l.length) (hi : i < l.length) (hm : i ∈ os) (h1 : partT l[j]! = 2) (h2 : aheadT l j i) (h3 : ay[i]! < ay[j]!) : False := by
  have := hx.ord j i hj hi (partT_two.1 h1) h2.2.2.2.1 h2.2.2.2.2 hm
  rw [c4 i hi, c4 j hj] at h3
  omega
theorem ex_last {val : SlH → ByteArray} {l : List GCall} {os : List Nat} {ay : List Int} (hx : Expl val l os) (c4 : ∀ i, i < l.length → ay[i]! = posI os i + 1) {j : Nat} (hj : j < l.length) (h1 : partT l[j]! = 2) (h3 : ay[j]! = 0) : False := by
  have hm := posI_nn.2 (hx.all j hj (partT_two.1 h1))
  rw [c4 j hj] at h3
  omega

theorem top_explains (l : List GCall) (n : Nat) (hn : l.length = n) (a : Option Addr) (cp : Nat) (w : World) (hs : SlR w a n (l.flatMap GCall.cells)) (hv : ∀ x ∈ l, VB w x.Value) (hr : ByR w l) (hvn : ∀ x ∈ l, x.Value.n ≤ 1048576) (hll : l.length ≤ 1048576) (os : List Nat) (ao : Option Addr) (no co : Nat) (h2 : SlR w ao no (List.flatMap (fun (y : Nat) => [Go.Value.int .i64 (y : Int)]) os)) (hno : os.length = no) (hx : Expl (valAt w) l os) :
    Calls Try.prog 55 #[.slice a n cp, .slice ao no co] w (fun r_ w' => r_ = .returned (.bool true) ∧ Fram Non w w') := by
  have hol_ : os.length ≤ l.length := nodup_le _ _ hx.nd fun x hz => (hx.mem x hz).1
  refine calls_of Try.func55 rfl 118 rfl (by simp) ?_
  have hp0 := Hp.init w
  have he0 : List.map (env0 [.slice a n cp, .slice ao no co]) [0, 1] = [.slice a n cp, .slice ao no co] := by kernel_rfl
  obtain ⟨b0, he0⟩ := toMk he0
  rw [he0]
  clear he0
  refine WP.seq ?_
  refine WP.pure {} [] [0, 1] [.slice a n cp, .slice ao no co] .nil (by kernel_rfl) (fun b1 => ?_)
  refine thn_n ?_
  refine WP.seq ?_
  refine WP.region _ rfl (by kernel_rfl) ?_
  refine OPS.batch 2 {} [] [0, 1, 14] [.slice a n cp, .slice ao no co, .int .i64 ((n : Nat) : Int)] .nil (by kernel_rfl) (fun b2 => ?_)
  refine OPS.cons (opStep.makeSlice (f := (fun y => [.int .i64 y])) (E := 3) (sz := 1) (bytes := 8) (n := n) (0 : Int) hp0 (by kernel_rfl) (by decide) (by kernel_rfl) (by omega) (by unfold maxLen; omega) (fun g5 w3 hp4 => ?_))
  refine OPS.batch 1 {} [] [0, 1, 5] [.slice a n cp, .slice ao no co, .slice (some ⟨g5, 0, none⟩) n n] .nil (by kernel_rfl) (fun b6 => ?_)
  refine OPS.nil ?_
  refine thn_n ?_
  refine WP.seq ?_
  refine WP.seq ?_
  refine WP.pure {} [] [0, 1, 5, 16, 17, 18] [.slice a n cp, .slice ao no co, .slice (some ⟨g5, 0, none⟩) n n, .slice ao no co, .int .i64 ((no : Nat) : Int), .int .i64 0] .nil (by kernel_rfl) (fun b7 => ?_)
  refine thn_n ?_
  refine WP.block ?_
  refine WP.loop (fun mz_ e8 w9 => ∃ (m : Nat) (ay : List Int), mz_ = os.length - m ∧ (m ≤ os.length ∧ ay.length = l.length ∧ ∀ i, i < l.length → ay[i]! = posI (os.take m) i + 1) ∧ List.map e8 [0, 1, 5, 16, 17, 18] = [.slice a n cp, .slice ao no co, .slice (some ⟨g5, 0, none⟩) n n, .slice ao no co, .int .i64 ((no : Nat) : Int), .int .i64 (m : Int)] ∧ Hp w Non [Res.own 3 1 (.slice (some ⟨g5, 0, none⟩) n n) n (List.flatMap (fun y => [.int .i64 y]) ay)] w9) (os.length - (0)) ⟨0, List.replicate n (0 : Int), rfl, ⟨by omega, by simp; omega, fun i hi => by simp [posI_nil, List.getElem!_eq_getElem?_getD, hn ▸ hi]⟩, by kernel_rfl, hp4⟩ ?_
  rintro _ e8 w9 ⟨m, ay, rfl, hI11, hE12, hp10⟩
  obtain ⟨b13, rfl⟩ := toMk hE12
  clear hE12
  obtain ⟨b1, b2, b4⟩ := hI11
  have hq : m < os.length → os[m]! < l.length := fun z => (pre1_no z hx).1
  refine WP.seq ?_
  refine WP.pure {} [] [0, 1, 5, 16, 17, 18, 19] [.slice a n cp, .slice ao no co, .slice (some ⟨g5, 0, none⟩) n n, .slice ao no co, .int .i64 ((no : Nat) : Int), .int .i64 (m : Int), .bool (decide ((m : Int) < ((no : Nat) : Int)))] .nil (by kernel_rfl) (fun b14 => ?_)
  refine thn_n ?_
  refine WP.seq ?_
  refine WP.test (p := (m : Int) < ((no : Nat) : Int)) rfl Bp.dec (fun h15 => ?_) (fun h15 => ?_)
  · refine WP.skip ?_
    refine thn_n ?_
    refine WP.seq ?_
    refine WP.block ?_
    refine WP.seq ?_
    have hy17 : (os)[m]? = some os[m]! := get_bang (by first | (omega) | (simp only [List.length_append, List.length_cons, List.length_nil]; omega) | (simp only [List.length_take, List.length_append, List.length_cons, List.length_nil]; omega))
    refine WP.pure {} [.int .i64 ((os[m]! : Nat) : Int)] [0, 1, 5, 6, 7, 16, 17, 18] [.slice a n cp, .slice ao no co, .slice (some ⟨g5, 0, none⟩) n n, .int .i64 (m : Int), .int .i64 ((os[m]! : Nat) : Int), .slice ao no co, .int .i64 ((no : Nat) : Int), .int .i64 (m : Int)] (.cons (show InB ((m : Int)) (no) from ⟨by omega, by omega⟩) (.cons ((h2.at hp10).some (by omega)) (.cons (Ld.add0 (Ld.el1 (P := Try.prog) (t := 3) (h2.at hp10).rd 1 (fun _ => rfl) hy17 (o := 0) (v := .int .i64 ((os[m]! : Nat) : Int)) (by kernel_rfl))) .nil))) (by kernel_rfl) (fun b18 => ?_)
    refine thn_n ?_
    refine WP.seq ?_
    refine WP.cut (fun e48 w49 => ∃ (x46 : Bool), (True) ∧ Bp x46 (((((os[m]! : Nat) : Int) < 0)) ∨ ((¬ (((os[m]! : Nat) : Int) < 0)) ∧ (((n : Nat) : Int) ≤ ((os[m]! : Nat) : Int))) ∨ ((¬ (((os[m]! : Nat) : Int) < 0)) ∧ (¬ (((n : Nat) : Int) ≤ ((os[m]! : Nat) : Int))) ∧ (0 < (ay[(os[m]!)]!))) ∨ ((¬ (((os[m]! : Nat) : Int) < 0)) ∧ (¬ (((n : Nat) : Int) ≤ ((os[m]! : Nat) : Int))) ∧ (¬ (0 < (ay[(os[m]!)]!))) ∧ ((partT (l[(os[m]!)]!)) = 0))) ∧ List.map e48 [0, 1, 5, 6, 7, 16, 17, 18, 45] = [.slice a n cp, .slice ao no co, .slice (some ⟨g5, 0, none⟩) n n, .int .i64 (m : Int), .int .i64 ((os[m]! : Nat) : Int), .slice ao no co, .int .i64 ((no : Nat) : Int), .int .i64 (m : Int), .bool x46] ∧ Hp w Non [Res.own 3 1 (.slice (some ⟨g5, 0, none⟩) n n) n (List.flatMap (fun y => [.int .i64 y]) ay)] w49) ?_ ?_
    · refine WP.region _ rfl (by kernel_rfl) ?_
      refine OPS.batch 3 {} [] [0, 1, 5, 6, 7, 16, 17, 18, 25] [.slice a n cp, .slice ao no co, .slice (some ⟨g5, 0, none⟩) n n, .int .i64 (m : Int), .int .i64 ((os[m]! : Nat) : Int), .slice ao no co, .int .i64 ((no : Nat) : Int), .int .i64 (m : Int), .bool (decide (((os[m]! : Nat) : Int) < 0))] .nil (by kernel_rfl) (fun b20 => ?_)
      by_cases h21 : ((os[m]! : Nat) : Int) < 0
      · refine OPS.batch 0 {} [] [0, 1, 5, 6, 7, 16, 17, 18, 25] [.slice a n cp, .slice ao no co, .slice (some ⟨g5, 0, none⟩) n n, .int .i64 (m : Int), .int .i64 ((os[m]! : Nat) : Int), .slice ao no co, .int .i64 ((no : Nat) : Int), .int .i64 (m : Int), .bool (decide (((os[m]! : Nat) : Int) < 0))] .nil (by kernel_rfl) (fun b22 => ?_)
        refine OPS.re [.slice a n cp, .slice ao no co, .slice (some ⟨g5, 0, none⟩) n n, .int .i64 (m : Int), .int .i64 ((os[m]! : Nat) : Int), .slice ao no co, .int .i64 ((no : Nat) : Int), .int .i64 (m : Int), .bool true] (by rw [show (decide (((os[m]! : Nat) : Int) < 0)) = true from Bp.dec.tt h21]) ?_
        refine OPS.batch 20 { wraps := [30, 37, 45] } [] [0, 1, 5, 6, 7, 16, 17, 18, 45] [.slice a n cp, .slice ao no co, .slice (some ⟨g5, 0, none⟩) n n, .int .i64 (m : Int), .int .i64 ((os[m]! : Nat) : Int), .slice ao no co, .int .i64 ((no : Nat) : Int), .int .i64 (m : Int), .bool true] .nil (by kernel_rfl) (fun b23 => ?_)
        refine OPS.nil ?_
        refine thn_n ?_
        exact ⟨true, trivial, Bp.of Bp.t (by first | (simp only [h21, iff_false, false_iff, iff_true, true_iff, Classical.not_not, and_true, true_and, and_false, false_and, or_true, true_or, or_false, false_or, not_true_eq_false, not_false_eq_true, and_self, or_self, iff_self]; done) | (simp [h21]; done) | simp_all), by kernel_rfl, hp10⟩
      · refine OPS.batch 0 {} [] [0, 1, 5, 6, 7, 16, 17, 18, 25] [.slice a n cp, .slice ao no co, .slice (some ⟨g5, 0, none⟩) n n, .int .i64 (m : Int), .int .i64 ((os[m]! : Nat) : Int), .slice ao no co, .int .i64 ((no : Nat) : Int), .int .i64 (m : Int), .bool (decide (((os[m]! : Nat) : Int) < 0))] .nil (by kernel_rfl) (fun b24 => ?_)
        refine OPS.re [.slice a n cp, .slice ao no co, .slice (some ⟨g5, 0, none⟩) n n, .int .i64 (m : Int), .int .i64 ((os[m]! : Nat) : Int), .slice ao no co, .int .i64 ((no : Nat) : Int), .int .i64 (m : Int), .bool false] (by rw [show (decide (((os[m]! : Nat) : Int) < 0)) = false from Bp.dec.ff h21]) ?_
        refine OPS.batch 6 { wraps := [30] } [] [0, 1, 5, 6, 7, 16, 17, 18, 31] [.slice a n cp, .slice ao no co, .slice (some ⟨g5, 0, none⟩) n n, .int .i64 (m : Int), .int .i64 ((os[m]! : Nat) : Int), .slice ao no co, .int .i64 ((no : Nat) : Int), .int .i64 (m : Int), .bool (decide (((n : Nat) : Int) ≤ ((os[m]! : Nat) : Int)))] .nil (by kernel_rfl) (fun b25 => ?_)
        by_cases h26 : ((n : Nat) : Int) ≤ ((os[m]! : Nat) : Int)
        · refine OPS.batch 0 {} [] [0, 1, 5, 6, 7, 16, 17, 18, 31] [.slice a n cp, .slice ao no co, .slice (some ⟨g5, 0, none⟩) n n, .int .i64 (m : Int), .int .i64 ((os[m]! : Nat) : Int), .slice ao no co, .int .i64 ((no : Nat) : Int), .int .i64 (m : Int), .bool (decide (((n : Nat) : Int) ≤ ((os[m]! : Nat) : Int)))] .nil (by kernel_rfl) (fun b27 => ?_)
          refine OPS.re [.slice a n cp, .slice ao no co, .slice (some ⟨g5, 0, none⟩) n n, .int .i64 (m : Int), .int .i64 ((os[m]! : Nat) : Int), .slice ao no co, .int .i64 ((no : Nat) : Int), .int .i64 (m : Int), .bool true] (by rw [show (decide (((n : Nat) : Int) ≤ ((os[m]! : Nat) : Int))) = true from Bp.dec.tt h26]) ?_
          refine OPS.batch 14 { wraps := [37, 45] } [] [0, 1, 5, 6, 7, 16, 17, 18, 45] [.slice a n cp, .slice ao no co, .slice (some ⟨g5, 0, none⟩) n n, .int .i64 (m : Int), .int .i64 ((os[m]! : Nat) : Int), .slice ao no co, .int .i64 ((no : Nat) : Int), .int .i64 (m : Int), .bool true] .nil (by kernel_rfl) (fun b28 => ?_)
          refine OPS.nil ?_
          refine thn_n ?_
          exact ⟨true, trivial, Bp.of Bp.t (by first | (simp only [h21, h26, iff_false, false_iff, iff_true, true_iff, Classical.not_not, and_true, true_and, and_false, false_and, or_true, true_or, or_false, false_or, not_true_eq_false, not_false_eq_true, and_self, or_self, iff_self]; done) | (simp [h21, h26]; done) | simp_all), by kernel_rfl, hp10⟩
        · refine OPS.batch 0 {} [] [0, 1, 5, 6, 7, 16, 17, 18, 31] [.slice a n cp, .slice ao no co, .slice (some ⟨g5, 0, none⟩) n n, .int .i64 (m : Int), .int .i64 ((os[m]! : Nat) : Int), .slice ao no co, .int .i64 ((no : Nat) : Int), .int .i64 (m : Int), .bool (decide (((n : Nat) : Int) ≤ ((os[m]! : Nat) : Int)))] .nil (by kernel_rfl) (fun b29 => ?_)
          refine OPS.re [.slice a n cp, .slice ao no co, .slice (some ⟨g5, 0, none⟩) n n, .int .i64 (m : Int), .int .i64 ((os[m]! : Nat) : Int), .slice ao no co, .int .i64 ((no : Nat) : Int), .int .i64 (m : Int), .bool false] (by rw [show (decide (((n : Nat) : Int) ≤ ((os[m]! : Nat) : Int))) = false from Bp.dec.ff h26]) ?_
          have := own_flat (sz := 1) (fun _ => rfl) (by decide) hp10.get0
          have hy31 : (ay)[(os[m]!)]? = some ay[(os[m]!)]! := get_bang (by first | (omega) | (simp only [List.length_append, List.length_cons, List.length_nil]; omega) | (simp only [List.length_take, List.length_append, List.length_cons, List.length_nil]; omega))
          refine OPS.batch 7 { wraps := [37] } [.int .i64 (ay[(os[m]!)]!)] [0, 1, 5, 6, 7, 16, 17, 18, 38] [.slice a n cp, .slice ao no co, .slice (some ⟨g5, 0, none⟩) n n, .int .i64 (m : Int), .int .i64 ((os[m]! : Nat) : Int), .slice ao no co, .int .i64 ((no : Nat) : Int), .int .i64 (m : Int), .bool (decide (0 < (ay[(os[m]!)]!)))] (.cons (show InB (((os[m]! : Nat) : Int)) (n) from ⟨by omega, by omega⟩) (.cons ((SlR.own (hp10.get0)).some (by omega)) (.cons (Ld.add0 (Ld.el1 (P := Try.prog) (t := 3) (SlR.own (hp10.get0)).rd 1 (fun _ => rfl) hy31 (o := 0) (v := .int .i64 (ay[(os[m]!)]!)) (by kernel_rfl))) .nil))) (by kernel_rfl) (fun b32 => ?_)
          by_cases h33 : 0 < (ay[(os[m]!)]!)
          · refine OPS.batch 0 {} [] [0, 1, 5, 6, 7, 16, 17, 18, 38] [.slice a n cp, .slice ao no co, .slice (some ⟨g5, 0, none⟩) n n, .int .i64 (m : Int), .int .i64 ((os[m]! : Nat) : Int), .slice ao no co, .int .i64 ((no : Nat) : Int), .int .i64 (m : Int), .bool (decide (0 < (ay[(os[m]!)]!)))] .nil (by kernel_rfl) (fun b34 => ?_)
            refine OPS.re [.slice a n cp, .slice ao no co, .slice (some ⟨g5, 0, none⟩) n n, .int .i64 (m : Int), .int .i64 ((os[m]! : Nat) : Int), .slice ao no co, .int .i64 ((no : Nat) : Int), .int .i64 (m : Int), .bool true] (by rw [show (decide (0 < (ay[(os[m]!)]!))) = true from Bp.dec.tt h33]) ?_
            refine OPS.batch 7 { wraps := [45] } [] [0, 1, 5, 6, 7, 16, 17, 18, 45] [.slice a n cp, .slice ao no co, .slice (some ⟨g5, 0, none⟩) n n, .int .i64 (m : Int), .int .i64 ((os[m]! : Nat) : Int), .slice ao no co, .int .i64 ((no : Nat) : Int), .int .i64 (m : Int), .bool true] .nil (by kernel_rfl) (fun b35 => ?_)
            refine OPS.nil ?_
            refine thn_n ?_
            exact ⟨true, trivial, Bp.of Bp.t (by first | (simp only [h21, h26, h33, iff_false, false_iff, iff_true, true_iff, Classical.not_not, and_true, true_and, and_false, false_and, or_true, true_or, or_false, false_or, not_true_eq_false, not_false_eq_true, and_self, or_self, iff_self]; done) | (simp [h21, h26, h33]; done) | simp_all), by kernel_rfl, hp10⟩
          · refine OPS.batch 0 {} [] [0, 1, 5, 6, 7, 16, 17, 18, 38] [.slice a n cp, .slice ao no co, .slice (some ⟨g5, 0, none⟩) n n, .int .i64 (m : Int), .int .i64 ((os[m]! : Nat) : Int), .slice ao no co, .int .i64 ((no : Nat) : Int), .int .i64 (m : Int), .bool (decide (0 < (ay[(os[m]!)]!)))] .nil (by kernel_rfl) (fun b36 => ?_)
            refine OPS.re [.slice a n cp, .slice ao no co, .slice (some ⟨g5, 0, none⟩) n n, .int .i64 (m : Int), .int .i64 ((os[m]! : Nat) : Int), .slice ao no co, .int .i64 ((no : Nat) : Int), .int .i64 (m : Int), .bool false] (by rw [show (decide (0 < (ay[(os[m]!)]!))) = false from Bp.dec.ff h33]) ?_
            have hy38 : (l)[(os[m]!)]? = some l[(os[m]!)]! := get_bang (by first | (omega) | (simp only [List.length_append, List.length_cons, List.length_nil]; omega) | (simp only [List.length_take, List.length_append, List.length_cons, List.length_nil]; omega))
            refine OPS.batch 4 {} [GCall.val (l[(os[m]!)]!)] [0, 1, 5, 6, 7, 16, 17, 18, 38, 42] [.slice a n cp, .slice ao no co, .slice (some ⟨g5, 0, none⟩) n n, .int .i64 (m : Int), .int .i64 ((os[m]! : Nat) : Int), .slice ao no co, .int .i64 ((no : Nat) : Int), .int .i64 (m : Int), .bool false, GCall.val (l[(os[m]!)]!)] (.cons (show InB (((os[m]! : Nat) : Int)) (n) from ⟨by omega, by omega⟩) (.cons ((hs.at hp10).some (by omega)) (.cons (Ld.add0 (Ld.elN (P := Try.prog) (t := 41) (hs.at hp10).rd 11 (fun _ => rfl) hy38 (o := 0) (cs := [.int .i64 (l[(os[m]!)]!.Client), .int .i64 (l[(os[m]!)]!.Op), .bool (l[(os[m]!)]!.Put), .string (l[(os[m]!)]!.Key), .slice (l[(os[m]!)]!.Value.a) (l[(os[m]!)]!.Value.n) (l[(os[m]!)]!.Value.c), .int .i64 (l[(os[m]!)]!.Status), .int .i64 (l[(os[m]!)]!.From), .int .i64 (l[(os[m]!)]!.To), .bool (l[(os[m]!)]!.Open), .int .i64 (l[(os[m]!)]!.Tag.Count), .int .i64 (l[(os[m]!)]!.Tag.Client)]) (by kernel_rfl))) .nil))) (by kernel_rfl) (fun b39 => ?_)
            refine OPS.want (by kernel_rfl) ?_
            refine OPS.cons (opStep.call (some 43) [GCall.val (l[(os[m]!)]!)] (by kernel_rfl) (top_part (l[(os[m]!)]!) _) ?_)
            rintro _ w42 ⟨rfl, hf43⟩
            refine ⟨_, rfl, ?_⟩
            have hp44 := hp10.step hf43
            refine OPS.batch 2 { wraps := [45] } [] [0, 1, 5, 6, 7, 16, 17, 18, 45] [.slice a n cp, .slice ao no co, .slice (some ⟨g5, 0, none⟩) n n, .int .i64 (m : Int), .int .i64 ((os[m]! : Nat) : Int), .slice ao no co, .int .i64 ((no : Nat) : Int), .int .i64 (m : Int), .bool (decide ((partT (l[(os[m]!)]!)) = 0))] .nil (by kernel_rfl) (fun b45 => ?_)
            refine OPS.nil ?_
            refine thn_n ?_
            exact ⟨decide ((partT (l[(os[m]!)]!)) = 0), trivial, Bp.of Bp.dec (by first | (simp only [h21, h26, h33, iff_false, false_iff, iff_true, true_iff, Classical.not_not, and_true, true_and, and_false, false_and, or_true, true_or, or_false, false_or, not_true_eq_false, not_false_eq_true, and_self, or_self, iff_self]; done) | (simp [h21, h26, h33]; done) | simp_all), by kernel_rfl, hp44⟩
    rintro e48 w49 ⟨x46, hd51, hb47, hE52, hp50⟩
    obtain ⟨b53, rfl⟩ := toMk hE52
    clear hE52
    clear hd51
    refine WP.test (p := ((((os[m]! : Nat) : Int) < 0)) ∨ ((¬ (((os[m]! : Nat) : Int) < 0)) ∧ (((n : Nat) : Int) ≤ ((os[m]! : Nat) : Int))) ∨ ((¬ (((os[m]! : Nat) : Int) < 0)) ∧ (¬ (((n : Nat) : Int) ≤ ((os[m]! : Nat) : Int))) ∧ (0 < (ay[(os[m]!)]!))) ∨ ((¬ (((os[m]! : Nat) : Int) < 0)) ∧ (¬ (((n : Nat) : Int) ≤ ((os[m]! : Nat) : Int))) ∧ (¬ (0 < (ay[(os[m]!)]!))) ∧ ((partT (l[(os[m]!)]!)) = 0))) rfl hb47 (fun h54 => ?_) (fun h54 => ?_)
    · refine WP.seq ?_
      refine WP.pure {} [] [4] [.bool false] .nil (by kernel_rfl) (fun b55 => ?_)
      refine thn_n ?_
      refine WP.ret ?_
      refine thn_r ?_
      refine blk_r ?_
      refine thn_r ?_
      refine thn_r ?_
      refine blk_r ?_
      refine thn_r ?_
      refine bodyQ.of _ rfl [.bool false] ⟨rfl, trivial⟩ ?_
      exfalso
      obtain ⟨e1, e2, e3⟩ := pre1_no (k := m) (by omega) hx
      exact ex_first e1 e2 e3 b4 (by rcases h54 with z | z | z | z; exact .inl z; exact .inr (.inl (by omega)); exact .inr (.inr (.inl z.2.2)); exact .inr (.inr (.inr z.2.2.2)))
    · refine WP.skip ?_
      refine thn_n ?_
      refine WP.region _ rfl (by kernel_rfl) ?_
      refine OPS.batch 5 {} [] [0, 1, 5, 16, 17, 18, 49, 50] [.slice a n cp, .slice ao no co, .slice (some ⟨g5, 0, none⟩) n n, .slice ao no co, .int .i64 ((no : Nat) : Int), .int .i64 (m : Int), .int .i64 ((m : Int) + 1), .pointer (some ((adr (some ⟨g5, 0, none⟩)).add ((os[m]!) * 1)))] (.cons (show Rng .i64 ((m : Int) + 1) from Rng.i64 (by omega)) (.cons (show InB (((os[m]! : Nat) : Int)) (n) from ⟨by omega, by omega⟩) (.cons ((SlR.own (hp50.get0)).some (by omega)) .nil))) (by kernel_rfl) (fun b56 => ?_)
      have := own_flat (sz := 1) (fun _ => rfl) (by decide) hp50.get0
      try simp only [List.length_set] at this
      refine OPS.cons (opStep.storeOwn0 ((os[m]!) * 1) hp50 rfl [.int .i64 ((m : Int) + 1)] (by kernel_rfl) (by simp) (show (os[m]!) * 1 + 1 ≤ n * 1 by omega) (fun w57 hp58 => ?_))
      have hp59 := hp58
      rw [show ow (List.flatMap (fun y => [.int .i64 y]) ay) ((os[m]!) * 1) [.int .i64 ((m : Int) + 1)] = List.flatMap (fun y => [.int .i64 y]) (ay.set (os[m]!) ((m : Int) + 1)) from ow_flat (sz := 1) (fun _ => rfl) (by first | (omega) | (simp only [List.length_set]; omega)) ((m : Int) + 1)] at hp59
      refine OPS.nil ?_
      refine blk_n ?_
      refine thn_n ?_
      refine WP.pure {} [] [0, 1, 5, 16, 17, 18] [.slice a n cp, .slice ao no co, .slice (some ⟨g5, 0, none⟩) n n, .slice ao no co, .int .i64 ((no : Nat) : Int), .int .i64 ((m : Int) + 1)] (.cons (show Rng .i64 ((m : Int) + 1) from Rng.i64 (by omega)) .nil) (by kernel_rfl) (fun b60 => ?_)
      refine thn_n ?_
      obtain ⟨e1, e2, e3⟩ := pre1_no (k := m) (by omega) hx
      exact ⟨os.length - (m + 1), (by omega), m + 1, ay.set (os[m]!) ((m : Int) + 1), rfl, ⟨by omega, by simp [b2], fun i hi => by rw [set_get (by omega), take_snoc_get (by omega), posI_snoc e2]; split; (rw [List.length_take]; omega); exact b4 i hi⟩, by kernel_rfl, hp59⟩
  · refine WP.exit ?_
    refine thn_x ?_
    refine thn_x ?_
    refine blk_hit ?_
    refine thn_n ?_
    refine WP.seq ?_
    refine WP.pure {} [] [0, 1, 5, 8] [.slice a n cp, .slice ao no co, .slice (some ⟨g5, 0, none⟩) n n, .int .i64 (-1)] .nil (by kernel_rfl) (fun b61 => ?_)
    refine thn_n ?_
    refine WP.seq ?_
    refine WP.seq ?_
    refine WP.pure {} [] [0, 5, 8, 52, 53, 54] [.slice a n cp, .slice (some ⟨g5, 0, none⟩) n n, .int .i64 (-1), .slice ao no co, .int .i64 ((no : Nat) : Int), .int .i64 0] .nil (by kernel_rfl) (fun b62 => ?_)
    refine thn_n ?_
    refine WP.block ?_
    have em : m = os.length := by omega
    rw [em, List.take_of_length_le (Nat.le_refl _)] at b4
    have c4 := b4
    refine WP.loop (fun mz_ e63 w64 => ∃ (q : Nat) (la : Int), mz_ = os.length - q ∧ (q ≤ os.length ∧ la = lastOf l (os.take q)) ∧ List.map e63 [0, 5, 8, 52, 53, 54] = [.slice a n cp, .slice (some ⟨g5, 0, none⟩) n n, .int .i64 la, .slice ao no co, .int .i64 ((no : Nat) : Int), .int .i64 (q : Int)] ∧ Hp w Non [Res.own 3 1 (.slice (some ⟨g5, 0, none⟩) n n) n (List.flatMap (fun y => [.int .i64 y]) ay)] w64) (os.length - (0)) ⟨0, (-1), rfl, ⟨by omega, rfl⟩, by kernel_rfl, hp10⟩ ?_
    rintro _ e63 w64 ⟨q, la, rfl, hI66, hE67, hp65⟩
    obtain ⟨b68, rfl⟩ := toMk hE67
    clear hE67
    obtain ⟨g1, g2⟩ := hI66
    have hqm : q < os.length → os[q]! ∈ os := fun z => List.mem_of_getElem? (get_bang z)
    have hqx : q < os.length → os[q]! < l.length := fun z => (hx.mem _ (hqm z)).1
    have hla := lastOf_lt (l := l) (pre := os.take q) (fun x hz => (hx.mem x (List.mem_of_mem_take hz)).1)
    refine WP.seq ?_
    refine WP.pure {} [] [0, 5, 8, 52, 53, 54, 55] [.slice a n cp, .slice (some ⟨g5, 0, none⟩) n n, .int .i64 la, .slice ao no co, .int .i64 ((no : Nat) : Int), .int .i64 (q : Int), .bool (decide ((q : Int) < ((no : Nat) : Int)))] .nil (by kernel_rfl) (fun b69 => ?_)
    refine thn_n ?_
    refine WP.seq ?_
    refine WP.test (p := (q : Int) < ((no : Nat) : Int)) rfl Bp.dec (fun h70 => ?_) (fun h70 => ?_)
    · refine WP.skip ?_
      refine thn_n ?_
      refine WP.seq ?_
      refine WP.block ?_
      refine WP.seq ?_
      have hy72 : (os)[q]? = some os[q]! := get_bang (by first | (omega) | (simp only [List.length_append, List.length_cons, List.length_nil]; omega) | (simp only [List.length_take, List.length_append, List.length_cons, List.length_nil]; omega))
      refine WP.pure {} [.int .i64 ((os[q]! : Nat) : Int)] [0, 5, 8, 10, 52, 53, 54] [.slice a n cp, .slice (some ⟨g5, 0, none⟩) n n, .int .i64 la, .int .i64 ((os[q]! : Nat) : Int), .slice ao no co, .int .i64 ((no : Nat) : Int), .int .i64 (q : Int)] (.cons (show InB ((q : Int)) (no) from ⟨by omega, by omega⟩) (.cons ((h2.at hp65).some (by omega)) (.cons (Ld.add0 (Ld.el1 (P := Try.prog) (t := 3) (h2.at hp65).rd 1 (fun _ => rfl) hy72 (o := 0) (v := .int .i64 ((os[q]! : Nat) : Int)) (by kernel_rfl))) .nil))) (by kernel_rfl) (fun b73 => ?_)
      refine thn_n ?_
      refine WP.seq ?_
      refine WP.seq ?_
      refine WP.pure {} [] [0, 5, 8, 10, 52, 53, 54, 59, 60] [.slice a n cp, .slice (some ⟨g5, 0, none⟩) n n, .int .i64 la, .int .i64 ((os[q]! : Nat) : Int), .slice ao no co, .int .i64 ((no : Nat) : Int), .int .i64 (q : Int), .int .i64 ((n : Nat) : Int), .int .i64 0] .nil (by kernel_rfl) (fun b74 => ?_)
      refine thn_n ?_
      refine WP.block ?_
      refine WP.loop (fun mz_ e75 w76 => ∃ (j : Nat), mz_ = l.length - j ∧ (j ≤ l.length) ∧ List.map e75 [0, 5, 8, 10, 52, 53, 54, 59, 60] = [.slice a n cp, .slice (some ⟨g5, 0, none⟩) n n, .int .i64 la, .int .i64 ((os[q]! : Nat) : Int), .slice ao no co, .int .i64 ((no : Nat) : Int), .int .i64 (q : Int), .int .i64 ((n : Nat) : Int), .int .i64 (j : Int)] ∧ Hp w Non [Res.own 3 1 (.slice (some ⟨g5, 0, none⟩) n n) n (List.flatMap (fun y => [.int .i64 y]) ay)] w76) (l.length - (0)) ⟨0, rfl, (by omega), by kernel_rfl, hp65⟩ ?_
      rintro _ e75 w76 ⟨j, rfl, hI78, hE79, hp77⟩
      obtain ⟨b80, rfl⟩ := toMk hE79
      clear hE79
      obtain j1 := hI78
      refine WP.seq ?_
      refine WP.pure {} [] [0, 5, 8, 10, 52, 53, 54, 59, 60, 61] [.slice a n cp, .slice (some ⟨g5, 0, none⟩) n n, .int .i64 la, .int .i64 ((os[q]! : Nat) : Int), .slice ao no co, .int .i64 ((no : Nat) : Int), .int .i64 (q : Int), .int .i64 ((n : Nat) : Int), .int .i64 (j : Int), .bool (decide ((j : Int) < ((n : Nat) : Int)))] .nil (by kernel_rfl) (fun b81 => ?_)
      refine thn_n ?_
      refine WP.seq ?_
      refine WP.test (p := (j : Int) < ((n : Nat) : Int)) rfl Bp.dec (fun h82 => ?_) (fun h82 => ?_)
      · refine WP.skip ?_
        refine thn_n ?_
        refine WP.seq ?_
        refine WP.block ?_
        refine WP.seq ?_
        refine WP.pure {} [] [0, 5, 8, 10, 11, 52, 53, 54, 59, 60] [.slice a n cp, .slice (some ⟨g5, 0, none⟩) n n, .int .i64 la, .int .i64 ((os[q]! : Nat) : Int), .int .i64 (j : Int), .slice ao no co, .int .i64 ((no : Nat) : Int), .int .i64 (q : Int), .int .i64 ((n : Nat) : Int), .int .i64 (j : Int)] .nil (by kernel_rfl) (fun b83 => ?_)
        refine thn_n ?_
        refine WP.cut (fun e133 w134 => ∃ (x131 : Bool), (True) ∧ Bp x131 (((partT (l[j]!)) = 2) ∧ (aheadT l j (os[q]!)) ∧ ((ay[(os[q]!)]!) < (ay[j]!))) ∧ List.map e133 [0, 5, 8, 10, 52, 53, 54, 59, 60, 85] = [.slice a n cp, .slice (some ⟨g5, 0, none⟩) n n, .int .i64 la, .int .i64 ((os[q]! : Nat) : Int), .slice ao no co, .int .i64 ((no : Nat) : Int), .int .i64 (q : Int), .int .i64 ((n : Nat) : Int), .int .i64 (j : Int), .bool x131] ∧ Hp w Non [Res.own 3 1 (.slice (some ⟨g5, 0, none⟩) n n) n (List.flatMap (fun y => [.int .i64 y]) ay)] w134) ?_ ?_
        · have hp87 := hp77.drew
          refine WP.quiet (fun w85 => Hp w Non [Res.own 3 1 (.slice (some ⟨g5, 0, none⟩) n n) n (List.flatMap (fun y => [.int .i64 y]) ay)] w85) (by kernel_rfl) hp87 ?_
          have hnehp87 : ∃ wz_, (fun w85 => Hp w Non [Res.own 3 1 (.slice (some ⟨g5, 0, none⟩) n n) n (List.flatMap (fun y => [.int .i64 y]) ay)] w85) wz_ := ⟨_, hp87⟩
          have hy91 : (l)[j]? = some l[j]! := get_bang (by first | (omega) | (simp only [List.length_append, List.length_cons, List.length_nil]; omega) | (simp only [List.length_take, List.length_append, List.length_cons, List.length_nil]; omega))
          refine QOPS.batch 4 {} [GCall.val (l[j]!)] [0, 5, 8, 10, 11, 52, 53, 54, 59, 60, 66] [.slice a n cp, .slice (some ⟨g5, 0, none⟩) n n, .int .i64 la, .int .i64 ((os[q]! : Nat) : Int), .int .i64 (j : Int), .slice ao no co, .int .i64 ((no : Nat) : Int), .int .i64 (q : Int), .int .i64 ((n : Nat) : Int), .int .i64 (j : Int), GCall.val (l[j]!)] hnehp87 (fun w88 hp89 => QB.mk (.cons (show InB ((j : Int)) (n) from ⟨by omega, by omega⟩) (.cons ((hs.at hp89).some (by omega)) (.cons (Ld.add0 (Ld.elN (P := Try.prog) (t := 41) (hs.at hp89).rd 11 (fun _ => rfl) hy91 (o := 0) (cs := [.int .i64 (l[j]!.Client), .int .i64 (l[j]!.Op), .bool (l[j]!.Put), .string (l[j]!.Key), .slice (l[j]!.Value.a) (l[j]!.Value.n) (l[j]!.Value.c), .int .i64 (l[j]!.Status), .int .i64 (l[j]!.From), .int .i64 (l[j]!.To), .bool (l[j]!.Open), .int .i64 (l[j]!.Tag.Count), .int .i64 (l[j]!.Tag.Client)]) (by kernel_rfl))) .nil))) (by kernel_rfl)) (fun b92 => ?_)
          refine QOPS.call (some 67) [GCall.val (l[j]!)] (by kernel_rfl) (fun w93 hp94 => (top_part (l[j]!) _).mono fun _ _ h => ⟨h.1, hp94.step h.2⟩) ?_
          refine QOPS.batch 2 {} [] [0, 5, 8, 10, 11, 52, 53, 54, 59, 60, 69] [.slice a n cp, .slice (some ⟨g5, 0, none⟩) n n, .int .i64 la, .int .i64 ((os[q]! : Nat) : Int), .int .i64 (j : Int), .slice ao no co, .int .i64 ((no : Nat) : Int), .int .i64 (q : Int), .int .i64 ((n : Nat) : Int), .int .i64 (j : Int), .bool (decide ((partT (l[j]!)) = 2))] hnehp87 (fun w95 hp96 => QB.mk .nil (by kernel_rfl)) (fun b97 => ?_)
          by_cases h98 : (partT (l[j]!)) = 2
          · refine QOPS.batch 0 {} [] [0, 5, 8, 10, 11, 52, 53, 54, 59, 60, 69] [.slice a n cp, .slice (some ⟨g5, 0, none⟩) n n, .int .i64 la, .int .i64 ((os[q]! : Nat) : Int), .int .i64 (j : Int), .slice ao no co, .int .i64 ((no : Nat) : Int), .int .i64 (q : Int), .int .i64 ((n : Nat) : Int), .int .i64 (j : Int), .bool (decide ((partT (l[j]!)) = 2))] hnehp87 (fun _ _ => QB.mk .nil (by kernel_rfl)) (fun b99 => ?_)
            refine QOPS.re [.slice a n cp, .slice (some ⟨g5, 0, none⟩) n n, .int .i64 la, .int .i64 ((os[q]! : Nat) : Int), .int .i64 (j : Int), .slice ao no co, .int .i64 ((no : Nat) : Int), .int .i64 (q : Int), .int .i64 ((n : Nat) : Int), .int .i64 (j : Int), .bool true] (by rw [show (decide ((partT (l[j]!)) = 2)) = true from Bp.dec.tt h98]) ?_
            refine QOPS.batch 3 {} [] [0, 5, 8, 10, 11, 52, 53, 54, 59, 60, 69, 70, 71, 72] [.slice a n cp, .slice (some ⟨g5, 0, none⟩) n n, .int .i64 la, .int .i64 ((os[q]! : Nat) : Int), .int .i64 (j : Int), .slice ao no co, .int .i64 ((no : Nat) : Int), .int .i64 (q : Int), .int .i64 ((n : Nat) : Int), .int .i64 (j : Int), .bool true, .slice a n cp, .int .i64 (j : Int), .int .i64 ((os[q]! : Nat) : Int)] hnehp87 (fun w100 hp101 => QB.mk .nil (by kernel_rfl)) (fun b102 => ?_)
            refine QOPS.call (some 73) [.slice a n cp, .int .i64 (j : Int), .int .i64 ((os[q]! : Nat) : Int)] (by kernel_rfl) (fun w103 hp104 => (top_ahead l n hn a cp _ (hs.at hp104) j (os[q]!) (by omega) (by omega)).mono fun _ _ h => by obtain ⟨b, h1, h2, h3⟩ := h; exact ⟨by rw [h1, h2.eq_bo], hp104.step h3⟩) ?_
            refine QOPS.batch 2 { wraps := [74] } [] [0, 5, 8, 10, 11, 52, 53, 54, 59, 60, 75] [.slice a n cp, .slice (some ⟨g5, 0, none⟩) n n, .int .i64 la, .int .i64 ((os[q]! : Nat) : Int), .int .i64 (j : Int), .slice ao no co, .int .i64 ((no : Nat) : Int), .int .i64 (q : Int), .int .i64 ((n : Nat) : Int), .int .i64 (j : Int), .bool (bo (aheadT l j (os[q]!)))] hnehp87 (fun w105 hp106 => QB.mk .nil (by kernel_rfl)) (fun b107 => ?_)
            by_cases h108 : aheadT l j (os[q]!)
            · refine QOPS.batch 0 {} [] [0, 5, 8, 10, 11, 52, 53, 54, 59, 60, 75] [.slice a n cp, .slice (some ⟨g5, 0, none⟩) n n, .int .i64 la, .int .i64 ((os[q]! : Nat) : Int), .int .i64 (j : Int), .slice ao no co, .int .i64 ((no : Nat) : Int), .int .i64 (q : Int), .int .i64 ((n : Nat) : Int), .int .i64 (j : Int), .bool (bo (aheadT l j (os[q]!)))] hnehp87 (fun _ _ => QB.mk .nil (by kernel_rfl)) (fun b109 => ?_)
              refine QOPS.re [.slice a n cp, .slice (some ⟨g5, 0, none⟩) n n, .int .i64 la, .int .i64 ((os[q]! : Nat) : Int), .int .i64 (j : Int), .slice ao no co, .int .i64 ((no : Nat) : Int), .int .i64 (q : Int), .int .i64 ((n : Nat) : Int), .int .i64 (j : Int), .bool true] (by rw [show (bo (aheadT l j (os[q]!))) = true from Bp.bo.tt h108]) ?_
              have := own_flat (sz := 1) (fun _ => rfl) (by decide) hp87.get0
              have hy113 : (ay)[j]? = some ay[j]! := get_bang (by first | (omega) | (simp only [List.length_append, List.length_cons, List.length_nil]; omega) | (simp only [List.length_take, List.length_append, List.length_cons, List.length_nil]; omega))
              have := own_flat (sz := 1) (fun _ => rfl) (by decide) hp87.get0
              have hy115 : (ay)[(os[q]!)]? = some ay[(os[q]!)]! := get_bang (by first | (omega) | (simp only [List.length_append, List.length_cons, List.length_nil]; omega) | (simp only [List.length_take, List.length_append, List.length_cons, List.length_nil]; omega))
              refine QOPS.batch 10 { wraps := [85] } [.int .i64 (ay[j]!), .int .i64 (ay[(os[q]!)]!)] [0, 5, 8, 10, 52, 53, 54, 59, 60, 85] [.slice a n cp, .slice (some ⟨g5, 0, none⟩) n n, .int .i64 la, .int .i64 ((os[q]! : Nat) : Int), .slice ao no co, .int .i64 ((no : Nat) : Int), .int .i64 (q : Int), .int .i64 ((n : Nat) : Int), .int .i64 (j : Int), .bool (decide ((ay[(os[q]!)]!) < (ay[j]!)))] hnehp87 (fun w110 hp111 => QB.mk (.cons (show InB ((j : Int)) (n) from ⟨by omega, by omega⟩) (.cons ((SlR.own (hp111.get0)).some (by omega)) (.cons (Ld.add0 (Ld.el1 (P := Try.prog) (t := 3) (SlR.own (hp111.get0)).rd 1 (fun _ => rfl) hy113 (o := 0) (v := .int .i64 (ay[j]!)) (by kernel_rfl))) (.cons (show InB (((os[q]! : Nat) : Int)) (n) from ⟨by omega, by omega⟩) (.cons ((SlR.own (hp111.get0)).some (by omega)) (.cons (Ld.add0 (Ld.el1 (P := Try.prog) (t := 3) (SlR.own (hp111.get0)).rd 1 (fun _ => rfl) hy115 (o := 0) (v := .int .i64 (ay[(os[q]!)]!)) (by kernel_rfl))) .nil)))))) (by kernel_rfl)) (fun b116 => ?_)
              refine QOPS.nil (fun w117 hp118 => ?_)
              refine thn_n ?_
              exact ⟨decide ((ay[(os[q]!)]!) < (ay[j]!)), trivial, Bp.of Bp.dec (by first | (simp only [h98, h108, iff_false, false_iff, iff_true, true_iff, Classical.not_not, and_true, true_and, and_false, false_and, or_true, true_or, or_false, false_or, not_true_eq_false, not_false_eq_true, and_self, or_self, iff_self]; done) | (simp [h98, h108]; done) | simp_all), by kernel_rfl, hp118⟩
            · refine QOPS.batch 0 {} [] [0, 5, 8, 10, 11, 52, 53, 54, 59, 60, 75] [.slice a n cp, .slice (some ⟨g5, 0, none⟩) n n, .int .i64 la, .int .i64 ((os[q]! : Nat) : Int), .int .i64 (j : Int), .slice ao no co, .int .i64 ((no : Nat) : Int), .int .i64 (q : Int), .int .i64 ((n : Nat) : Int), .int .i64 (j : Int), .bool (bo (aheadT l j (os[q]!)))] hnehp87 (fun _ _ => QB.mk .nil (by kernel_rfl)) (fun b119 => ?_)
              refine QOPS.re [.slice a n cp, .slice (some ⟨g5, 0, none⟩) n n, .int .i64 la, .int .i64 ((os[q]! : Nat) : Int), .int .i64 (j : Int), .slice ao no co, .int .i64 ((no : Nat) : Int), .int .i64 (q : Int), .int .i64 ((n : Nat) : Int), .int .i64 (j : Int), .bool false] (by rw [show (bo (aheadT l j (os[q]!))) = false from Bp.bo.ff h108]) ?_
              refine QOPS.batch 10 { wraps := [85] } [] [0, 5, 8, 10, 52, 53, 54, 59, 60, 85] [.slice a n cp, .slice (some ⟨g5, 0, none⟩) n n, .int .i64 la, .int .i64 ((os[q]! : Nat) : Int), .slice ao no co, .int .i64 ((no : Nat) : Int), .int .i64 (q : Int), .int .i64 ((n : Nat) : Int), .int .i64 (j : Int), .bool false] hnehp87 (fun w120 hp121 => QB.mk .nil (by kernel_rfl)) (fun b122 => ?_)
              refine QOPS.nil (fun w123 hp124 => ?_)
              refine thn_n ?_
              exact ⟨false, trivial, Bp.of Bp.f (by first | (simp only [h98, h108, iff_false, false_iff, iff_true, true_iff, Classical.not_not, and_true, true_and, and_false, false_and, or_true, true_or, or_false, false_or, not_true_eq_false, not_false_eq_true, and_self, or_self, iff_self]; done) | (simp [h98, h108]; done) | simp_all), by kernel_rfl, hp124⟩
          · refine QOPS.batch 0 {} [] [0, 5, 8, 10, 11, 52, 53, 54, 59, 60, 69] [.slice a n cp, .slice (some ⟨g5, 0, none⟩) n n, .int .i64 la, .int .i64 ((os[q]! : Nat) : Int), .int .i64 (j : Int), .slice ao no co, .int .i64 ((no : Nat) : Int), .int .i64 (q : Int), .int .i64 ((n : Nat) : Int), .int .i64 (j : Int), .bool (decide ((partT (l[j]!)) = 2))] hnehp87 (fun _ _ => QB.mk .nil (by kernel_rfl)) (fun b125 => ?_)
            refine QOPS.re [.slice a n cp, .slice (some ⟨g5, 0, none⟩) n n, .int .i64 la, .int .i64 ((os[q]! : Nat) : Int), .int .i64 (j : Int), .slice ao no co, .int .i64 ((no : Nat) : Int), .int .i64 (q : Int), .int .i64 ((n : Nat) : Int), .int .i64 (j : Int), .bool false] (by rw [show (decide ((partT (l[j]!)) = 2)) = false from Bp.dec.ff h98]) ?_
            refine QOPS.batch 16 { wraps := [74, 85] } [] [0, 5, 8, 10, 52, 53, 54, 59, 60, 85] [.slice a n cp, .slice (some ⟨g5, 0, none⟩) n n, .int .i64 la, .int .i64 ((os[q]! : Nat) : Int), .slice ao no co, .int .i64 ((no : Nat) : Int), .int .i64 (q : Int), .int .i64 ((n : Nat) : Int), .int .i64 (j : Int), .bool false] hnehp87 (fun w126 hp127 => QB.mk .nil (by kernel_rfl)) (fun b128 => ?_)
            refine QOPS.nil (fun w129 hp130 => ?_)
            refine thn_n ?_
            exact ⟨false, trivial, Bp.of Bp.f (by first | (simp only [h98, iff_false, false_iff, iff_true, true_iff, Classical.not_not, and_true, true_and, and_false, false_and, or_true, true_or, or_false, false_or, not_true_eq_false, not_false_eq_true, and_self, or_self, iff_self]; done) | (simp [h98]; done) | simp_all), by kernel_rfl, hp130⟩
        rintro e133 w134 ⟨x131, hd136, hb132, hE137, hp135⟩
        obtain ⟨b138, rfl⟩ := toMk hE137
        clear hE137
        clear hd136
        refine WP.test (p := ((partT (l[j]!)) = 2) ∧ (aheadT l j (os[q]!)) ∧ ((ay[(os[q]!)]!) < (ay[j]!))) rfl hb132 (fun h139 => ?_) (fun h139 => ?_)
        · refine WP.seq ?_
          refine WP.pure {} [] [4] [.bool false] .nil (by kernel_rfl) (fun b140 => ?_)
          refine thn_n ?_
          refine WP.ret ?_
          refine blk_r ?_
          refine thn_r ?_
          refine thn_r ?_
          refine blk_r ?_
          refine thn_r ?_
          refine blk_r ?_
          refine thn_r ?_
          refine thn_r ?_
          refine blk_r ?_
          refine thn_r ?_
          refine bodyQ.of _ rfl [.bool false] ⟨rfl, trivial⟩ ?_
          exfalso
          exact ex_ord hx c4 (j := j) (i := os[q]!) (by omega) (by omega) (hqm (by omega)) h139.1 h139.2.1 h139.2.2
        · refine WP.skip ?_
          refine blk_n ?_
          refine thn_n ?_
          refine WP.pure {} [] [0, 5, 8, 10, 52, 53, 54, 59, 60] [.slice a n cp, .slice (some ⟨g5, 0, none⟩) n n, .int .i64 la, .int .i64 ((os[q]! : Nat) : Int), .slice ao no co, .int .i64 ((no : Nat) : Int), .int .i64 (q : Int), .int .i64 ((n : Nat) : Int), .int .i64 ((j : Int) + 1)] (.cons (show Rng .i64 ((j : Int) + 1) from Rng.i64 (by omega)) .nil) (by kernel_rfl) (fun b141 => ?_)
          refine thn_n ?_
          exact ⟨l.length - (j + 1), (by omega), j + 1, rfl, (by omega), by kernel_rfl, hp135⟩
      · refine WP.exit ?_
        refine thn_x ?_
        refine thn_x ?_
        refine blk_hit ?_
        refine thn_n ?_
        refine WP.seq ?_
        refine WP.seq ?_
        refine WP.region _ rfl (by kernel_rfl) ?_
        refine OPS.batch 3 {} [] [0, 5, 8, 10, 52, 53, 54, 87, 88, 89] [.slice a n cp, .slice (some ⟨g5, 0, none⟩) n n, .int .i64 la, .int .i64 ((os[q]! : Nat) : Int), .slice ao no co, .int .i64 ((no : Nat) : Int), .int .i64 (q : Int), .slice a n cp, .int .i64 la, .int .i64 ((os[q]! : Nat) : Int)] .nil (by kernel_rfl) (fun b142 => ?_)
        refine OPS.cons (opStep.call (some 90) [.slice a n cp, .int .i64 la, .int .i64 ((os[q]! : Nat) : Int)] (by kernel_rfl) (top_fits_at hp77.fr hn hs hv hr hvn hll la (os[q]!) (by omega) (by omega)) ?_)
        rintro _ w145 ⟨b148, rfl, hb149, hf146⟩
        refine ⟨_, rfl, ?_⟩
        have hp147 := hp77.step hf146
        refine OPS.batch 1 {} [] [0, 5, 8, 10, 52, 53, 54, 91] [.slice a n cp, .slice (some ⟨g5, 0, none⟩) n n, .int .i64 la, .int .i64 ((os[q]! : Nat) : Int), .slice ao no co, .int .i64 ((no : Nat) : Int), .int .i64 (q : Int), .bool (!b148)] .nil (by kernel_rfl) (fun b150 => ?_)
        refine OPS.nil ?_
        refine thn_n ?_
        refine WP.test (p := ¬ (fitT (valAt w) l la (os[q]!))) rfl (Bp.not hb149) (fun h151 => ?_) (fun h151 => ?_)
        · refine WP.seq ?_
          refine WP.pure {} [] [4] [.bool false] .nil (by kernel_rfl) (fun b152 => ?_)
          refine thn_n ?_
          refine WP.ret ?_
          refine thn_r ?_
          refine blk_r ?_
          refine thn_r ?_
          refine thn_r ?_
          refine blk_r ?_
          refine thn_r ?_
          refine bodyQ.of _ rfl [.bool false] ⟨rfl, trivial⟩ ?_
          exfalso
          exact h151 (by rw [g2]; exact hx.rd q (by omega))
        · replace h151 := Classical.not_not.1 h151
          refine WP.skip ?_
          refine thn_n ?_
          refine WP.seq ?_
          have hy154 : (l)[(os[q]!)]? = some l[(os[q]!)]! := get_bang (by first | (omega) | (simp only [List.length_append, List.length_cons, List.length_nil]; omega) | (simp only [List.length_take, List.length_append, List.length_cons, List.length_nil]; omega))
          refine WP.pure {} [.bool (l[(os[q]!)]!.Put)] [0, 5, 8, 10, 52, 53, 54, 96] [.slice a n cp, .slice (some ⟨g5, 0, none⟩) n n, .int .i64 la, .int .i64 ((os[q]! : Nat) : Int), .slice ao no co, .int .i64 ((no : Nat) : Int), .int .i64 (q : Int), .bool (l[(os[q]!)]!.Put)] (.cons (show InB (((os[q]! : Nat) : Int)) (n) from ⟨by omega, by omega⟩) (.cons ((hs.at hp147).some (by omega)) (.cons (Ld.el1 (P := Try.prog) (t := 4) (hs.at hp147).rd 11 (fun _ => rfl) hy154 (o := 2) (v := .bool (l[(os[q]!)]!.Put)) (by kernel_rfl)) .nil))) (by kernel_rfl) (fun b155 => ?_)
          refine thn_n ?_
          refine WP.test (p := (l[(os[q]!)]!.Put) = true) rfl Bp.var (fun h156 => ?_) (fun h156 => ?_)
          · refine WP.pure {} [] [0, 5, 8, 52, 53, 54] [.slice a n cp, .slice (some ⟨g5, 0, none⟩) n n, .int .i64 ((os[q]! : Nat) : Int), .slice ao no co, .int .i64 ((no : Nat) : Int), .int .i64 (q : Int)] .nil (by kernel_rfl) (fun b157 => ?_)
            refine blk_n ?_
            refine thn_n ?_
            refine WP.pure {} [] [0, 5, 8, 52, 53, 54] [.slice a n cp, .slice (some ⟨g5, 0, none⟩) n n, .int .i64 ((os[q]! : Nat) : Int), .slice ao no co, .int .i64 ((no : Nat) : Int), .int .i64 ((q : Int) + 1)] (.cons (show Rng .i64 ((q : Int) + 1) from Rng.i64 (by omega)) .nil) (by kernel_rfl) (fun b158 => ?_)
            refine thn_n ?_
            exact ⟨os.length - (q + 1), (by omega), q + 1, ((os[q]! : Nat) : Int), rfl, ⟨by omega, by rw [take_snoc_get (by omega), lastOf_snoc, if_pos h156]⟩, by kernel_rfl, hp147⟩
          · refine WP.skip ?_
            refine blk_n ?_
            refine thn_n ?_
            refine WP.pure {} [] [0, 5, 8, 52, 53, 54] [.slice a n cp, .slice (some ⟨g5, 0, none⟩) n n, .int .i64 la, .slice ao no co, .int .i64 ((no : Nat) : Int), .int .i64 ((q : Int) + 1)] (.cons (show Rng .i64 ((q : Int) + 1) from Rng.i64 (by omega)) .nil) (by kernel_rfl) (fun b159 => ?_)
            refine thn_n ?_
            exact ⟨os.length - (q + 1), (by omega), q + 1, la, rfl, ⟨by omega, by rw [take_snoc_get (by omega), lastOf_snoc, if_neg h156]; exact g2⟩, by kernel_rfl, hp147⟩
    · refine WP.exit ?_
      refine thn_x ?_
      refine thn_x ?_
      refine blk_hit ?_
      refine thn_n ?_
      refine WP.seq ?_
      refine WP.seq ?_
      refine WP.pure {} [] [0, 5, 100, 101] [.slice a n cp, .slice (some ⟨g5, 0, none⟩) n n, .int .i64 ((n : Nat) : Int), .int .i64 0] .nil (by kernel_rfl) (fun b160 => ?_)
      refine thn_n ?_
      refine WP.block ?_
      refine WP.loop (fun mz_ e161 w162 => ∃ (p : Nat), mz_ = l.length - p ∧ (p ≤ l.length) ∧ List.map e161 [0, 5, 100, 101] = [.slice a n cp, .slice (some ⟨g5, 0, none⟩) n n, .int .i64 ((n : Nat) : Int), .int .i64 (p : Int)] ∧ Hp w Non [Res.own 3 1 (.slice (some ⟨g5, 0, none⟩) n n) n (List.flatMap (fun y => [.int .i64 y]) ay)] w162) (l.length - (0)) ⟨0, rfl, (by omega), by kernel_rfl, hp65⟩ ?_
      rintro _ e161 w162 ⟨p, rfl, hI164, hE165, hp163⟩
      obtain ⟨b166, rfl⟩ := toMk hE165
      clear hE165
      obtain p1 := hI164
      refine WP.seq ?_
      refine WP.pure {} [] [0, 5, 100, 101, 102] [.slice a n cp, .slice (some ⟨g5, 0, none⟩) n n, .int .i64 ((n : Nat) : Int), .int .i64 (p : Int), .bool (decide ((p : Int) < ((n : Nat) : Int)))] .nil (by kernel_rfl) (fun b167 => ?_)
      refine thn_n ?_
      refine WP.seq ?_
      refine WP.test (p := (p : Int) < ((n : Nat) : Int)) rfl Bp.dec (fun h168 => ?_) (fun h168 => ?_)
      · refine WP.skip ?_
        refine thn_n ?_
        refine WP.seq ?_
        refine WP.block ?_
        refine WP.seq ?_
        refine WP.pure {} [] [0, 5, 12, 100, 101] [.slice a n cp, .slice (some ⟨g5, 0, none⟩) n n, .int .i64 (p : Int), .int .i64 ((n : Nat) : Int), .int .i64 (p : Int)] .nil (by kernel_rfl) (fun b169 => ?_)
        refine thn_n ?_
        refine WP.cut (fun e191 w192 => ∃ (x189 : Bool), (True) ∧ Bp x189 (((partT (l[p]!)) = 2) ∧ ((ay[p]!) = 0)) ∧ List.map e191 [0, 5, 100, 101, 116] = [.slice a n cp, .slice (some ⟨g5, 0, none⟩) n n, .int .i64 ((n : Nat) : Int), .int .i64 (p : Int), .bool x189] ∧ Hp w Non [Res.own 3 1 (.slice (some ⟨g5, 0, none⟩) n n) n (List.flatMap (fun y => [.int .i64 y]) ay)] w192) ?_ ?_
        · refine WP.region _ rfl (by kernel_rfl) ?_
          have hy174 : (l)[p]? = some l[p]! := get_bang (by first | (omega) | (simp only [List.length_append, List.length_cons, List.length_nil]; omega) | (simp only [List.length_take, List.length_append, List.length_cons, List.length_nil]; omega))
          refine OPS.batch 4 {} [GCall.val (l[p]!)] [0, 5, 12, 100, 101, 107] [.slice a n cp, .slice (some ⟨g5, 0, none⟩) n n, .int .i64 (p : Int), .int .i64 ((n : Nat) : Int), .int .i64 (p : Int), GCall.val (l[p]!)] (.cons (show InB ((p : Int)) (n) from ⟨by omega, by omega⟩) (.cons ((hs.at hp163).some (by omega)) (.cons (Ld.add0 (Ld.elN (P := Try.prog) (t := 41) (hs.at hp163).rd 11 (fun _ => rfl) hy174 (o := 0) (cs := [.int .i64 (l[p]!.Client), .int .i64 (l[p]!.Op), .bool (l[p]!.Put), .string (l[p]!.Key), .slice (l[p]!.Value.a) (l[p]!.Value.n) (l[p]!.Value.c), .int .i64 (l[p]!.Status), .int .i64 (l[p]!.From), .int .i64 (l[p]!.To), .bool (l[p]!.Open), .int .i64 (l[p]!.Tag.Count), .int .i64 (l[p]!.Tag.Client)]) (by kernel_rfl))) .nil))) (by kernel_rfl) (fun b175 => ?_)
          refine OPS.cons (opStep.call (some 108) [GCall.val (l[p]!)] (by kernel_rfl) (top_part (l[p]!) _) ?_)
          rintro _ w178 ⟨rfl, hf179⟩
          refine ⟨_, rfl, ?_⟩
          have hp180 := hp163.step hf179
          refine OPS.batch 2 {} [] [0, 5, 12, 100, 101, 110] [.slice a n cp, .slice (some ⟨g5, 0, none⟩) n n, .int .i64 (p : Int), .int .i64 ((n : Nat) : Int), .int .i64 (p : Int), .bool (decide ((partT (l[p]!)) = 2))] .nil (by kernel_rfl) (fun b181 => ?_)
          by_cases h182 : (partT (l[p]!)) = 2
          · refine OPS.batch 0 {} [] [0, 5, 12, 100, 101, 110] [.slice a n cp, .slice (some ⟨g5, 0, none⟩) n n, .int .i64 (p : Int), .int .i64 ((n : Nat) : Int), .int .i64 (p : Int), .bool (decide ((partT (l[p]!)) = 2))] .nil (by kernel_rfl) (fun b183 => ?_)
            refine OPS.re [.slice a n cp, .slice (some ⟨g5, 0, none⟩) n n, .int .i64 (p : Int), .int .i64 ((n : Nat) : Int), .int .i64 (p : Int), .bool true] (by rw [show (decide ((partT (l[p]!)) = 2)) = true from Bp.dec.tt h182]) ?_
            have := own_flat (sz := 1) (fun _ => rfl) (by decide) hp180.get0
            have hy185 : (ay)[p]? = some ay[p]! := get_bang (by first | (omega) | (simp only [List.length_append, List.length_cons, List.length_nil]; omega) | (simp only [List.length_take, List.length_append, List.length_cons, List.length_nil]; omega))
            refine OPS.batch 6 { wraps := [116] } [.int .i64 (ay[p]!)] [0, 5, 100, 101, 116] [.slice a n cp, .slice (some ⟨g5, 0, none⟩) n n, .int .i64 ((n : Nat) : Int), .int .i64 (p : Int), .bool (decide ((ay[p]!) = 0))] (.cons (show InB ((p : Int)) (n) from ⟨by omega, by omega⟩) (.cons ((SlR.own (hp180.get0)).some (by omega)) (.cons (Ld.add0 (Ld.el1 (P := Try.prog) (t := 3) (SlR.own (hp180.get0)).rd 1 (fun _ => rfl) hy185 (o := 0) (v := .int .i64 (ay[p]!)) (by kernel_rfl))) .nil))) (by kernel_rfl) (fun b186 => ?_)
            refine OPS.nil ?_
            refine thn_n ?_
            exact ⟨decide ((ay[p]!) = 0), trivial, Bp.of Bp.dec (by first | (simp only [h182, iff_false, false_iff, iff_true, true_iff, Classical.not_not, and_true, true_and, and_false, false_and, or_true, true_or, or_false, false_or, not_true_eq_false, not_false_eq_true, and_self, or_self, iff_self]; done) | (simp [h182]; done) | simp_all), by kernel_rfl, hp180⟩
          · refine OPS.batch 0 {} [] [0, 5, 12, 100, 101, 110] [.slice a n cp, .slice (some ⟨g5, 0, none⟩) n n, .int .i64 (p : Int), .int .i64 ((n : Nat) : Int), .int .i64 (p : Int), .bool (decide ((partT (l[p]!)) = 2))] .nil (by kernel_rfl) (fun b187 => ?_)
            refine OPS.re [.slice a n cp, .slice (some ⟨g5, 0, none⟩) n n, .int .i64 (p : Int), .int .i64 ((n : Nat) : Int), .int .i64 (p : Int), .bool false] (by rw [show (decide ((partT (l[p]!)) = 2)) = false from Bp.dec.ff h182]) ?_
            refine OPS.batch 6 { wraps := [116] } [] [0, 5, 100, 101, 116] [.slice a n cp, .slice (some ⟨g5, 0, none⟩) n n, .int .i64 ((n : Nat) : Int), .int .i64 (p : Int), .bool false] .nil (by kernel_rfl) (fun b188 => ?_)
            refine OPS.nil ?_
            refine thn_n ?_
            exact ⟨false, trivial, Bp.of Bp.f (by first | (simp only [h182, iff_false, false_iff, iff_true, true_iff, Classical.not_not, and_true, true_and, and_false, false_and, or_true, true_or, or_false, false_or, not_true_eq_false, not_false_eq_true, and_self, or_self, iff_self]; done) | (simp [h182]; done) | simp_all), by kernel_rfl, hp180⟩
        rintro e191 w192 ⟨x189, hd194, hb190, hE195, hp193⟩
        obtain ⟨b196, rfl⟩ := toMk hE195
        clear hE195
        clear hd194
        refine WP.test (p := ((partT (l[p]!)) = 2) ∧ ((ay[p]!) = 0)) rfl hb190 (fun h197 => ?_) (fun h197 => ?_)
        · refine WP.seq ?_
          refine WP.pure {} [] [4] [.bool false] .nil (by kernel_rfl) (fun b198 => ?_)
          refine thn_n ?_
          refine WP.ret ?_
          refine blk_r ?_
          refine thn_r ?_
          refine thn_r ?_
          refine blk_r ?_
          refine thn_r ?_
          refine bodyQ.of _ rfl [.bool false] ⟨rfl, trivial⟩ ?_
          exfalso
          exact ex_last hx c4 (j := p) (by omega) h197.1 h197.2
        · refine WP.skip ?_
          refine blk_n ?_
          refine thn_n ?_
          refine WP.pure {} [] [0, 5, 100, 101] [.slice a n cp, .slice (some ⟨g5, 0, none⟩) n n, .int .i64 ((n : Nat) : Int), .int .i64 ((p : Int) + 1)] (.cons (show Rng .i64 ((p : Int) + 1) from Rng.i64 (by omega)) .nil) (by kernel_rfl) (fun b199 => ?_)
          refine thn_n ?_
          exact ⟨l.length - (p + 1), (by omega), p + 1, rfl, (by omega), by kernel_rfl, hp193⟩
      · refine WP.exit ?_
        refine thn_x ?_
        refine thn_x ?_
        refine blk_hit ?_
        refine thn_n ?_
        refine WP.seq ?_
        refine WP.pure {} [] [4] [.bool true] .nil (by kernel_rfl) (fun b200 => ?_)
        refine thn_n ?_
        refine WP.ret ?_
        refine bodyQ.of _ rfl [.bool true] ⟨rfl, trivial⟩ ?_
        exact ⟨rfl, hp163.fr⟩

theorem top_explains_at {w0 w : World} (hf : Fram Non w0 w) {l : List GCall} {n : Nat} (hn : l.length = n) {a : Option Addr} {cp : Nat} (hs : SlR w0 a n (l.flatMap GCall.cells)) (hv : ∀ x ∈ l, VB w0 x.Value) (hr : ByR w0 l) (hvn : ∀ x ∈ l, x.Value.n ≤ 1048576) (hll : l.length ≤ 1048576) (os : List Nat) (ao : Option Addr) (no co : Nat) (h2 : SlR w ao no (List.flatMap (fun (y : Nat) => [Go.Value.int .i64 (y : Int)]) os)) (hno : os.length = no) (hx : Expl (valAt w0) l os) :
    Calls Try.prog 55 #[.slice a n cp, .slice ao no co] w (fun x w' => x = .returned (.bool true) ∧ Fram Non w w') :=
  top_explains l n hn a cp w (hs.fram hf) (fun x hx => ((hv x hx).step hf).1) (byr_at hf hv hr) hvn hll os ao no co h2 hno ((expl_same (vals_at hf hv)).2 hx)

end Go.Proofs.Ythdkbbpiaeaojaa.K
