/- Texts of this claim, merged: what the program's functions compute, and the rules that the walks use. -/
import Derived.Test.YtbpedjefoajegaaDoorProg
import Derived.Lib.LaidTab
import Derived.Test.YtbpedjefoajegaaDoorRows
import Derived.JoinedCond
import Derived.Test.YtbpedjefoajegaaDoorZ1
import Derived.Test.YtbpedjefoajegaaDoorZ3
import Derived.Test.YtbpedjefoajegaaDoorZ8
import Derived.Test.YtbpedjefoajegaaDoorZ9
import Derived.Test.YtbpedjefoajegaaDoorZ12
namespace Go.Proofs.YtbpedjefoajegaaDoor.K
open Go Go.Proofs Go.RowKit
set_option linter.unusedVariables false
set_option linter.unusedSimpArgs false
set_option maxRecDepth 20000
set_option maxHeartbeats 4000000
noncomputable abbrev qd0 := ([iI 0, iI 0, iI 0, .string ByteArray.empty, nS, nS] : List Go.Value)
noncomputable abbrev qd1 := fun a0 => ([iI a0, iI 0, iI 0, .string ByteArray.empty, nS, nS] : List Go.Value)
noncomputable abbrev qd2 := fun a0 a1 a2 => ([iI a0, iI a1, iI a2, .string ByteArray.empty, nS, nS] : List Go.Value)

theorem wn_1 {w : World} (h : (Res.row 1 wordsC 65).holds w) : Ld Tryd.prog w 9 ((⟨1, 0, none⟩ : Addr).add ((1 : Int).toNat * 1)) (.string (kWord 1)) := by
  rw [show ((⟨1, 0, none⟩ : Addr).add ((1 : Int).toNat * 1)) = ⟨1, 1, none⟩ from by kernel_rfl]; exact Ld.row1 (P := Tryd.prog) (t := 9) (o := 1) h (by kernel_rfl)
theorem wn_2 {w : World} (h : (Res.row 1 wordsC 65).holds w) : Ld Tryd.prog w 9 ((⟨1, 0, none⟩ : Addr).add ((2 : Int).toNat * 1)) (.string (kWord 2)) := by
  rw [show ((⟨1, 0, none⟩ : Addr).add ((2 : Int).toNat * 1)) = ⟨1, 2, none⟩ from by kernel_rfl]; exact Ld.row1 (P := Tryd.prog) (t := 9) (o := 2) h (by kernel_rfl)
theorem wn_3 {w : World} (h : (Res.row 1 wordsC 65).holds w) : Ld Tryd.prog w 9 ((⟨1, 0, none⟩ : Addr).add ((3 : Int).toNat * 1)) (.string (kWord 3)) := by
  rw [show ((⟨1, 0, none⟩ : Addr).add ((3 : Int).toNat * 1)) = ⟨1, 3, none⟩ from by kernel_rfl]; exact Ld.row1 (P := Tryd.prog) (t := 9) (o := 3) h (by kernel_rfl)
theorem wn_4 {w : World} (h : (Res.row 1 wordsC 65).holds w) : Ld Tryd.prog w 9 ((⟨1, 0, none⟩ : Addr).add ((4 : Int).toNat * 1)) (.string (kWord 4)) := by
  rw [show ((⟨1, 0, none⟩ : Addr).add ((4 : Int).toNat * 1)) = ⟨1, 4, none⟩ from by kernel_rfl]; exact Ld.row1 (P := Tryd.prog) (t := 9) (o := 4) h (by kernel_rfl)
theorem wn_5 {w : World} (h : (Res.row 1 wordsC 65).holds w) : Ld Tryd.prog w 9 ((⟨1, 0, none⟩ : Addr).add ((5 : Int).toNat * 1)) (.string (kWord 5)) := by
  rw [show ((⟨1, 0, none⟩ : Addr).add ((5 : Int).toNat * 1)) = ⟨1, 5, none⟩ from by kernel_rfl]; exact Ld.row1 (P := Tryd.prog) (t := 9) (o := 5) h (by kernel_rfl)
theorem wn_6 {w : World} (h : (Res.row 1 wordsC 65).holds w) : Ld Tryd.prog w 9 ((⟨1, 0, none⟩ : Addr).add ((6 : Int).toNat * 1)) (.string (kWord 6)) := by
  rw [show ((⟨1, 0, none⟩ : Addr).add ((6 : Int).toNat * 1)) = ⟨1, 6, none⟩ from by kernel_rfl]; exact Ld.row1 (P := Tryd.prog) (t := 9) (o := 6) h (by kernel_rfl)
theorem wn_7 {w : World} (h : (Res.row 1 wordsC 65).holds w) : Ld Tryd.prog w 9 ((⟨1, 0, none⟩ : Addr).add ((7 : Int).toNat * 1)) (.string (kWord 7)) := by
  rw [show ((⟨1, 0, none⟩ : Addr).add ((7 : Int).toNat * 1)) = ⟨1, 7, none⟩ from by kernel_rfl]; exact Ld.row1 (P := Tryd.prog) (t := 9) (o := 7) h (by kernel_rfl)
theorem wn_8 {w : World} (h : (Res.row 1 wordsC 65).holds w) : Ld Tryd.prog w 9 ((⟨1, 0, none⟩ : Addr).add ((8 : Int).toNat * 1)) (.string (kWord 8)) := by
  rw [show ((⟨1, 0, none⟩ : Addr).add ((8 : Int).toNat * 1)) = ⟨1, 8, none⟩ from by kernel_rfl]; exact Ld.row1 (P := Tryd.prog) (t := 9) (o := 8) h (by kernel_rfl)
theorem wn_9 {w : World} (h : (Res.row 1 wordsC 65).holds w) : Ld Tryd.prog w 9 ((⟨1, 0, none⟩ : Addr).add ((9 : Int).toNat * 1)) (.string (kWord 9)) := by
  rw [show ((⟨1, 0, none⟩ : Addr).add ((9 : Int).toNat * 1)) = ⟨1, 9, none⟩ from by kernel_rfl]; exact Ld.row1 (P := Tryd.prog) (t := 9) (o := 9) h (by kernel_rfl)
theorem wn_10 {w : World} (h : (Res.row 1 wordsC 65).holds w) : Ld Tryd.prog w 9 ((⟨1, 0, none⟩ : Addr).add ((10 : Int).toNat * 1)) (.string (kWord 10)) := by
  rw [show ((⟨1, 0, none⟩ : Addr).add ((10 : Int).toNat * 1)) = ⟨1, 10, none⟩ from by kernel_rfl]; exact Ld.row1 (P := Tryd.prog) (t := 9) (o := 10) h (by kernel_rfl)
theorem wn_11 {w : World} (h : (Res.row 1 wordsC 65).holds w) : Ld Tryd.prog w 9 ((⟨1, 0, none⟩ : Addr).add ((11 : Int).toNat * 1)) (.string (kWord 11)) := by
  rw [show ((⟨1, 0, none⟩ : Addr).add ((11 : Int).toNat * 1)) = ⟨1, 11, none⟩ from by kernel_rfl]; exact Ld.row1 (P := Tryd.prog) (t := 9) (o := 11) h (by kernel_rfl)
theorem wn_12 {w : World} (h : (Res.row 1 wordsC 65).holds w) : Ld Tryd.prog w 9 ((⟨1, 0, none⟩ : Addr).add ((12 : Int).toNat * 1)) (.string (kWord 12)) := by
  rw [show ((⟨1, 0, none⟩ : Addr).add ((12 : Int).toNat * 1)) = ⟨1, 12, none⟩ from by kernel_rfl]; exact Ld.row1 (P := Tryd.prog) (t := 9) (o := 12) h (by kernel_rfl)
theorem wn_13 {w : World} (h : (Res.row 1 wordsC 65).holds w) : Ld Tryd.prog w 9 ((⟨1, 0, none⟩ : Addr).add ((13 : Int).toNat * 1)) (.string (kWord 13)) := by
  rw [show ((⟨1, 0, none⟩ : Addr).add ((13 : Int).toNat * 1)) = ⟨1, 13, none⟩ from by kernel_rfl]; exact Ld.row1 (P := Tryd.prog) (t := 9) (o := 13) h (by kernel_rfl)
theorem wn_14 {w : World} (h : (Res.row 1 wordsC 65).holds w) : Ld Tryd.prog w 9 ((⟨1, 0, none⟩ : Addr).add ((14 : Int).toNat * 1)) (.string (kWord 14)) := by
  rw [show ((⟨1, 0, none⟩ : Addr).add ((14 : Int).toNat * 1)) = ⟨1, 14, none⟩ from by kernel_rfl]; exact Ld.row1 (P := Tryd.prog) (t := 9) (o := 14) h (by kernel_rfl)
theorem wn_15 {w : World} (h : (Res.row 1 wordsC 65).holds w) : Ld Tryd.prog w 9 ((⟨1, 0, none⟩ : Addr).add ((15 : Int).toNat * 1)) (.string (kWord 15)) := by
  rw [show ((⟨1, 0, none⟩ : Addr).add ((15 : Int).toNat * 1)) = ⟨1, 15, none⟩ from by kernel_rfl]; exact Ld.row1 (P := Tryd.prog) (t := 9) (o := 15) h (by kernel_rfl)
theorem wn_16 {w : World} (h : (Res.row 1 wordsC 65).holds w) : Ld Tryd.prog w 9 ((⟨1, 0, none⟩ : Addr).add ((16 : Int).toNat * 1)) (.string (kWord 16)) := by
  rw [show ((⟨1, 0, none⟩ : Addr).add ((16 : Int).toNat * 1)) = ⟨1, 16, none⟩ from by kernel_rfl]; exact Ld.row1 (P := Tryd.prog) (t := 9) (o := 16) h (by kernel_rfl)
theorem wn_a {k : Int} (hp : 1 ≤ k ∧ k ≤ 16) {w : World} (h : (Res.row 1 wordsC 65).holds w) : Ld Tryd.prog w 9 ((⟨1, 0, none⟩ : Addr).add ((k : Int).toNat * 1)) (.string (kWord k)) := by
  rcases kcases hp with rfl | rfl | rfl | rfl | rfl | rfl | rfl | rfl | rfl | rfl | rfl | rfl | rfl | rfl | rfl | rfl
  · exact wn_1 h
  · exact wn_2 h
  · exact wn_3 h
  · exact wn_4 h
  · exact wn_5 h
  · exact wn_6 h
  · exact wn_7 h
  · exact wn_8 h
  · exact wn_9 h
  · exact wn_10 h
  · exact wn_11 h
  · exact wn_12 h
  · exact wn_13 h
  · exact wn_14 h
  · exact wn_15 h
  · exact wn_16 h
theorem rf_loose (line : ByteArray) (hs : line.size ≤ 1099511627776) (w : World) (hwd : (Res.row 1 wordsC 65).holds w) :
  Calls Tryd.prog 38 #[.string line] w (fun r_ w' => ∃ s x F, r_ = .returned (GStep.val s) ∧ LooR line x ∧ Hp w Non [Res.sv F [s] [x]] w') := by
 have hwl : ∀ x ∈ partsB 32 line, x.size ≤ line.size := fun x hx => partsB_size hx
 have hwz : ∀ x ∈ partsB 32 line, x.size ≤ 8796093022200 := fun x hx => Nat.le_trans (hwl x hx) (by omega)
 have hwz2 : ∀ x ∈ partsB 32 line, x.size ≤ 1099511627776 := fun x hx => Nat.le_trans (hwl x hx) hs
 have hne := (partsB_len 32 line).1
 have hne2 := (partsB_len 32 line).2
 refine calls_of Tryd.func38 rfl 113 rfl (by simp) ?_
 have hp0 := Hp.init w
 have he0 : List.map (env0 [.string line]) [0] = [.string line] := by kernel_rfl
 obtain ⟨b0, he0⟩ := toMk he0
 rw [he0]
 clear he0
 refine WP.seq (wR ?_)
 refine OPS.cons (opStep.alloc hp0 qd0 (by kernel_rfl) (fun g3 w1 hp2 => ?_))
 refine OPS.nil (thn_n (WP.seq (wR ?_)))
 refine OPS.cons (opStep.alloc hp2 qd0 (by kernel_rfl) (fun g6 w4 hp5 => ?_))
 refine OPS.nil (thn_n (WP.seq (wR (oP 1 [2, 3, 7] [pP g3, pP g6, .string line] fun b7 => ?_))))
 refine OPS.cons (opStep.call (some 8) [.string line, .int .u8 32] (by kernel_rfl) (rf_parts 32 line (by omega) _) ?_)
 rintro _ w10 ⟨a12, n13, c14, rfl, hp11⟩
 have hln9 := own_flat (f := strc) (sz := 1) (fun _ => rfl) (by decide) hp11.get0
 subst hln9
 have hcap9 := own_cap hp11.get0
 refine ⟨_, rfl, ?_⟩
 have hp15 := hp5.madeQ hp11
 simp only [List.cons_append, List.nil_append] at hp15
 refine oP 1 [2, 3, 4] [pP g3, pP g6, .slice a12 ((partsB 32 line).length) c14] fun b16 => ?_
 refine OPS.nil (thn_n (WP.seq (WP.seq (wP [2, 3, 4, 5] [pP g3, pP g6, .slice a12 ((partsB 32 line).length) c14, iI 1] fun b17 => ?_))))
 refine thn_n (WP.block ?_)
 refine WP.loop (fun mz_ e18 w19 => ∃ (k : Nat) (K : Int), mz_ = 17 - k ∧ (1 ≤ k ∧ k ≤ 17 ∧ KwI (partsB 32 line)[0]! k K) ∧ List.map e18 [2, 3, 4, 5] = [pP g3, pP g6, .slice a12 ((partsB 32 line).length) c14, iI (k : Int)] ∧ Hp w Non [Res.own 9 1 (.slice a12 ((partsB 32 line).length) c14) ((partsB 32 line).length) (List.flatMap strc (partsB 32 line)), Res.row g6 (qd1 K) 31, Res.row g3 qd0 31] w19) (17 - (1)) ⟨1, 0, rfl, ⟨Nat.le_refl _, by decide, KwI.start _⟩, by kernel_rfl, hp15⟩ ?_
 rintro _ e18 w19 ⟨k, K, rfl, hI21, hE22, hp20⟩
 obtain ⟨b23, rfl⟩ := toMk hE22
 clear hE22
 obtain ⟨pa, pb, pk⟩ := hI21
 refine WP.seq (WP.seq (wP [2, 3, 4, 5, 10] [pP g3, pP g6, .slice a12 ((partsB 32 line).length) c14, iI (k : Int), .bool (decide ((k : Int) ≤ 16))] fun b24 => ?_))
 refine thn_n ?_
 refine WP.test (p := (k : Int) ≤ 16) rfl Bp.dec (fun h25 => ?_) (fun h25 => ?_)
 ·refine WP.skip (thn_n (WP.seq (WP.block (WP.seq ?_))))
  have hp28 := hp20.drew
  refine WP.quiet (fun w26 => Hp w Non [Res.own 9 1 (.slice a12 ((partsB 32 line).length) c14) ((partsB 32 line).length) (List.flatMap strc (partsB 32 line)), Res.row g6 (qd1 K) 31, Res.row g3 qd0 31] w26) (by kernel_rfl) hp28 ?_
  have hnehp28 : ∃ wz_, (fun w26 => Hp w Non [Res.own 9 1 (.slice a12 ((partsB 32 line).length) c14) ((partsB 32 line).length) (List.flatMap strc (partsB 32 line)), Res.row g6 (qd1 K) 31, Res.row g3 qd0 31] w26) wz_ := ⟨_, hp28⟩
  have hy32 : ((partsB 32 line))[0]? = some (partsB 32 line)[0]! := get_bang (by first | (omega) | (simp only [List.length_append, List.length_cons, List.length_nil]; omega) | (simp only [List.length_take, List.length_append, List.length_cons, List.length_nil]; omega))
  refine QOPS.batch 7 {} [.string ((partsB 32 line)[0]!), .string (kWord (k : Int))] [2, 3, 4, 5, 19] [pP g3, pP g6, .slice a12 ((partsB 32 line).length) c14, iI (k : Int), .bool (decide (((partsB 32 line)[0]!) = (kWord (k : Int))))] hnehp28 (fun w29 hp30 => QB.mk (.cons (show InB (0) ((partsB 32 line).length) from ⟨by omega, by omega⟩) (.cons ((SlR.own hp30.get0).some (by omega)) (.cons (Ld.add0 (Ld.el1 (P := Tryd.prog) (t := 9) (SlR.own hp30.get0).rd 1 (fun _ => rfl) hy32 (o := 0) (v := .string ((partsB 32 line)[0]!)) (by kernel_rfl))) (.cons (show InB ((k : Int)) (17) from ⟨by omega, by omega⟩) (.cons (wn_a (k := (k : Int)) (by omega) (row_at hwd hp30.fr)) .nil))))) (by kernel_rfl)) (fun b33 => ?_)
  refine QOPS.nil (fun w34 hp35 => ?_)
  refine thn_n ?_
  refine WP.test (p := ((partsB 32 line)[0]!) = (kWord (k : Int))) rfl Bp.dec (fun h36 => ?_) (fun h36 => ?_)
  ·refine wR (oP 2 [2, 3, 4, 5, 20, 21] [pP g3, pP g6, .slice a12 ((partsB 32 line).length) c14, iI (k : Int), iI (k : Int), pP g6] fun b37 => ?_)
   refine OPS.cons (opStep.store1 hp35 rfl [iI (k : Int)] [iI (k : Int), iI 0, iI 0, .string ByteArray.empty, nS, nS] (by kernel_rfl) (fun w38 hp39 => ?_))
   refine OPS.nil (blk_n (thn_n (wQ {} [] [2, 3, 4, 5] [pP g3, pP g6, .slice a12 ((partsB 32 line).length) c14, iI ((k : Int) + 1)] (.cons (show Rng .i64 ((k : Int) + 1) from Rng.i64 (by omega)) .nil) fun b40 => ?_)))
   refine thn_n ?_
   exact ⟨17 - (k + 1), (by omega), k + 1, (k : Int), rfl, ⟨by omega, by omega, pk.hit pa (by omega) h36⟩, by kernel_rfl, hp39⟩
  ·refine WP.skip (blk_n (thn_n (wQ {} [] [2, 3, 4, 5] [pP g3, pP g6, .slice a12 ((partsB 32 line).length) c14, iI ((k : Int) + 1)] (.cons (show Rng .i64 ((k : Int) + 1) from Rng.i64 (by omega)) .nil) fun b41 => ?_)))
   refine thn_n ?_
   exact ⟨17 - (k + 1), (by omega), k + 1, K, rfl, ⟨by omega, by omega, pk.miss h36⟩, by kernel_rfl, hp35⟩
 ·refine WP.exit (thn_x (thn_x (blk_hit (thn_n (WP.seq (wP [2, 3, 4, 6] [pP g3, pP g6, .slice a12 ((partsB 32 line).length) c14, iI 1] fun b42 => ?_))))))
  refine thn_n ?_
  refine WP.cut (fun e82 w83 => ∃ (x80 : Int) (x81 : Int), ((x80 = 2 ∧ x81 = numI ((partsB 32 line)[1]!) ∧ ((kA K = true) ∧ (1 < (((partsB 32 line).length : Nat) : Int))) ∧ True) ∨ (x80 = 1 ∧ x81 = 0 ∧ (¬ ((kA K = true) ∧ (1 < (((partsB 32 line).length : Nat) : Int)))) ∧ True)) ∧ List.map e82 [2, 3, 4, 6] = [pP g3, pP g6, .slice a12 ((partsB 32 line).length) c14, iI x80] ∧ Hp w Non [Res.own 9 1 (.slice a12 ((partsB 32 line).length) c14) ((partsB 32 line).length) (List.flatMap strc (partsB 32 line)), Res.row g6 [iI K, iI x81, iI 0, .string ByteArray.empty, nS, nS] 31, Res.row g3 qd0 31] w83) ?_ ?_
  ·refine WP.cut (fun e59 w60 => ∃ (x57 : Bool), (True) ∧ Bp x57 ((kA K = true) ∧ (1 < (((partsB 32 line).length : Nat) : Int))) ∧ List.map e59 [2, 3, 4, 6, 30] = [pP g3, pP g6, .slice a12 ((partsB 32 line).length) c14, iI 1, .bool x57] ∧ Hp w Non [Res.own 9 1 (.slice a12 ((partsB 32 line).length) c14) ((partsB 32 line).length) (List.flatMap strc (partsB 32 line)), Res.row g6 (qd1 K) 31, Res.row g3 qd0 31] w60) ?_ ?_
   ·refine wR (oQ 2 {} [iI K] [2, 3, 4, 6, 23] [pP g3, pP g6, .slice a12 ((partsB 32 line).length) c14, iI 1, iI K] (.cons (l1 3 0 (iI K) hp20.get1) .nil) fun b45 => ?_)
    refine OPS.cons (opStep.call (some 24) [iI K] (by kernel_rfl) (rf_hasA K _) ?_)
    rintro _ w48 ⟨rfl, hf49⟩
    refine ⟨_, rfl, ?_⟩
    have hp50 := hp20.step hf49
    refine oP 1 [2, 3, 4, 6, 25] [pP g3, pP g6, .slice a12 ((partsB 32 line).length) c14, iI 1, .bool (kA K)] fun b51 => ?_
    by_cases h52 : kA K = true
    ·refine oP 0 [2, 3, 4, 6, 25] [pP g3, pP g6, .slice a12 ((partsB 32 line).length) c14, iI 1, .bool (kA K)] fun b53 => ?_
     refine OPS.re [pP g3, pP g6, .slice a12 ((partsB 32 line).length) c14, iI 1, bT] (by rw [show (kA K) = true from Bp.var.tt h52]) ?_
     refine oQ 5 { wraps := [30] } [] [2, 3, 4, 6, 30] [pP g3, pP g6, .slice a12 ((partsB 32 line).length) c14, iI 1, .bool (decide (1 < (((partsB 32 line).length : Nat) : Int)))] .nil fun b54 => ?_
     refine OPS.nil (thn_n ?_)
     exact ⟨decide (1 < (((partsB 32 line).length : Nat) : Int)), trivial, Bp.of Bp.dec (by first | (simp [h52]; done) | grind | (simp_all; done)), by kernel_rfl, hp50⟩
    ·refine oP 0 [2, 3, 4, 6, 25] [pP g3, pP g6, .slice a12 ((partsB 32 line).length) c14, iI 1, .bool (kA K)] fun b55 => ?_
     refine OPS.re [pP g3, pP g6, .slice a12 ((partsB 32 line).length) c14, iI 1, bF] (by rw [show (kA K) = false from Bp.var.ff h52]) ?_
     refine oQ 5 { wraps := [30] } [] [2, 3, 4, 6, 30] [pP g3, pP g6, .slice a12 ((partsB 32 line).length) c14, iI 1, bF] .nil fun b56 => ?_
     refine OPS.nil (thn_n ?_)
     exact ⟨false, trivial, Bp.of Bp.f (by first | (simp [h52]; done) | grind | (simp_all; done)), by kernel_rfl, hp50⟩
   rintro e59 w60 ⟨x57, hd62, hb58, hE63, hp61⟩
   obtain ⟨b64, rfl⟩ := toMk hE63
   clear hE63
   clear hd62
   refine WP.test (p := (kA K = true) ∧ (1 < (((partsB 32 line).length : Nat) : Int))) rfl hb58 (fun h65 => ?_) (fun h65 => ?_)
   ·refine WP.seq (wR ?_)
    have hy69 : ((partsB 32 line))[1]? = some (partsB 32 line)[1]! := get_bang (by first | (omega) | (simp only [List.length_append, List.length_cons, List.length_nil]; omega) | (simp only [List.length_take, List.length_append, List.length_cons, List.length_nil]; omega))
    refine oQ 4 {} [.string ((partsB 32 line)[1]!)] [2, 3, 4, 6, 34] [pP g3, pP g6, .slice a12 ((partsB 32 line).length) c14, iI 1, .string ((partsB 32 line)[1]!)] (.cons (show InB (1) ((partsB 32 line).length) from ⟨by omega, by omega⟩) (.cons ((SlR.own hp61.get0).some (by omega)) (.cons (Ld.add0 (Ld.el1 (P := Tryd.prog) (t := 9) (SlR.own hp61.get0).rd 1 (fun _ => rfl) hy69 (o := 0) (v := .string ((partsB 32 line)[1]!)) (by kernel_rfl))) .nil))) fun b70 => ?_
    refine OPS.cons (opStep.call (some 35) [.string ((partsB 32 line)[1]!)] (by kernel_rfl) (rf_number ((partsB 32 line)[1]!) (hwz _ (List.mem_of_getElem? (get_bang (by omega)))) _) ?_)
    rintro _ w73 ⟨rfl, hf74⟩
    refine ⟨_, rfl, ?_⟩
    have hp75 := hp61.step hf74
    refine oP 1 [2, 3, 4, 6, 35, 36] [pP g3, pP g6, .slice a12 ((partsB 32 line).length) c14, iI 1, iI (numI ((partsB 32 line)[1]!)), .pointer (some ⟨g6, 1, none⟩)] fun b76 => ?_
    refine OPS.cons (opStep.store1 hp75 rfl [iI (numI ((partsB 32 line)[1]!))] [iI K, iI (numI ((partsB 32 line)[1]!)), iI 0, .string ByteArray.empty, nS, nS] (by kernel_rfl) (fun w77 hp78 => ?_))
    refine OPS.nil (thn_n (wQ {} [] [2, 3, 4, 6] [pP g3, pP g6, .slice a12 ((partsB 32 line).length) c14, iI 2] (.cons (show Rng .i64 (2) from Rng.i64 (by omega)) .nil) fun b79 => ?_))
    refine thn_n ?_
    exact ⟨2, numI ((partsB 32 line)[1]!), Or.inl ⟨rfl, rfl, h65, trivial⟩, by kernel_rfl, hp78⟩
   ·refine WP.skip (thn_n ?_)
    exact ⟨1, 0, Or.inr (⟨rfl, rfl, h65, trivial⟩), by kernel_rfl, hp61⟩
  rintro e82 w83 ⟨x80, x81, hd85, hE86, hp84⟩
  obtain ⟨b87, rfl⟩ := toMk hE86
  clear hE86
  refine WP.cut (fun e127 w128 => ∃ (x125 : Int) (x126 : Int), ((x125 = x80 + 1 ∧ x126 = numI ((partsB 32 line)[(x80 : Int).toNat]!) ∧ ((kB K = true) ∧ (x80 < (((partsB 32 line).length : Nat) : Int))) ∧ True) ∨ (x125 = x80 ∧ x126 = 0 ∧ (¬ ((kB K = true) ∧ (x80 < (((partsB 32 line).length : Nat) : Int)))) ∧ True)) ∧ List.map e127 [2, 3, 4, 6] = [pP g3, pP g6, .slice a12 ((partsB 32 line).length) c14, iI x125] ∧ Hp w Non [Res.own 9 1 (.slice a12 ((partsB 32 line).length) c14) ((partsB 32 line).length) (List.flatMap strc (partsB 32 line)), Res.row g6 (qd2 K x81 x126) 31, Res.row g3 qd0 31] w128) ?_ ?_
  ·refine WP.cut (fun e104 w105 => ∃ (x102 : Bool), (True) ∧ Bp x102 ((kB K = true) ∧ (x80 < (((partsB 32 line).length : Nat) : Int))) ∧ List.map e104 [2, 3, 4, 6, 47] = [pP g3, pP g6, .slice a12 ((partsB 32 line).length) c14, iI x80, .bool x102] ∧ Hp w Non [Res.own 9 1 (.slice a12 ((partsB 32 line).length) c14) ((partsB 32 line).length) (List.flatMap strc (partsB 32 line)), Res.row g6 [iI K, iI x81, iI 0, .string ByteArray.empty, nS, nS] 31, Res.row g3 qd0 31] w105) ?_ ?_
   ·refine wR (oQ 2 {} [iI K] [2, 3, 4, 6, 40] [pP g3, pP g6, .slice a12 ((partsB 32 line).length) c14, iI x80, iI K] (.cons (l1 3 0 (iI K) hp84.get1) .nil) fun b90 => ?_)
    refine OPS.cons (opStep.call (some 41) [iI K] (by kernel_rfl) (rf_hasB K _) ?_)
    rintro _ w93 ⟨rfl, hf94⟩
    refine ⟨_, rfl, ?_⟩
    have hp95 := hp84.step hf94
    refine oP 1 [2, 3, 4, 6, 42] [pP g3, pP g6, .slice a12 ((partsB 32 line).length) c14, iI x80, .bool (kB K)] fun b96 => ?_
    by_cases h97 : kB K = true
    ·refine oP 0 [2, 3, 4, 6, 42] [pP g3, pP g6, .slice a12 ((partsB 32 line).length) c14, iI x80, .bool (kB K)] fun b98 => ?_
     refine OPS.re [pP g3, pP g6, .slice a12 ((partsB 32 line).length) c14, iI x80, bT] (by rw [show (kB K) = true from Bp.var.tt h97]) ?_
     refine oQ 5 { wraps := [47] } [] [2, 3, 4, 6, 47] [pP g3, pP g6, .slice a12 ((partsB 32 line).length) c14, iI x80, .bool (decide (x80 < (((partsB 32 line).length : Nat) : Int)))] .nil fun b99 => ?_
     refine OPS.nil (thn_n ?_)
     exact ⟨decide (x80 < (((partsB 32 line).length : Nat) : Int)), trivial, Bp.of Bp.dec (by first | (simp [h97]; done) | grind | (simp_all; done)), by kernel_rfl, hp95⟩
    ·refine oP 0 [2, 3, 4, 6, 42] [pP g3, pP g6, .slice a12 ((partsB 32 line).length) c14, iI x80, .bool (kB K)] fun b100 => ?_
     refine OPS.re [pP g3, pP g6, .slice a12 ((partsB 32 line).length) c14, iI x80, bF] (by rw [show (kB K) = false from Bp.var.ff h97]) ?_
     refine oQ 5 { wraps := [47] } [] [2, 3, 4, 6, 47] [pP g3, pP g6, .slice a12 ((partsB 32 line).length) c14, iI x80, bF] .nil fun b101 => ?_
     refine OPS.nil (thn_n ?_)
     exact ⟨false, trivial, Bp.of Bp.f (by first | (simp [h97]; done) | grind | (simp_all; done)), by kernel_rfl, hp95⟩
   rintro e104 w105 ⟨x102, hd107, hb103, hE108, hp106⟩
   obtain ⟨b109, rfl⟩ := toMk hE108
   clear hE108
   clear hd107
   refine WP.test (p := (kB K = true) ∧ (x80 < (((partsB 32 line).length : Nat) : Int))) rfl hb103 (fun h110 => ?_) (fun h110 => ?_)
   ·refine WP.seq (wR ?_)
    have hy114 : ((partsB 32 line))[(x80 : Int).toNat]? = some (partsB 32 line)[(x80 : Int).toNat]! := get_bang (by first | (omega) | (simp only [List.length_append, List.length_cons, List.length_nil]; omega) | (simp only [List.length_take, List.length_append, List.length_cons, List.length_nil]; omega))
    refine oQ 4 {} [.string ((partsB 32 line)[(x80 : Int).toNat]!)] [2, 3, 4, 6, 51] [pP g3, pP g6, .slice a12 ((partsB 32 line).length) c14, iI x80, .string ((partsB 32 line)[(x80 : Int).toNat]!)] (.cons (show InB (x80) ((partsB 32 line).length) from ⟨by omega, by omega⟩) (.cons ((SlR.own hp106.get0).some (by omega)) (.cons (Ld.add0 (Ld.el1 (P := Tryd.prog) (t := 9) (SlR.own hp106.get0).rd 1 (fun _ => rfl) hy114 (o := 0) (v := .string ((partsB 32 line)[(x80 : Int).toNat]!)) (by kernel_rfl))) .nil))) fun b115 => ?_
    refine OPS.cons (opStep.call (some 52) [.string ((partsB 32 line)[(x80 : Int).toNat]!)] (by kernel_rfl) (rf_number ((partsB 32 line)[(x80 : Int).toNat]!) (hwz _ (List.mem_of_getElem? (get_bang (by omega)))) _) ?_)
    rintro _ w118 ⟨rfl, hf119⟩
    refine ⟨_, rfl, ?_⟩
    have hp120 := hp106.step hf119
    refine oP 1 [2, 3, 4, 6, 52, 53] [pP g3, pP g6, .slice a12 ((partsB 32 line).length) c14, iI x80, iI (numI ((partsB 32 line)[(x80 : Int).toNat]!)), .pointer (some ⟨g6, 2, none⟩)] fun b121 => ?_
    refine OPS.cons (opStep.store1 hp120 rfl [iI (numI ((partsB 32 line)[(x80 : Int).toNat]!))] [iI K, iI x81, iI (numI ((partsB 32 line)[(x80 : Int).toNat]!)), .string ByteArray.empty, nS, nS] (by kernel_rfl) (fun w122 hp123 => ?_))
    refine OPS.nil (thn_n (wQ {} [] [2, 3, 4, 6] [pP g3, pP g6, .slice a12 ((partsB 32 line).length) c14, iI (x80 + 1)] (.cons (show Rng .i64 (x80 + 1) from Rng.i64 (by omega)) .nil) fun b124 => ?_))
    refine thn_n ?_
    exact ⟨x80 + 1, numI ((partsB 32 line)[(x80 : Int).toNat]!), Or.inl ⟨rfl, rfl, h110, trivial⟩, by kernel_rfl, hp123⟩
   ·refine WP.skip (thn_n ?_)
    exact ⟨x80, 0, Or.inr (⟨rfl, rfl, h110, trivial⟩), by kernel_rfl, hp106⟩
  rintro e127 w128 ⟨x125, x126, hd130, hE131, hp129⟩
  obtain ⟨b132, rfl⟩ := toMk hE131
  clear hE131
  refine WP.seq ?_
  refine WP.cut (fun e148 w149 => ∃ (x146 : Bool), (True) ∧ Bp x146 ((kK K = true) ∧ (x125 < (((partsB 32 line).length : Nat) : Int))) ∧ List.map e148 [2, 3, 4, 6, 64] = [pP g3, pP g6, .slice a12 ((partsB 32 line).length) c14, iI x125, .bool x146] ∧ Hp w Non [Res.own 9 1 (.slice a12 ((partsB 32 line).length) c14) ((partsB 32 line).length) (List.flatMap strc (partsB 32 line)), Res.row g6 (qd2 K x81 x126) 31, Res.row g3 qd0 31] w149) ?_ ?_
  ·refine wR (oQ 2 {} [iI K] [2, 3, 4, 6, 57] [pP g3, pP g6, .slice a12 ((partsB 32 line).length) c14, iI x125, iI K] (.cons (l1 3 0 (iI K) hp129.get1) .nil) fun b134 => ?_)
   refine OPS.cons (opStep.call (some 58) [iI K] (by kernel_rfl) (rf_hasKey K _) ?_)
   rintro _ w137 ⟨rfl, hf138⟩
   refine ⟨_, rfl, ?_⟩
   have hp139 := hp129.step hf138
   refine oP 1 [2, 3, 4, 6, 59] [pP g3, pP g6, .slice a12 ((partsB 32 line).length) c14, iI x125, .bool (kK K)] fun b140 => ?_
   by_cases h141 : kK K = true
   ·refine oP 0 [2, 3, 4, 6, 59] [pP g3, pP g6, .slice a12 ((partsB 32 line).length) c14, iI x125, .bool (kK K)] fun b142 => ?_
    refine OPS.re [pP g3, pP g6, .slice a12 ((partsB 32 line).length) c14, iI x125, bT] (by rw [show (kK K) = true from Bp.var.tt h141]) ?_
    refine oQ 5 { wraps := [64] } [] [2, 3, 4, 6, 64] [pP g3, pP g6, .slice a12 ((partsB 32 line).length) c14, iI x125, .bool (decide (x125 < (((partsB 32 line).length : Nat) : Int)))] .nil fun b143 => ?_
    refine OPS.nil (thn_n ?_)
    exact ⟨decide (x125 < (((partsB 32 line).length : Nat) : Int)), trivial, Bp.of Bp.dec (by first | (simp [h141]; done) | grind | (simp_all; done)), by kernel_rfl, hp139⟩
   ·refine oP 0 [2, 3, 4, 6, 59] [pP g3, pP g6, .slice a12 ((partsB 32 line).length) c14, iI x125, .bool (kK K)] fun b144 => ?_
    refine OPS.re [pP g3, pP g6, .slice a12 ((partsB 32 line).length) c14, iI x125, bF] (by rw [show (kK K) = false from Bp.var.ff h141]) ?_
    refine oQ 5 { wraps := [64] } [] [2, 3, 4, 6, 64] [pP g3, pP g6, .slice a12 ((partsB 32 line).length) c14, iI x125, bF] .nil fun b145 => ?_
    refine OPS.nil (thn_n ?_)
    exact ⟨false, trivial, Bp.of Bp.f (by first | (simp [h141]; done) | grind | (simp_all; done)), by kernel_rfl, hp139⟩
  rintro e148 w149 ⟨x146, hd151, hb147, hE152, hp150⟩
  obtain ⟨b153, rfl⟩ := toMk hE152
  clear hE152
  clear hd151
  refine WP.test (p := (kK K = true) ∧ (x125 < (((partsB 32 line).length : Nat) : Int))) rfl hb147 (fun h154 => ?_) (fun h154 => ?_)
  ·refine WP.seq (wR ?_)
   have hy158 : ((partsB 32 line))[(x125 : Int).toNat]? = some (partsB 32 line)[(x125 : Int).toNat]! := get_bang (by first | (omega) | (simp only [List.length_append, List.length_cons, List.length_nil]; omega) | (simp only [List.length_take, List.length_append, List.length_cons, List.length_nil]; omega))
   refine oQ 4 {} [.string ((partsB 32 line)[(x125 : Int).toNat]!)] [2, 3, 4, 6, 68] [pP g3, pP g6, .slice a12 ((partsB 32 line).length) c14, iI x125, .string ((partsB 32 line)[(x125 : Int).toNat]!)] (.cons (show InB (x125) ((partsB 32 line).length) from ⟨by omega, by omega⟩) (.cons ((SlR.own hp150.get0).some (by omega)) (.cons (Ld.add0 (Ld.el1 (P := Tryd.prog) (t := 9) (SlR.own hp150.get0).rd 1 (fun _ => rfl) hy158 (o := 0) (v := .string ((partsB 32 line)[(x125 : Int).toNat]!)) (by kernel_rfl))) .nil))) fun b159 => ?_
   refine OPS.cons (opStep.call (some 69) [.string ((partsB 32 line)[(x125 : Int).toNat]!)] (by kernel_rfl) (rf_bytes ((partsB 32 line)[(x125 : Int).toNat]!) (hwz2 _ (List.mem_of_getElem? (get_bang (by omega)))) _) ?_)
   rintro _ w162 ⟨a164, n165, c166, xs167, rfl, hx168, hx169, hx170, hp163⟩
   have hbn9 := own_flat (f := u8c) (sz := 1) (fun _ => rfl) (by decide) hp163.get0
   refine ⟨_, rfl, ?_⟩
   have hp171 := hp150.madeQ hp163
   simp only [List.cons_append, List.nil_append] at hp171
   refine oQ 2 {} [.string (strOf xs167)] [2, 3, 4, 6, 70, 71] [pP g3, pP g6, .slice a12 ((partsB 32 line).length) c14, iI x125, .string (strOf xs167), .pointer (some ⟨g6, 3, none⟩)] (.cons (show Bs Tryd.prog w162 (.slice a164 n165 c166) (.string (strOf xs167)) from Bs.of (SlR.own hp171.get0) (own_flat (sz := 1) (fun _ => rfl) (by decide) hp171.get0)) .nil) fun b173 => ?_
   refine OPS.cons (opStep.store2 hp171 rfl [.string (strOf xs167)] [iI K, iI x81, iI x126, .string (strOf xs167), nS, nS] (by kernel_rfl) (fun w174 hp175 => ?_))
   refine OPS.nil (thn_n (wQ {} [] [2, 3, 4, 6] [pP g3, pP g6, .slice a12 ((partsB 32 line).length) c14, iI (x125 + 1)] (.cons (show Rng .i64 (x125 + 1) from Rng.i64 (by omega)) .nil) fun b176 => ?_))
   refine thn_n (WP.seq ?_)
   refine WP.cut (fun e186 w187 => ∃ (x184 : Bool), (True) ∧ Bp x184 ((K = 1) ∧ ((x125 + 1) < (((partsB 32 line).length : Nat) : Int))) ∧ List.map e186 [2, 3, 4, 6, 82] = [pP g3, pP g6, .slice a12 ((partsB 32 line).length) c14, iI (x125 + 1), .bool x184] ∧ Hp w Non [Res.own 5 1 (.slice a164 n165 c166) n165 (List.flatMap u8c xs167), Res.own 9 1 (.slice a12 ((partsB 32 line).length) c14) ((partsB 32 line).length) (List.flatMap strc (partsB 32 line)), Res.row g6 [iI K, iI x81, iI x126, .string (strOf xs167), nS, nS] 31, Res.row g3 qd0 31] w187) ?_ ?_
   ·refine wR (oQ 4 {} [iI K] [2, 3, 4, 6, 77] [pP g3, pP g6, .slice a12 ((partsB 32 line).length) c14, iI (x125 + 1), .bool (decide (K = 1))] (.cons (l1 3 0 (iI K) hp175.get2) .nil) fun b178 => ?_)
    by_cases h179 : K = 1
    ·refine oP 0 [2, 3, 4, 6, 77] [pP g3, pP g6, .slice a12 ((partsB 32 line).length) c14, iI (x125 + 1), .bool (decide (K = 1))] fun b180 => ?_
     refine OPS.re [pP g3, pP g6, .slice a12 ((partsB 32 line).length) c14, iI (x125 + 1), bT] (by rw [show (decide (K = 1)) = true from Bp.dec.tt h179]) ?_
     refine oQ 5 { wraps := [82] } [] [2, 3, 4, 6, 82] [pP g3, pP g6, .slice a12 ((partsB 32 line).length) c14, iI (x125 + 1), .bool (decide ((x125 + 1) < (((partsB 32 line).length : Nat) : Int)))] .nil fun b181 => ?_
     refine OPS.nil (thn_n ?_)
     exact ⟨decide ((x125 + 1) < (((partsB 32 line).length : Nat) : Int)), trivial, Bp.of Bp.dec (by first | (simp [h179]; done) | grind | (simp_all; done)), by kernel_rfl, hp175⟩
    ·refine oP 0 [2, 3, 4, 6, 77] [pP g3, pP g6, .slice a12 ((partsB 32 line).length) c14, iI (x125 + 1), .bool (decide (K = 1))] fun b182 => ?_
     refine OPS.re [pP g3, pP g6, .slice a12 ((partsB 32 line).length) c14, iI (x125 + 1), bF] (by rw [show (decide (K = 1)) = false from Bp.dec.ff h179]) ?_
     refine oQ 5 { wraps := [82] } [] [2, 3, 4, 6, 82] [pP g3, pP g6, .slice a12 ((partsB 32 line).length) c14, iI (x125 + 1), bF] .nil fun b183 => ?_
     refine OPS.nil (thn_n ?_)
     exact ⟨false, trivial, Bp.of Bp.f (by first | (simp [h179]; done) | grind | (simp_all; done)), by kernel_rfl, hp175⟩
   rintro e186 w187 ⟨x184, hd189, hb185, hE190, hp188⟩
   obtain ⟨b191, rfl⟩ := toMk hE190
   clear hE190
   clear hd189
   refine WP.test (p := (K = 1) ∧ ((x125 + 1) < (((partsB 32 line).length : Nat) : Int))) rfl hb185 (fun h192 => ?_) (fun h192 => ?_)
   ·refine WP.seq (wR ?_)
    have hy196 : ((partsB 32 line))[(x125 + 1 : Int).toNat]? = some (partsB 32 line)[(x125 + 1 : Int).toNat]! := get_bang (by first | (omega) | (simp only [List.length_append, List.length_cons, List.length_nil]; omega) | (simp only [List.length_take, List.length_append, List.length_cons, List.length_nil]; omega))
    refine oQ 4 {} [.string ((partsB 32 line)[(x125 + 1 : Int).toNat]!)] [2, 3, 4, 6, 86] [pP g3, pP g6, .slice a12 ((partsB 32 line).length) c14, iI (x125 + 1), .string ((partsB 32 line)[(x125 + 1 : Int).toNat]!)] (.cons (show InB (x125 + 1) ((partsB 32 line).length) from ⟨by omega, by omega⟩) (.cons ((SlR.own hp188.get1).some (by omega)) (.cons (Ld.add0 (Ld.el1 (P := Tryd.prog) (t := 9) (SlR.own hp188.get1).rd 1 (fun _ => rfl) hy196 (o := 0) (v := .string ((partsB 32 line)[(x125 + 1 : Int).toNat]!)) (by kernel_rfl))) .nil))) fun b197 => ?_
    refine OPS.cons (opStep.call (some 87) [.string ((partsB 32 line)[(x125 + 1 : Int).toNat]!)] (by kernel_rfl) (rf_bytes ((partsB 32 line)[(x125 + 1 : Int).toNat]!) (hwz2 _ (List.mem_of_getElem? (get_bang (by omega)))) _) ?_)
    rintro _ w200 ⟨a202, n203, c204, xs205, rfl, hx206, hx207, hx208, hp201⟩
    have hbn9 := own_flat (f := u8c) (sz := 1) (fun _ => rfl) (by decide) hp201.get0
    refine ⟨_, rfl, ?_⟩
    have hp209 := hp188.madeQ hp201
    simp only [List.cons_append, List.nil_append] at hp209
    refine oP 1 [2, 3, 4, 6, 87, 88] [pP g3, pP g6, .slice a12 ((partsB 32 line).length) c14, iI (x125 + 1), .slice a202 n203 c204, .pointer (some ⟨g6, 4, none⟩)] fun b211 => ?_
    refine OPS.cons (opStep.store3 hp209 rfl [.slice a202 n203 c204] [iI K, iI x81, iI x126, .string (strOf xs167), .slice a202 n203 c204, nS] (by kernel_rfl) (fun w212 hp213 => ?_))
    refine OPS.nil (thn_n (wQ {} [] [2, 3, 4, 6] [pP g3, pP g6, .slice a12 ((partsB 32 line).length) c14, iI ((x125 + 1) + 1)] (.cons (show Rng .i64 ((x125 + 1) + 1) from Rng.i64 (by omega)) .nil) fun b214 => ?_))
    refine thn_n (WP.seq (WP.block ?_))
    have hp215 := (show Hp w Non [Res.own 3 1 (nS) 0 (List.flatMap i64c ([] : List Int)), Res.own 5 1 (.slice a202 n203 c204) n203 (List.flatMap u8c xs205), Res.own 5 1 (.slice a164 n165 c166) n165 (List.flatMap u8c xs167), Res.own 9 1 (.slice a12 ((partsB 32 line).length) c14) ((partsB 32 line).length) (List.flatMap strc (partsB 32 line)), Res.row g6 [iI K, iI x81, iI x126, .string (strOf xs167), .slice a202 n203 c204, nS] 31, Res.row g3 qd0 31] w212 from hp213.nilOwn 3 1)
    refine WP.loop (fun mz_ e216 w217 => ∃ (m : Int) (xs : List Int) (ao : Option Addr) (no : Nat) (co : Nat), mz_ = ((partsB 32 line).length - m.toNat) ∧ (LoL (partsB 32 line) K ((x125 + 1) + 1) m xs ∧ True) ∧ List.map e216 [2, 3, 4, 6] = [pP g3, pP g6, .slice a12 ((partsB 32 line).length) c14, iI m] ∧ Hp w Non [Res.own 3 1 (.slice ao no co) no (List.flatMap i64c xs), Res.own 5 1 (.slice a202 n203 c204) n203 (List.flatMap u8c xs205), Res.own 5 1 (.slice a164 n165 c166) n165 (List.flatMap u8c xs167), Res.own 9 1 (.slice a12 ((partsB 32 line).length) c14) ((partsB 32 line).length) (List.flatMap strc (partsB 32 line)), Res.row g6 [iI K, iI x81, iI x126, .string (strOf xs167), .slice a202 n203 c204, .slice ao no co] 31, Res.row g3 qd0 31] w217) (((partsB 32 line).length - ((x125 + 1) + 1).toNat)) ⟨(x125 + 1) + 1, [], none, 0, 0, rfl, ⟨LoL.start _ _ (by omega), trivial⟩, by kernel_rfl, hp215⟩ ?_
    rintro _ e216 w217 ⟨m, xs, ao, no, co, rfl, hI219, hE220, hp218⟩
    obtain ⟨b221, rfl⟩ := toMk hE220
    clear hE220
    obtain ⟨pl, _⟩ := hI219
    have pl1 := pl.1
    have pl2 := pl.2.1
    have pe := own_flat (f := i64c) (sz := 1) (fun _ => rfl) (by decide) hp218.get0
    have pl3 := pl.len
    refine WP.seq ?_
    refine WP.cut (fun e237 w238 => ∃ (x235 : Bool), (True) ∧ Bp x235 ((m < (((partsB 32 line).length : Nat) : Int)) ∧ (kL K = true)) ∧ List.map e237 [2, 3, 4, 6, 99] = [pP g3, pP g6, .slice a12 ((partsB 32 line).length) c14, iI m, .bool x235] ∧ Hp w Non [Res.own 3 1 (.slice ao no co) no (List.flatMap i64c xs), Res.own 5 1 (.slice a202 n203 c204) n203 (List.flatMap u8c xs205), Res.own 5 1 (.slice a164 n165 c166) n165 (List.flatMap u8c xs167), Res.own 9 1 (.slice a12 ((partsB 32 line).length) c14) ((partsB 32 line).length) (List.flatMap strc (partsB 32 line)), Res.row g6 [iI K, iI x81, iI x126, .string (strOf xs167), .slice a202 n203 c204, .slice ao no co] 31, Res.row g3 qd0 31] w238) ?_ ?_
    ·refine wR (oP 5 [2, 3, 4, 6, 95] [pP g3, pP g6, .slice a12 ((partsB 32 line).length) c14, iI m, .bool (decide (m < (((partsB 32 line).length : Nat) : Int)))] fun b223 => ?_)
     by_cases h224 : m < (((partsB 32 line).length : Nat) : Int)
     ·refine oP 0 [2, 3, 4, 6, 95] [pP g3, pP g6, .slice a12 ((partsB 32 line).length) c14, iI m, .bool (decide (m < (((partsB 32 line).length : Nat) : Int)))] fun b225 => ?_
      refine OPS.re [pP g3, pP g6, .slice a12 ((partsB 32 line).length) c14, iI m, bT] (by rw [show (decide (m < (((partsB 32 line).length : Nat) : Int))) = true from Bp.dec.tt h224]) ?_
      refine oQ 2 {} [iI K] [2, 3, 4, 6, 95, 97] [pP g3, pP g6, .slice a12 ((partsB 32 line).length) c14, iI m, bT, iI K] (.cons (l1 3 0 (iI K) hp218.get4) .nil) fun b226 => ?_
      refine OPS.want (by kernel_rfl) ?_
      refine OPS.cons (opStep.call (some 98) [iI K] (by kernel_rfl) (rf_hasList K _) ?_)
      rintro _ w229 ⟨rfl, hf230⟩
      refine ⟨_, rfl, ?_⟩
      have hp231 := hp218.step hf230
      refine oQ 1 { wraps := [99] } [] [2, 3, 4, 6, 99] [pP g3, pP g6, .slice a12 ((partsB 32 line).length) c14, iI m, .bool (kL K)] .nil fun b232 => ?_
      refine OPS.nil (thn_n ?_)
      exact ⟨(kL K), trivial, Bp.of Bp.var (by first | (simp [h224]; done) | grind | (simp_all; done)), by kernel_rfl, hp231⟩
     ·refine oP 0 [2, 3, 4, 6, 95] [pP g3, pP g6, .slice a12 ((partsB 32 line).length) c14, iI m, .bool (decide (m < (((partsB 32 line).length : Nat) : Int)))] fun b233 => ?_
      refine OPS.re [pP g3, pP g6, .slice a12 ((partsB 32 line).length) c14, iI m, bF] (by rw [show (decide (m < (((partsB 32 line).length : Nat) : Int))) = false from Bp.dec.ff h224]) ?_
      refine oQ 4 { wraps := [99] } [] [2, 3, 4, 6, 99] [pP g3, pP g6, .slice a12 ((partsB 32 line).length) c14, iI m, bF] .nil fun b234 => ?_
      refine OPS.nil (thn_n ?_)
      exact ⟨false, trivial, Bp.of Bp.f (by first | (simp [h224]; done) | grind | (simp_all; done)), by kernel_rfl, hp218⟩
    rintro e237 w238 ⟨x235, hd240, hb236, hE241, hp239⟩
    obtain ⟨b242, rfl⟩ := toMk hE241
    clear hE241
    clear hd240
    refine WP.test (p := (m < (((partsB 32 line).length : Nat) : Int)) ∧ (kL K = true)) rfl hb236 (fun h243 => ?_) (fun h243 => ?_)
    ·refine WP.skip (thn_n (WP.block (WP.seq ?_)))
     have hp244 := hp239.drew
     have hy246 : ((partsB 32 line))[(m : Int).toNat]? = some (partsB 32 line)[(m : Int).toNat]! := get_bang (by first | (omega) | (simp only [List.length_append, List.length_cons, List.length_nil]; omega) | (simp only [List.length_take, List.length_append, List.length_cons, List.length_nil]; omega))
     refine WP.held (fun w247 => Ld Tryd.prog w247 29 ⟨g6, 5, none⟩ (.slice ao no co) ∧ Ld Tryd.prog w247 9 ((adr a12).add ((m : Int).toNat * 1)) (.string ((partsB 32 line)[(m : Int).toNat]!)) ∧ True) [10] [(0, true), (1, true), (2, true), (3, true), (4, true), (5, true), (6, false), (7, false), (8, false), (9, true), (10, false)] (np_thn (np_blk (np_thn (np_blk (np_thn np_body))))) (by kernel_rfl) ?_
     refine hQ 6 {} [.slice ao no co, .string ((partsB 32 line)[(m : Int).toNat]!)] [2, 3, 4, 6, 101, 105] [pP g3, pP g6, .slice a12 ((partsB 32 line).length) c14, iI m, .slice ao no co, .string ((partsB 32 line)[(m : Int).toNat]!)] ⟨(l1 29 5 (.slice ao no co) hp244.get4), (show Ld Tryd.prog w238.drew 9 ((adr a12).add ((m : Int).toNat * 1)) (.string ((partsB 32 line)[(m : Int).toNat]!)) from (Ld.add0 (Ld.el1 (P := Tryd.prog) (t := 9) (SlR.own hp244.get3).rd 1 (fun _ => rfl) hy246 (o := 0) (v := .string ((partsB 32 line)[(m : Int).toNat]!)) (by kernel_rfl)))), trivial⟩ (fun w248 hS249 => (.cons (hS249.1) (.cons (show InB (m) ((partsB 32 line).length) from ⟨by omega, by omega⟩) (.cons ((SlR.own hp244.get3).some (by omega)) (.cons (hS249.2.1) .nil))))) fun b250 => ?_
     refine HOPS.eff _ rfl (opStep.call (some 106) [.string ((partsB 32 line)[(m : Int).toNat]!)] (by kernel_rfl) (rf_number ((partsB 32 line)[(m : Int).toNat]!) (hwz _ (List.mem_of_getElem? (get_bang (by omega)))) _) ?_)
     rintro _ w253 ⟨rfl, hf254⟩
     refine ⟨_, rfl, ?_⟩
     have hp255 := hp244.step hf254
     refine ⟨.inr ⟨(l1 29 5 (.slice ao no co) hp255.get4), (show Ld Tryd.prog w253 9 ((adr a12).add ((m : Int).toNat * 1)) (.string ((partsB 32 line)[(m : Int).toNat]!)) from (Ld.add0 (Ld.el1 (P := Tryd.prog) (t := 9) (SlR.own hp255.get3).rd 1 (fun _ => rfl) hy246 (o := 0) (v := .string ((partsB 32 line)[(m : Int).toNat]!)) (by kernel_rfl)))), trivial⟩, ?_⟩
     refine HOPS.eff _ rfl (opStep.buildSlice (E := 3) hp255 [iI (numI ((partsB 32 line)[(m : Int).toNat]!))] (by kernel_rfl) (fun g258 w256 hp257 => ?_))
     refine ⟨.inr ⟨(l1 29 5 (.slice ao no co) hp257.get5), (show Ld Tryd.prog w256 9 ((adr a12).add ((m : Int).toNat * 1)) (.string ((partsB 32 line)[(m : Int).toNat]!)) from (Ld.add0 (Ld.el1 (P := Tryd.prog) (t := 9) (SlR.own hp257.get4).rd 1 (fun _ => rfl) hy246 (o := 0) (v := .string ((partsB 32 line)[(m : Int).toNat]!)) (by kernel_rfl)))), trivial⟩, ?_⟩
     refine HOPS.eff _ rfl (opStep.append1 [iI (numI ((partsB 32 line)[(m : Int).toNat]!))] hp257 8 (by kernel_rfl) rfl rfl rfl (SlR.row (n := 1) hp257.get0 rfl).rd (List.all_eq_true.1 (by kernel_rfl)) (by decide) (by omega) (by omega) (fun a261 c262 w263 hp264 hn265 => ?_))
     rw [(show List.flatMap i64c xs ++ [iI (numI ((partsB 32 line)[(m : Int).toNat]!))] = List.flatMap i64c (xs ++ [numI ((partsB 32 line)[(m : Int).toNat]!)]) from (List.flatMap_append (xs := xs) (ys := [numI ((partsB 32 line)[(m : Int).toNat]!)])).symm)] at hp264
     refine ⟨.inr ⟨(l1 29 5 (.slice ao no co) hp264.get5), (show Ld Tryd.prog w263 9 ((adr a12).add ((m : Int).toNat * 1)) (.string ((partsB 32 line)[(m : Int).toNat]!)) from (Ld.add0 (Ld.el1 (P := Tryd.prog) (t := 9) (SlR.own hp264.get4).rd 1 (fun _ => rfl) hy246 (o := 0) (v := .string ((partsB 32 line)[(m : Int).toNat]!)) (by kernel_rfl)))), trivial⟩, ?_⟩
     refine hP 1 [2, 3, 4, 6, 108, 109] [pP g3, pP g6, .slice a12 ((partsB 32 line).length) c14, iI m, .slice a261 (no + 1) c262, .pointer (some ⟨g6, 5, none⟩)] ⟨(l1 29 5 (.slice ao no co) hp264.get5), (show Ld Tryd.prog w263 9 ((adr a12).add ((m : Int).toNat * 1)) (.string ((partsB 32 line)[(m : Int).toNat]!)) from (Ld.add0 (Ld.el1 (P := Tryd.prog) (t := 9) (SlR.own hp264.get4).rd 1 (fun _ => rfl) hy246 (o := 0) (v := .string ((partsB 32 line)[(m : Int).toNat]!)) (by kernel_rfl)))), trivial⟩ fun b268 => ?_
     refine HOPS.eff _ rfl (opStep.store5 hp264 rfl [.slice a261 (no + 1) c262] [iI K, iI x81, iI x126, .string (strOf xs167), .slice a202 n203 c204, .slice a261 (no + 1) c262] (by kernel_rfl) (fun w269 hp270 => ?_))
     refine ⟨.inl rfl, ?_⟩
     refine HOPS.nil (thn_n (wQ {} [] [2, 3, 4, 6] [pP g3, pP g6, .slice a12 ((partsB 32 line).length) c14, iI (m + 1)] (.cons (show Rng .i64 (m + 1) from Rng.i64 (by omega)) .nil) fun b271 => ?_))
     refine blk_n (thn_n ?_)
     exact ⟨((partsB 32 line).length - (m + 1).toNat), (by omega), m + 1, xs ++ [numI ((partsB 32 line)[(m : Int).toNat]!)], a261, no + 1, c262, rfl, ⟨pl.step (by omega) (h243).2, trivial⟩, by kernel_rfl, (hp270.sub (.cons _ (.cons_cons _ (.cons_cons _ (.cons_cons _ (.cons_cons _ (.cons_cons _ (.cons_cons _ (.slnil)))))))))⟩
    ·refine WP.exit (thn_x (thn_x (blk_hit (thn_n (WP.seq (wR (oQ 1 {} [.agg #[iI K, iI x81, iI x126, .string (strOf xs167), .slice a202 n203 c204, .slice ao no co]] [2, 112] [pP g3, .agg #[iI K, iI x81, iI x126, .string (strOf xs167), .slice a202 n203 c204, .slice ao no co]] (.cons (lN 31 0 [iI K, iI x81, iI x126, .string (strOf xs167), .slice a202 n203 c204, .slice ao no co] hp239.get4) .nil) fun b272 => ?_)))))))
     refine OPS.cons (opStep.store5 hp239 rfl [iI K, iI x81, iI x126, .string (strOf xs167), .slice a202 n203 c204, .slice ao no co] [iI K, iI x81, iI x126, .string (strOf xs167), .slice a202 n203 c204, .slice ao no co] (by kernel_rfl) (fun w273 hp274 => ?_))
     refine OPS.nil (thn_n (WP.ret ?_))
     refine bodyQ.of _ rfl [.agg #[iI K, iI x81, iI x126, .string (strOf xs167), .slice a202 n203 c204, .slice ao no co]] ⟨⟨_, rfl, (lN 31 0 [iI K, iI x81, iI x126, .string (strOf xs167), .slice a202 n203 c204, .slice ao no co] hp274.get5)⟩, trivial⟩ ?_
     obtain rfl : k = 17 := by omega
     have h_ := (hp274.sub (.cons_cons _ (.cons_cons _ (.cons _ (.cons _ (.cons _ (.cons _ (.slnil))))))))
     rw [show List.flatMap u8c xs205 = List.flatMap u8c (bytesI (strOf xs205)) from by rw [bytesI_of hx207]] at h_
     have h2_ := h_.pull1
     exact ⟨(⟨K, x81, x126, (strOf xs167), ⟨a202, n203, c204⟩, ⟨ao, no, co⟩⟩ : GStep), (⟨K, x81, x126, (strOf xs167), strOf xs205, xs⟩ : StepP), _, rfl, loo_fin pk hd85 hd130 (.inl ⟨h154, hx170, rfl⟩) (.inl ⟨h192, hx208, rfl⟩) pl h243 (by rw [strOf_len]; exact Nat.le_trans hx168 (hwl _ (List.mem_of_getElem? (get_bang (by omega))))) (by rw [strOf_len]; exact Nat.le_trans hx206 (hwl _ (List.mem_of_getElem? (get_bang (by omega))))), Hp.svMakeO (⟨K, x81, x126, (strOf xs167), ⟨a202, n203, c204⟩, ⟨ao, no, co⟩⟩ : GStep) (⟨K, x81, x126, (strOf xs167), strOf xs205, xs⟩ : StepP) rfl rfl rfl rfl h2_⟩
   ·refine WP.skip (thn_n (WP.seq (WP.block ?_)))
    have hp275 := (show Hp w Non [Res.own 3 1 (nS) 0 (List.flatMap i64c ([] : List Int)), Res.own 5 1 (.slice a164 n165 c166) n165 (List.flatMap u8c xs167), Res.own 9 1 (.slice a12 ((partsB 32 line).length) c14) ((partsB 32 line).length) (List.flatMap strc (partsB 32 line)), Res.row g6 [iI K, iI x81, iI x126, .string (strOf xs167), nS, nS] 31, Res.row g3 qd0 31] w187 from hp188.nilOwn 3 1)
    refine WP.loop (fun mz_ e276 w277 => ∃ (m : Int) (xs : List Int) (ao : Option Addr) (no : Nat) (co : Nat), mz_ = ((partsB 32 line).length - m.toNat) ∧ (LoL (partsB 32 line) K (x125 + 1) m xs ∧ True) ∧ List.map e276 [2, 3, 4, 6] = [pP g3, pP g6, .slice a12 ((partsB 32 line).length) c14, iI m] ∧ Hp w Non [Res.own 3 1 (.slice ao no co) no (List.flatMap i64c xs), Res.own 5 1 (.slice a164 n165 c166) n165 (List.flatMap u8c xs167), Res.own 9 1 (.slice a12 ((partsB 32 line).length) c14) ((partsB 32 line).length) (List.flatMap strc (partsB 32 line)), Res.row g6 [iI K, iI x81, iI x126, .string (strOf xs167), nS, .slice ao no co] 31, Res.row g3 qd0 31] w277) (((partsB 32 line).length - (x125 + 1).toNat)) ⟨x125 + 1, [], none, 0, 0, rfl, ⟨LoL.start _ _ (by omega), trivial⟩, by kernel_rfl, hp275⟩ ?_
    rintro _ e276 w277 ⟨m, xs, ao, no, co, rfl, hI279, hE280, hp278⟩
    obtain ⟨b281, rfl⟩ := toMk hE280
    clear hE280
    obtain ⟨pl, _⟩ := hI279
    have pl1 := pl.1
    have pl2 := pl.2.1
    have pe := own_flat (f := i64c) (sz := 1) (fun _ => rfl) (by decide) hp278.get0
    have pl3 := pl.len
    refine WP.seq ?_
    refine WP.cut (fun e297 w298 => ∃ (x295 : Bool), (True) ∧ Bp x295 ((m < (((partsB 32 line).length : Nat) : Int)) ∧ (kL K = true)) ∧ List.map e297 [2, 3, 4, 6, 99] = [pP g3, pP g6, .slice a12 ((partsB 32 line).length) c14, iI m, .bool x295] ∧ Hp w Non [Res.own 3 1 (.slice ao no co) no (List.flatMap i64c xs), Res.own 5 1 (.slice a164 n165 c166) n165 (List.flatMap u8c xs167), Res.own 9 1 (.slice a12 ((partsB 32 line).length) c14) ((partsB 32 line).length) (List.flatMap strc (partsB 32 line)), Res.row g6 [iI K, iI x81, iI x126, .string (strOf xs167), nS, .slice ao no co] 31, Res.row g3 qd0 31] w298) ?_ ?_
    ·refine wR (oP 5 [2, 3, 4, 6, 95] [pP g3, pP g6, .slice a12 ((partsB 32 line).length) c14, iI m, .bool (decide (m < (((partsB 32 line).length : Nat) : Int)))] fun b283 => ?_)
     by_cases h284 : m < (((partsB 32 line).length : Nat) : Int)
     ·refine oP 0 [2, 3, 4, 6, 95] [pP g3, pP g6, .slice a12 ((partsB 32 line).length) c14, iI m, .bool (decide (m < (((partsB 32 line).length : Nat) : Int)))] fun b285 => ?_
      refine OPS.re [pP g3, pP g6, .slice a12 ((partsB 32 line).length) c14, iI m, bT] (by rw [show (decide (m < (((partsB 32 line).length : Nat) : Int))) = true from Bp.dec.tt h284]) ?_
      refine oQ 2 {} [iI K] [2, 3, 4, 6, 95, 97] [pP g3, pP g6, .slice a12 ((partsB 32 line).length) c14, iI m, bT, iI K] (.cons (l1 3 0 (iI K) hp278.get3) .nil) fun b286 => ?_
      refine OPS.want (by kernel_rfl) ?_
      refine OPS.cons (opStep.call (some 98) [iI K] (by kernel_rfl) (rf_hasList K _) ?_)
      rintro _ w289 ⟨rfl, hf290⟩
      refine ⟨_, rfl, ?_⟩
      have hp291 := hp278.step hf290
      refine oQ 1 { wraps := [99] } [] [2, 3, 4, 6, 99] [pP g3, pP g6, .slice a12 ((partsB 32 line).length) c14, iI m, .bool (kL K)] .nil fun b292 => ?_
      refine OPS.nil (thn_n ?_)
      exact ⟨(kL K), trivial, Bp.of Bp.var (by first | (simp [h284]; done) | grind | (simp_all; done)), by kernel_rfl, hp291⟩
     ·refine oP 0 [2, 3, 4, 6, 95] [pP g3, pP g6, .slice a12 ((partsB 32 line).length) c14, iI m, .bool (decide (m < (((partsB 32 line).length : Nat) : Int)))] fun b293 => ?_
      refine OPS.re [pP g3, pP g6, .slice a12 ((partsB 32 line).length) c14, iI m, bF] (by rw [show (decide (m < (((partsB 32 line).length : Nat) : Int))) = false from Bp.dec.ff h284]) ?_
      refine oQ 4 { wraps := [99] } [] [2, 3, 4, 6, 99] [pP g3, pP g6, .slice a12 ((partsB 32 line).length) c14, iI m, bF] .nil fun b294 => ?_
      refine OPS.nil (thn_n ?_)
      exact ⟨false, trivial, Bp.of Bp.f (by first | (simp [h284]; done) | grind | (simp_all; done)), by kernel_rfl, hp278⟩
    rintro e297 w298 ⟨x295, hd300, hb296, hE301, hp299⟩
    obtain ⟨b302, rfl⟩ := toMk hE301
    clear hE301
    clear hd300
    refine WP.test (p := (m < (((partsB 32 line).length : Nat) : Int)) ∧ (kL K = true)) rfl hb296 (fun h303 => ?_) (fun h303 => ?_)
    ·refine WP.skip (thn_n (WP.block (WP.seq ?_)))
     have hp304 := hp299.drew
     have hy306 : ((partsB 32 line))[(m : Int).toNat]? = some (partsB 32 line)[(m : Int).toNat]! := get_bang (by first | (omega) | (simp only [List.length_append, List.length_cons, List.length_nil]; omega) | (simp only [List.length_take, List.length_append, List.length_cons, List.length_nil]; omega))
     refine WP.held (fun w307 => Ld Tryd.prog w307 29 ⟨g6, 5, none⟩ (.slice ao no co) ∧ Ld Tryd.prog w307 9 ((adr a12).add ((m : Int).toNat * 1)) (.string ((partsB 32 line)[(m : Int).toNat]!)) ∧ True) [10] [(0, true), (1, true), (2, true), (3, true), (4, true), (5, true), (6, false), (7, false), (8, false), (9, true), (10, false)] (np_thn (np_blk (np_thn (np_blk (np_thn np_body))))) (by kernel_rfl) ?_
     refine hQ 6 {} [.slice ao no co, .string ((partsB 32 line)[(m : Int).toNat]!)] [2, 3, 4, 6, 101, 105] [pP g3, pP g6, .slice a12 ((partsB 32 line).length) c14, iI m, .slice ao no co, .string ((partsB 32 line)[(m : Int).toNat]!)] ⟨(l1 29 5 (.slice ao no co) hp304.get3), (show Ld Tryd.prog w298.drew 9 ((adr a12).add ((m : Int).toNat * 1)) (.string ((partsB 32 line)[(m : Int).toNat]!)) from (Ld.add0 (Ld.el1 (P := Tryd.prog) (t := 9) (SlR.own hp304.get2).rd 1 (fun _ => rfl) hy306 (o := 0) (v := .string ((partsB 32 line)[(m : Int).toNat]!)) (by kernel_rfl)))), trivial⟩ (fun w308 hS309 => (.cons (hS309.1) (.cons (show InB (m) ((partsB 32 line).length) from ⟨by omega, by omega⟩) (.cons ((SlR.own hp304.get2).some (by omega)) (.cons (hS309.2.1) .nil))))) fun b310 => ?_
     refine HOPS.eff _ rfl (opStep.call (some 106) [.string ((partsB 32 line)[(m : Int).toNat]!)] (by kernel_rfl) (rf_number ((partsB 32 line)[(m : Int).toNat]!) (hwz _ (List.mem_of_getElem? (get_bang (by omega)))) _) ?_)
     rintro _ w313 ⟨rfl, hf314⟩
     refine ⟨_, rfl, ?_⟩
     have hp315 := hp304.step hf314
     refine ⟨.inr ⟨(l1 29 5 (.slice ao no co) hp315.get3), (show Ld Tryd.prog w313 9 ((adr a12).add ((m : Int).toNat * 1)) (.string ((partsB 32 line)[(m : Int).toNat]!)) from (Ld.add0 (Ld.el1 (P := Tryd.prog) (t := 9) (SlR.own hp315.get2).rd 1 (fun _ => rfl) hy306 (o := 0) (v := .string ((partsB 32 line)[(m : Int).toNat]!)) (by kernel_rfl)))), trivial⟩, ?_⟩
     refine HOPS.eff _ rfl (opStep.buildSlice (E := 3) hp315 [iI (numI ((partsB 32 line)[(m : Int).toNat]!))] (by kernel_rfl) (fun g318 w316 hp317 => ?_))
     refine ⟨.inr ⟨(l1 29 5 (.slice ao no co) hp317.get4), (show Ld Tryd.prog w316 9 ((adr a12).add ((m : Int).toNat * 1)) (.string ((partsB 32 line)[(m : Int).toNat]!)) from (Ld.add0 (Ld.el1 (P := Tryd.prog) (t := 9) (SlR.own hp317.get3).rd 1 (fun _ => rfl) hy306 (o := 0) (v := .string ((partsB 32 line)[(m : Int).toNat]!)) (by kernel_rfl)))), trivial⟩, ?_⟩
     refine HOPS.eff _ rfl (opStep.append1 [iI (numI ((partsB 32 line)[(m : Int).toNat]!))] hp317 8 (by kernel_rfl) rfl rfl rfl (SlR.row (n := 1) hp317.get0 rfl).rd (List.all_eq_true.1 (by kernel_rfl)) (by decide) (by omega) (by omega) (fun a321 c322 w323 hp324 hn325 => ?_))
     rw [(show List.flatMap i64c xs ++ [iI (numI ((partsB 32 line)[(m : Int).toNat]!))] = List.flatMap i64c (xs ++ [numI ((partsB 32 line)[(m : Int).toNat]!)]) from (List.flatMap_append (xs := xs) (ys := [numI ((partsB 32 line)[(m : Int).toNat]!)])).symm)] at hp324
     refine ⟨.inr ⟨(l1 29 5 (.slice ao no co) hp324.get4), (show Ld Tryd.prog w323 9 ((adr a12).add ((m : Int).toNat * 1)) (.string ((partsB 32 line)[(m : Int).toNat]!)) from (Ld.add0 (Ld.el1 (P := Tryd.prog) (t := 9) (SlR.own hp324.get3).rd 1 (fun _ => rfl) hy306 (o := 0) (v := .string ((partsB 32 line)[(m : Int).toNat]!)) (by kernel_rfl)))), trivial⟩, ?_⟩
     refine hP 1 [2, 3, 4, 6, 108, 109] [pP g3, pP g6, .slice a12 ((partsB 32 line).length) c14, iI m, .slice a321 (no + 1) c322, .pointer (some ⟨g6, 5, none⟩)] ⟨(l1 29 5 (.slice ao no co) hp324.get4), (show Ld Tryd.prog w323 9 ((adr a12).add ((m : Int).toNat * 1)) (.string ((partsB 32 line)[(m : Int).toNat]!)) from (Ld.add0 (Ld.el1 (P := Tryd.prog) (t := 9) (SlR.own hp324.get3).rd 1 (fun _ => rfl) hy306 (o := 0) (v := .string ((partsB 32 line)[(m : Int).toNat]!)) (by kernel_rfl)))), trivial⟩ fun b328 => ?_
     refine HOPS.eff _ rfl (opStep.store4 hp324 rfl [.slice a321 (no + 1) c322] [iI K, iI x81, iI x126, .string (strOf xs167), nS, .slice a321 (no + 1) c322] (by kernel_rfl) (fun w329 hp330 => ?_))
     refine ⟨.inl rfl, ?_⟩
     refine HOPS.nil (thn_n (wQ {} [] [2, 3, 4, 6] [pP g3, pP g6, .slice a12 ((partsB 32 line).length) c14, iI (m + 1)] (.cons (show Rng .i64 (m + 1) from Rng.i64 (by omega)) .nil) fun b331 => ?_))
     refine blk_n (thn_n ?_)
     exact ⟨((partsB 32 line).length - (m + 1).toNat), (by omega), m + 1, xs ++ [numI ((partsB 32 line)[(m : Int).toNat]!)], a321, no + 1, c322, rfl, ⟨pl.step (by omega) (h303).2, trivial⟩, by kernel_rfl, (hp330.sub (.cons _ (.cons_cons _ (.cons_cons _ (.cons_cons _ (.cons_cons _ (.cons_cons _ (.slnil))))))))⟩
    ·refine WP.exit (thn_x (thn_x (blk_hit (thn_n (WP.seq (wR (oQ 1 {} [.agg #[iI K, iI x81, iI x126, .string (strOf xs167), nS, .slice ao no co]] [2, 112] [pP g3, .agg #[iI K, iI x81, iI x126, .string (strOf xs167), nS, .slice ao no co]] (.cons (lN 31 0 [iI K, iI x81, iI x126, .string (strOf xs167), nS, .slice ao no co] hp299.get3) .nil) fun b332 => ?_)))))))
     refine OPS.cons (opStep.store4 hp299 rfl [iI K, iI x81, iI x126, .string (strOf xs167), nS, .slice ao no co] [iI K, iI x81, iI x126, .string (strOf xs167), nS, .slice ao no co] (by kernel_rfl) (fun w333 hp334 => ?_))
     refine OPS.nil (thn_n (WP.ret ?_))
     refine bodyQ.of _ rfl [.agg #[iI K, iI x81, iI x126, .string (strOf xs167), nS, .slice ao no co]] ⟨⟨_, rfl, (lN 31 0 [iI K, iI x81, iI x126, .string (strOf xs167), nS, .slice ao no co] hp334.get4)⟩, trivial⟩ ?_
     obtain rfl : k = 17 := by omega
     exact ⟨(⟨K, x81, x126, (strOf xs167), ⟨none, 0, 0⟩, ⟨ao, no, co⟩⟩ : GStep), (⟨K, x81, x126, (strOf xs167), ⟨#[]⟩, xs⟩ : StepP), _, rfl, loo_fin pk hd85 hd130 (.inl ⟨h154, hx170, rfl⟩) (.inr ⟨h192, rfl, rfl⟩) pl h303 (by rw [strOf_len]; exact Nat.le_trans hx168 (hwl _ (List.mem_of_getElem? (get_bang (by omega))))) (Nat.zero_le _), Hp.svMake0 (⟨K, x81, x126, (strOf xs167), ⟨none, 0, 0⟩, ⟨ao, no, co⟩⟩ : GStep) (⟨K, x81, x126, (strOf xs167), ⟨#[]⟩, xs⟩ : StepP) rfl rfl rfl rfl rfl rfl (hp334.sub (.cons_cons _ (.cons _ (.cons _ (.cons _ (.cons _ (.slnil)))))))⟩
  ·refine WP.skip (thn_n (WP.seq ?_))
   refine WP.cut (fun e344 w345 => ∃ (x342 : Bool), (True) ∧ Bp x342 ((K = 1) ∧ (x125 < (((partsB 32 line).length : Nat) : Int))) ∧ List.map e344 [2, 3, 4, 6, 82] = [pP g3, pP g6, .slice a12 ((partsB 32 line).length) c14, iI x125, .bool x342] ∧ Hp w Non [Res.own 9 1 (.slice a12 ((partsB 32 line).length) c14) ((partsB 32 line).length) (List.flatMap strc (partsB 32 line)), Res.row g6 (qd2 K x81 x126) 31, Res.row g3 qd0 31] w345) ?_ ?_
   ·refine wR (oQ 4 {} [iI K] [2, 3, 4, 6, 77] [pP g3, pP g6, .slice a12 ((partsB 32 line).length) c14, iI x125, .bool (decide (K = 1))] (.cons (l1 3 0 (iI K) hp150.get1) .nil) fun b336 => ?_)
    by_cases h337 : K = 1
    ·refine oP 0 [2, 3, 4, 6, 77] [pP g3, pP g6, .slice a12 ((partsB 32 line).length) c14, iI x125, .bool (decide (K = 1))] fun b338 => ?_
     refine OPS.re [pP g3, pP g6, .slice a12 ((partsB 32 line).length) c14, iI x125, bT] (by rw [show (decide (K = 1)) = true from Bp.dec.tt h337]) ?_
     refine oQ 5 { wraps := [82] } [] [2, 3, 4, 6, 82] [pP g3, pP g6, .slice a12 ((partsB 32 line).length) c14, iI x125, .bool (decide (x125 < (((partsB 32 line).length : Nat) : Int)))] .nil fun b339 => ?_
     refine OPS.nil (thn_n ?_)
     exact ⟨decide (x125 < (((partsB 32 line).length : Nat) : Int)), trivial, Bp.of Bp.dec (by first | (simp [h337]; done) | grind | (simp_all; done)), by kernel_rfl, hp150⟩
    ·refine oP 0 [2, 3, 4, 6, 77] [pP g3, pP g6, .slice a12 ((partsB 32 line).length) c14, iI x125, .bool (decide (K = 1))] fun b340 => ?_
     refine OPS.re [pP g3, pP g6, .slice a12 ((partsB 32 line).length) c14, iI x125, bF] (by rw [show (decide (K = 1)) = false from Bp.dec.ff h337]) ?_
     refine oQ 5 { wraps := [82] } [] [2, 3, 4, 6, 82] [pP g3, pP g6, .slice a12 ((partsB 32 line).length) c14, iI x125, bF] .nil fun b341 => ?_
     refine OPS.nil (thn_n ?_)
     exact ⟨false, trivial, Bp.of Bp.f (by first | (simp [h337]; done) | grind | (simp_all; done)), by kernel_rfl, hp150⟩
   rintro e344 w345 ⟨x342, hd347, hb343, hE348, hp346⟩
   obtain ⟨b349, rfl⟩ := toMk hE348
   clear hE348
   clear hd347
   refine WP.test (p := (K = 1) ∧ (x125 < (((partsB 32 line).length : Nat) : Int))) rfl hb343 (fun h350 => ?_) (fun h350 => ?_)
   ·refine WP.seq (wR ?_)
    have hy354 : ((partsB 32 line))[(x125 : Int).toNat]? = some (partsB 32 line)[(x125 : Int).toNat]! := get_bang (by first | (omega) | (simp only [List.length_append, List.length_cons, List.length_nil]; omega) | (simp only [List.length_take, List.length_append, List.length_cons, List.length_nil]; omega))
    refine oQ 4 {} [.string ((partsB 32 line)[(x125 : Int).toNat]!)] [2, 3, 4, 6, 86] [pP g3, pP g6, .slice a12 ((partsB 32 line).length) c14, iI x125, .string ((partsB 32 line)[(x125 : Int).toNat]!)] (.cons (show InB (x125) ((partsB 32 line).length) from ⟨by omega, by omega⟩) (.cons ((SlR.own hp346.get0).some (by omega)) (.cons (Ld.add0 (Ld.el1 (P := Tryd.prog) (t := 9) (SlR.own hp346.get0).rd 1 (fun _ => rfl) hy354 (o := 0) (v := .string ((partsB 32 line)[(x125 : Int).toNat]!)) (by kernel_rfl))) .nil))) fun b355 => ?_
    refine OPS.cons (opStep.call (some 87) [.string ((partsB 32 line)[(x125 : Int).toNat]!)] (by kernel_rfl) (rf_bytes ((partsB 32 line)[(x125 : Int).toNat]!) (hwz2 _ (List.mem_of_getElem? (get_bang (by omega)))) _) ?_)
    rintro _ w358 ⟨a360, n361, c362, xs363, rfl, hx364, hx365, hx366, hp359⟩
    have hbn9 := own_flat (f := u8c) (sz := 1) (fun _ => rfl) (by decide) hp359.get0
    refine ⟨_, rfl, ?_⟩
    have hp367 := hp346.madeQ hp359
    simp only [List.cons_append, List.nil_append] at hp367
    refine oP 1 [2, 3, 4, 6, 87, 88] [pP g3, pP g6, .slice a12 ((partsB 32 line).length) c14, iI x125, .slice a360 n361 c362, .pointer (some ⟨g6, 4, none⟩)] fun b369 => ?_
    refine OPS.cons (opStep.store2 hp367 rfl [.slice a360 n361 c362] [iI K, iI x81, iI x126, .string ByteArray.empty, .slice a360 n361 c362, nS] (by kernel_rfl) (fun w370 hp371 => ?_))
    refine OPS.nil (thn_n (wQ {} [] [2, 3, 4, 6] [pP g3, pP g6, .slice a12 ((partsB 32 line).length) c14, iI (x125 + 1)] (.cons (show Rng .i64 (x125 + 1) from Rng.i64 (by omega)) .nil) fun b372 => ?_))
    refine thn_n (WP.seq (WP.block ?_))
    have hp373 := (show Hp w Non [Res.own 3 1 (nS) 0 (List.flatMap i64c ([] : List Int)), Res.own 5 1 (.slice a360 n361 c362) n361 (List.flatMap u8c xs363), Res.own 9 1 (.slice a12 ((partsB 32 line).length) c14) ((partsB 32 line).length) (List.flatMap strc (partsB 32 line)), Res.row g6 [iI K, iI x81, iI x126, .string ByteArray.empty, .slice a360 n361 c362, nS] 31, Res.row g3 qd0 31] w370 from hp371.nilOwn 3 1)
    refine WP.loop (fun mz_ e374 w375 => ∃ (m : Int) (xs : List Int) (ao : Option Addr) (no : Nat) (co : Nat), mz_ = ((partsB 32 line).length - m.toNat) ∧ (LoL (partsB 32 line) K (x125 + 1) m xs ∧ True) ∧ List.map e374 [2, 3, 4, 6] = [pP g3, pP g6, .slice a12 ((partsB 32 line).length) c14, iI m] ∧ Hp w Non [Res.own 3 1 (.slice ao no co) no (List.flatMap i64c xs), Res.own 5 1 (.slice a360 n361 c362) n361 (List.flatMap u8c xs363), Res.own 9 1 (.slice a12 ((partsB 32 line).length) c14) ((partsB 32 line).length) (List.flatMap strc (partsB 32 line)), Res.row g6 [iI K, iI x81, iI x126, .string ByteArray.empty, .slice a360 n361 c362, .slice ao no co] 31, Res.row g3 qd0 31] w375) (((partsB 32 line).length - (x125 + 1).toNat)) ⟨x125 + 1, [], none, 0, 0, rfl, ⟨LoL.start _ _ (by omega), trivial⟩, by kernel_rfl, hp373⟩ ?_
    rintro _ e374 w375 ⟨m, xs, ao, no, co, rfl, hI377, hE378, hp376⟩
    obtain ⟨b379, rfl⟩ := toMk hE378
    clear hE378
    obtain ⟨pl, _⟩ := hI377
    have pl1 := pl.1
    have pl2 := pl.2.1
    have pe := own_flat (f := i64c) (sz := 1) (fun _ => rfl) (by decide) hp376.get0
    have pl3 := pl.len
    refine WP.seq ?_
    refine WP.cut (fun e395 w396 => ∃ (x393 : Bool), (True) ∧ Bp x393 ((m < (((partsB 32 line).length : Nat) : Int)) ∧ (kL K = true)) ∧ List.map e395 [2, 3, 4, 6, 99] = [pP g3, pP g6, .slice a12 ((partsB 32 line).length) c14, iI m, .bool x393] ∧ Hp w Non [Res.own 3 1 (.slice ao no co) no (List.flatMap i64c xs), Res.own 5 1 (.slice a360 n361 c362) n361 (List.flatMap u8c xs363), Res.own 9 1 (.slice a12 ((partsB 32 line).length) c14) ((partsB 32 line).length) (List.flatMap strc (partsB 32 line)), Res.row g6 [iI K, iI x81, iI x126, .string ByteArray.empty, .slice a360 n361 c362, .slice ao no co] 31, Res.row g3 qd0 31] w396) ?_ ?_
    ·refine wR (oP 5 [2, 3, 4, 6, 95] [pP g3, pP g6, .slice a12 ((partsB 32 line).length) c14, iI m, .bool (decide (m < (((partsB 32 line).length : Nat) : Int)))] fun b381 => ?_)
     by_cases h382 : m < (((partsB 32 line).length : Nat) : Int)
     ·refine oP 0 [2, 3, 4, 6, 95] [pP g3, pP g6, .slice a12 ((partsB 32 line).length) c14, iI m, .bool (decide (m < (((partsB 32 line).length : Nat) : Int)))] fun b383 => ?_
      refine OPS.re [pP g3, pP g6, .slice a12 ((partsB 32 line).length) c14, iI m, bT] (by rw [show (decide (m < (((partsB 32 line).length : Nat) : Int))) = true from Bp.dec.tt h382]) ?_
      refine oQ 2 {} [iI K] [2, 3, 4, 6, 95, 97] [pP g3, pP g6, .slice a12 ((partsB 32 line).length) c14, iI m, bT, iI K] (.cons (l1 3 0 (iI K) hp376.get3) .nil) fun b384 => ?_
      refine OPS.want (by kernel_rfl) ?_
      refine OPS.cons (opStep.call (some 98) [iI K] (by kernel_rfl) (rf_hasList K _) ?_)
      rintro _ w387 ⟨rfl, hf388⟩
      refine ⟨_, rfl, ?_⟩
      have hp389 := hp376.step hf388
      refine oQ 1 { wraps := [99] } [] [2, 3, 4, 6, 99] [pP g3, pP g6, .slice a12 ((partsB 32 line).length) c14, iI m, .bool (kL K)] .nil fun b390 => ?_
      refine OPS.nil (thn_n ?_)
      exact ⟨(kL K), trivial, Bp.of Bp.var (by first | (simp [h382]; done) | grind | (simp_all; done)), by kernel_rfl, hp389⟩
     ·refine oP 0 [2, 3, 4, 6, 95] [pP g3, pP g6, .slice a12 ((partsB 32 line).length) c14, iI m, .bool (decide (m < (((partsB 32 line).length : Nat) : Int)))] fun b391 => ?_
      refine OPS.re [pP g3, pP g6, .slice a12 ((partsB 32 line).length) c14, iI m, bF] (by rw [show (decide (m < (((partsB 32 line).length : Nat) : Int))) = false from Bp.dec.ff h382]) ?_
      refine oQ 4 { wraps := [99] } [] [2, 3, 4, 6, 99] [pP g3, pP g6, .slice a12 ((partsB 32 line).length) c14, iI m, bF] .nil fun b392 => ?_
      refine OPS.nil (thn_n ?_)
      exact ⟨false, trivial, Bp.of Bp.f (by first | (simp [h382]; done) | grind | (simp_all; done)), by kernel_rfl, hp376⟩
    rintro e395 w396 ⟨x393, hd398, hb394, hE399, hp397⟩
    obtain ⟨b400, rfl⟩ := toMk hE399
    clear hE399
    clear hd398
    refine WP.test (p := (m < (((partsB 32 line).length : Nat) : Int)) ∧ (kL K = true)) rfl hb394 (fun h401 => ?_) (fun h401 => ?_)
    ·refine WP.skip (thn_n (WP.block (WP.seq ?_)))
     have hp402 := hp397.drew
     have hy404 : ((partsB 32 line))[(m : Int).toNat]? = some (partsB 32 line)[(m : Int).toNat]! := get_bang (by first | (omega) | (simp only [List.length_append, List.length_cons, List.length_nil]; omega) | (simp only [List.length_take, List.length_append, List.length_cons, List.length_nil]; omega))
     refine WP.held (fun w405 => Ld Tryd.prog w405 29 ⟨g6, 5, none⟩ (.slice ao no co) ∧ Ld Tryd.prog w405 9 ((adr a12).add ((m : Int).toNat * 1)) (.string ((partsB 32 line)[(m : Int).toNat]!)) ∧ True) [10] [(0, true), (1, true), (2, true), (3, true), (4, true), (5, true), (6, false), (7, false), (8, false), (9, true), (10, false)] (np_thn (np_blk (np_thn (np_blk (np_thn np_body))))) (by kernel_rfl) ?_
     refine hQ 6 {} [.slice ao no co, .string ((partsB 32 line)[(m : Int).toNat]!)] [2, 3, 4, 6, 101, 105] [pP g3, pP g6, .slice a12 ((partsB 32 line).length) c14, iI m, .slice ao no co, .string ((partsB 32 line)[(m : Int).toNat]!)] ⟨(l1 29 5 (.slice ao no co) hp402.get3), (show Ld Tryd.prog w396.drew 9 ((adr a12).add ((m : Int).toNat * 1)) (.string ((partsB 32 line)[(m : Int).toNat]!)) from (Ld.add0 (Ld.el1 (P := Tryd.prog) (t := 9) (SlR.own hp402.get2).rd 1 (fun _ => rfl) hy404 (o := 0) (v := .string ((partsB 32 line)[(m : Int).toNat]!)) (by kernel_rfl)))), trivial⟩ (fun w406 hS407 => (.cons (hS407.1) (.cons (show InB (m) ((partsB 32 line).length) from ⟨by omega, by omega⟩) (.cons ((SlR.own hp402.get2).some (by omega)) (.cons (hS407.2.1) .nil))))) fun b408 => ?_
     refine HOPS.eff _ rfl (opStep.call (some 106) [.string ((partsB 32 line)[(m : Int).toNat]!)] (by kernel_rfl) (rf_number ((partsB 32 line)[(m : Int).toNat]!) (hwz _ (List.mem_of_getElem? (get_bang (by omega)))) _) ?_)
     rintro _ w411 ⟨rfl, hf412⟩
     refine ⟨_, rfl, ?_⟩
     have hp413 := hp402.step hf412
     refine ⟨.inr ⟨(l1 29 5 (.slice ao no co) hp413.get3), (show Ld Tryd.prog w411 9 ((adr a12).add ((m : Int).toNat * 1)) (.string ((partsB 32 line)[(m : Int).toNat]!)) from (Ld.add0 (Ld.el1 (P := Tryd.prog) (t := 9) (SlR.own hp413.get2).rd 1 (fun _ => rfl) hy404 (o := 0) (v := .string ((partsB 32 line)[(m : Int).toNat]!)) (by kernel_rfl)))), trivial⟩, ?_⟩
     refine HOPS.eff _ rfl (opStep.buildSlice (E := 3) hp413 [iI (numI ((partsB 32 line)[(m : Int).toNat]!))] (by kernel_rfl) (fun g416 w414 hp415 => ?_))
     refine ⟨.inr ⟨(l1 29 5 (.slice ao no co) hp415.get4), (show Ld Tryd.prog w414 9 ((adr a12).add ((m : Int).toNat * 1)) (.string ((partsB 32 line)[(m : Int).toNat]!)) from (Ld.add0 (Ld.el1 (P := Tryd.prog) (t := 9) (SlR.own hp415.get3).rd 1 (fun _ => rfl) hy404 (o := 0) (v := .string ((partsB 32 line)[(m : Int).toNat]!)) (by kernel_rfl)))), trivial⟩, ?_⟩
     refine HOPS.eff _ rfl (opStep.append1 [iI (numI ((partsB 32 line)[(m : Int).toNat]!))] hp415 8 (by kernel_rfl) rfl rfl rfl (SlR.row (n := 1) hp415.get0 rfl).rd (List.all_eq_true.1 (by kernel_rfl)) (by decide) (by omega) (by omega) (fun a419 c420 w421 hp422 hn423 => ?_))
     rw [(show List.flatMap i64c xs ++ [iI (numI ((partsB 32 line)[(m : Int).toNat]!))] = List.flatMap i64c (xs ++ [numI ((partsB 32 line)[(m : Int).toNat]!)]) from (List.flatMap_append (xs := xs) (ys := [numI ((partsB 32 line)[(m : Int).toNat]!)])).symm)] at hp422
     refine ⟨.inr ⟨(l1 29 5 (.slice ao no co) hp422.get4), (show Ld Tryd.prog w421 9 ((adr a12).add ((m : Int).toNat * 1)) (.string ((partsB 32 line)[(m : Int).toNat]!)) from (Ld.add0 (Ld.el1 (P := Tryd.prog) (t := 9) (SlR.own hp422.get3).rd 1 (fun _ => rfl) hy404 (o := 0) (v := .string ((partsB 32 line)[(m : Int).toNat]!)) (by kernel_rfl)))), trivial⟩, ?_⟩
     refine hP 1 [2, 3, 4, 6, 108, 109] [pP g3, pP g6, .slice a12 ((partsB 32 line).length) c14, iI m, .slice a419 (no + 1) c420, .pointer (some ⟨g6, 5, none⟩)] ⟨(l1 29 5 (.slice ao no co) hp422.get4), (show Ld Tryd.prog w421 9 ((adr a12).add ((m : Int).toNat * 1)) (.string ((partsB 32 line)[(m : Int).toNat]!)) from (Ld.add0 (Ld.el1 (P := Tryd.prog) (t := 9) (SlR.own hp422.get3).rd 1 (fun _ => rfl) hy404 (o := 0) (v := .string ((partsB 32 line)[(m : Int).toNat]!)) (by kernel_rfl)))), trivial⟩ fun b426 => ?_
     refine HOPS.eff _ rfl (opStep.store4 hp422 rfl [.slice a419 (no + 1) c420] [iI K, iI x81, iI x126, .string ByteArray.empty, .slice a360 n361 c362, .slice a419 (no + 1) c420] (by kernel_rfl) (fun w427 hp428 => ?_))
     refine ⟨.inl rfl, ?_⟩
     refine HOPS.nil (thn_n (wQ {} [] [2, 3, 4, 6] [pP g3, pP g6, .slice a12 ((partsB 32 line).length) c14, iI (m + 1)] (.cons (show Rng .i64 (m + 1) from Rng.i64 (by omega)) .nil) fun b429 => ?_))
     refine blk_n (thn_n ?_)
     exact ⟨((partsB 32 line).length - (m + 1).toNat), (by omega), m + 1, xs ++ [numI ((partsB 32 line)[(m : Int).toNat]!)], a419, no + 1, c420, rfl, ⟨pl.step (by omega) (h401).2, trivial⟩, by kernel_rfl, (hp428.sub (.cons _ (.cons_cons _ (.cons_cons _ (.cons_cons _ (.cons_cons _ (.cons_cons _ (.slnil))))))))⟩
    ·refine WP.exit (thn_x (thn_x (blk_hit (thn_n (WP.seq (wR (oQ 1 {} [.agg #[iI K, iI x81, iI x126, .string ByteArray.empty, .slice a360 n361 c362, .slice ao no co]] [2, 112] [pP g3, .agg #[iI K, iI x81, iI x126, .string ByteArray.empty, .slice a360 n361 c362, .slice ao no co]] (.cons (lN 31 0 [iI K, iI x81, iI x126, .string ByteArray.empty, .slice a360 n361 c362, .slice ao no co] hp397.get3) .nil) fun b430 => ?_)))))))
     refine OPS.cons (opStep.store4 hp397 rfl [iI K, iI x81, iI x126, .string ByteArray.empty, .slice a360 n361 c362, .slice ao no co] [iI K, iI x81, iI x126, .string ByteArray.empty, .slice a360 n361 c362, .slice ao no co] (by kernel_rfl) (fun w431 hp432 => ?_))
     refine OPS.nil (thn_n (WP.ret ?_))
     refine bodyQ.of _ rfl [.agg #[iI K, iI x81, iI x126, .string ByteArray.empty, .slice a360 n361 c362, .slice ao no co]] ⟨⟨_, rfl, (lN 31 0 [iI K, iI x81, iI x126, .string ByteArray.empty, .slice a360 n361 c362, .slice ao no co] hp432.get4)⟩, trivial⟩ ?_
     obtain rfl : k = 17 := by omega
     have h_ := (hp432.sub (.cons_cons _ (.cons_cons _ (.cons _ (.cons _ (.cons _ (.slnil)))))))
     rw [show List.flatMap u8c xs363 = List.flatMap u8c (bytesI (strOf xs363)) from by rw [bytesI_of hx365]] at h_
     have h2_ := h_.pull1
     exact ⟨(⟨K, x81, x126, ByteArray.empty, ⟨a360, n361, c362⟩, ⟨ao, no, co⟩⟩ : GStep), (⟨K, x81, x126, ByteArray.empty, strOf xs363, xs⟩ : StepP), _, rfl, loo_fin pk hd85 hd130 (.inr ⟨h154, rfl, rfl⟩) (.inl ⟨h350, hx366, rfl⟩) pl h401 (Nat.zero_le _) (by rw [strOf_len]; exact Nat.le_trans hx364 (hwl _ (List.mem_of_getElem? (get_bang (by omega))))), Hp.svMakeO (⟨K, x81, x126, ByteArray.empty, ⟨a360, n361, c362⟩, ⟨ao, no, co⟩⟩ : GStep) (⟨K, x81, x126, ByteArray.empty, strOf xs363, xs⟩ : StepP) rfl rfl rfl rfl h2_⟩
   ·refine WP.skip (thn_n (WP.seq (WP.block ?_)))
    have hp433 := (show Hp w Non [Res.own 3 1 (nS) 0 (List.flatMap i64c ([] : List Int)), Res.own 9 1 (.slice a12 ((partsB 32 line).length) c14) ((partsB 32 line).length) (List.flatMap strc (partsB 32 line)), Res.row g6 (qd2 K x81 x126) 31, Res.row g3 qd0 31] w345 from hp346.nilOwn 3 1)
    refine WP.loop (fun mz_ e434 w435 => ∃ (m : Int) (xs : List Int) (ao : Option Addr) (no : Nat) (co : Nat), mz_ = ((partsB 32 line).length - m.toNat) ∧ (LoL (partsB 32 line) K (x125) m xs ∧ True) ∧ List.map e434 [2, 3, 4, 6] = [pP g3, pP g6, .slice a12 ((partsB 32 line).length) c14, iI m] ∧ Hp w Non [Res.own 3 1 (.slice ao no co) no (List.flatMap i64c xs), Res.own 9 1 (.slice a12 ((partsB 32 line).length) c14) ((partsB 32 line).length) (List.flatMap strc (partsB 32 line)), Res.row g6 [iI K, iI x81, iI x126, .string ByteArray.empty, nS, .slice ao no co] 31, Res.row g3 qd0 31] w435) (((partsB 32 line).length - (x125).toNat)) ⟨x125, [], none, 0, 0, rfl, ⟨LoL.start _ _ (by omega), trivial⟩, by kernel_rfl, hp433⟩ ?_
    rintro _ e434 w435 ⟨m, xs, ao, no, co, rfl, hI437, hE438, hp436⟩
    obtain ⟨b439, rfl⟩ := toMk hE438
    clear hE438
    obtain ⟨pl, _⟩ := hI437
    have pl1 := pl.1
    have pl2 := pl.2.1
    have pe := own_flat (f := i64c) (sz := 1) (fun _ => rfl) (by decide) hp436.get0
    have pl3 := pl.len
    refine WP.seq ?_
    refine WP.cut (fun e455 w456 => ∃ (x453 : Bool), (True) ∧ Bp x453 ((m < (((partsB 32 line).length : Nat) : Int)) ∧ (kL K = true)) ∧ List.map e455 [2, 3, 4, 6, 99] = [pP g3, pP g6, .slice a12 ((partsB 32 line).length) c14, iI m, .bool x453] ∧ Hp w Non [Res.own 3 1 (.slice ao no co) no (List.flatMap i64c xs), Res.own 9 1 (.slice a12 ((partsB 32 line).length) c14) ((partsB 32 line).length) (List.flatMap strc (partsB 32 line)), Res.row g6 [iI K, iI x81, iI x126, .string ByteArray.empty, nS, .slice ao no co] 31, Res.row g3 qd0 31] w456) ?_ ?_
    ·refine wR (oP 5 [2, 3, 4, 6, 95] [pP g3, pP g6, .slice a12 ((partsB 32 line).length) c14, iI m, .bool (decide (m < (((partsB 32 line).length : Nat) : Int)))] fun b441 => ?_)
     by_cases h442 : m < (((partsB 32 line).length : Nat) : Int)
     ·refine oP 0 [2, 3, 4, 6, 95] [pP g3, pP g6, .slice a12 ((partsB 32 line).length) c14, iI m, .bool (decide (m < (((partsB 32 line).length : Nat) : Int)))] fun b443 => ?_
      refine OPS.re [pP g3, pP g6, .slice a12 ((partsB 32 line).length) c14, iI m, bT] (by rw [show (decide (m < (((partsB 32 line).length : Nat) : Int))) = true from Bp.dec.tt h442]) ?_
      refine oQ 2 {} [iI K] [2, 3, 4, 6, 95, 97] [pP g3, pP g6, .slice a12 ((partsB 32 line).length) c14, iI m, bT, iI K] (.cons (l1 3 0 (iI K) hp436.get2) .nil) fun b444 => ?_
      refine OPS.want (by kernel_rfl) ?_
      refine OPS.cons (opStep.call (some 98) [iI K] (by kernel_rfl) (rf_hasList K _) ?_)
      rintro _ w447 ⟨rfl, hf448⟩
      refine ⟨_, rfl, ?_⟩
      have hp449 := hp436.step hf448
      refine oQ 1 { wraps := [99] } [] [2, 3, 4, 6, 99] [pP g3, pP g6, .slice a12 ((partsB 32 line).length) c14, iI m, .bool (kL K)] .nil fun b450 => ?_
      refine OPS.nil (thn_n ?_)
      exact ⟨(kL K), trivial, Bp.of Bp.var (by first | (simp [h442]; done) | grind | (simp_all; done)), by kernel_rfl, hp449⟩
     ·refine oP 0 [2, 3, 4, 6, 95] [pP g3, pP g6, .slice a12 ((partsB 32 line).length) c14, iI m, .bool (decide (m < (((partsB 32 line).length : Nat) : Int)))] fun b451 => ?_
      refine OPS.re [pP g3, pP g6, .slice a12 ((partsB 32 line).length) c14, iI m, bF] (by rw [show (decide (m < (((partsB 32 line).length : Nat) : Int))) = false from Bp.dec.ff h442]) ?_
      refine oQ 4 { wraps := [99] } [] [2, 3, 4, 6, 99] [pP g3, pP g6, .slice a12 ((partsB 32 line).length) c14, iI m, bF] .nil fun b452 => ?_
      refine OPS.nil (thn_n ?_)
      exact ⟨false, trivial, Bp.of Bp.f (by first | (simp [h442]; done) | grind | (simp_all; done)), by kernel_rfl, hp436⟩
    rintro e455 w456 ⟨x453, hd458, hb454, hE459, hp457⟩
    obtain ⟨b460, rfl⟩ := toMk hE459
    clear hE459
    clear hd458
    refine WP.test (p := (m < (((partsB 32 line).length : Nat) : Int)) ∧ (kL K = true)) rfl hb454 (fun h461 => ?_) (fun h461 => ?_)
    ·refine WP.skip (thn_n (WP.block (WP.seq ?_)))
     have hp462 := hp457.drew
     have hy464 : ((partsB 32 line))[(m : Int).toNat]? = some (partsB 32 line)[(m : Int).toNat]! := get_bang (by first | (omega) | (simp only [List.length_append, List.length_cons, List.length_nil]; omega) | (simp only [List.length_take, List.length_append, List.length_cons, List.length_nil]; omega))
     refine WP.held (fun w465 => Ld Tryd.prog w465 29 ⟨g6, 5, none⟩ (.slice ao no co) ∧ Ld Tryd.prog w465 9 ((adr a12).add ((m : Int).toNat * 1)) (.string ((partsB 32 line)[(m : Int).toNat]!)) ∧ True) [10] [(0, true), (1, true), (2, true), (3, true), (4, true), (5, true), (6, false), (7, false), (8, false), (9, true), (10, false)] (np_thn (np_blk (np_thn (np_blk (np_thn np_body))))) (by kernel_rfl) ?_
     refine hQ 6 {} [.slice ao no co, .string ((partsB 32 line)[(m : Int).toNat]!)] [2, 3, 4, 6, 101, 105] [pP g3, pP g6, .slice a12 ((partsB 32 line).length) c14, iI m, .slice ao no co, .string ((partsB 32 line)[(m : Int).toNat]!)] ⟨(l1 29 5 (.slice ao no co) hp462.get2), (show Ld Tryd.prog w456.drew 9 ((adr a12).add ((m : Int).toNat * 1)) (.string ((partsB 32 line)[(m : Int).toNat]!)) from (Ld.add0 (Ld.el1 (P := Tryd.prog) (t := 9) (SlR.own hp462.get1).rd 1 (fun _ => rfl) hy464 (o := 0) (v := .string ((partsB 32 line)[(m : Int).toNat]!)) (by kernel_rfl)))), trivial⟩ (fun w466 hS467 => (.cons (hS467.1) (.cons (show InB (m) ((partsB 32 line).length) from ⟨by omega, by omega⟩) (.cons ((SlR.own hp462.get1).some (by omega)) (.cons (hS467.2.1) .nil))))) fun b468 => ?_
     refine HOPS.eff _ rfl (opStep.call (some 106) [.string ((partsB 32 line)[(m : Int).toNat]!)] (by kernel_rfl) (rf_number ((partsB 32 line)[(m : Int).toNat]!) (hwz _ (List.mem_of_getElem? (get_bang (by omega)))) _) ?_)
     rintro _ w471 ⟨rfl, hf472⟩
     refine ⟨_, rfl, ?_⟩
     have hp473 := hp462.step hf472
     refine ⟨.inr ⟨(l1 29 5 (.slice ao no co) hp473.get2), (show Ld Tryd.prog w471 9 ((adr a12).add ((m : Int).toNat * 1)) (.string ((partsB 32 line)[(m : Int).toNat]!)) from (Ld.add0 (Ld.el1 (P := Tryd.prog) (t := 9) (SlR.own hp473.get1).rd 1 (fun _ => rfl) hy464 (o := 0) (v := .string ((partsB 32 line)[(m : Int).toNat]!)) (by kernel_rfl)))), trivial⟩, ?_⟩
     refine HOPS.eff _ rfl (opStep.buildSlice (E := 3) hp473 [iI (numI ((partsB 32 line)[(m : Int).toNat]!))] (by kernel_rfl) (fun g476 w474 hp475 => ?_))
     refine ⟨.inr ⟨(l1 29 5 (.slice ao no co) hp475.get3), (show Ld Tryd.prog w474 9 ((adr a12).add ((m : Int).toNat * 1)) (.string ((partsB 32 line)[(m : Int).toNat]!)) from (Ld.add0 (Ld.el1 (P := Tryd.prog) (t := 9) (SlR.own hp475.get2).rd 1 (fun _ => rfl) hy464 (o := 0) (v := .string ((partsB 32 line)[(m : Int).toNat]!)) (by kernel_rfl)))), trivial⟩, ?_⟩
     refine HOPS.eff _ rfl (opStep.append1 [iI (numI ((partsB 32 line)[(m : Int).toNat]!))] hp475 8 (by kernel_rfl) rfl rfl rfl (SlR.row (n := 1) hp475.get0 rfl).rd (List.all_eq_true.1 (by kernel_rfl)) (by decide) (by omega) (by omega) (fun a479 c480 w481 hp482 hn483 => ?_))
     rw [(show List.flatMap i64c xs ++ [iI (numI ((partsB 32 line)[(m : Int).toNat]!))] = List.flatMap i64c (xs ++ [numI ((partsB 32 line)[(m : Int).toNat]!)]) from (List.flatMap_append (xs := xs) (ys := [numI ((partsB 32 line)[(m : Int).toNat]!)])).symm)] at hp482
     refine ⟨.inr ⟨(l1 29 5 (.slice ao no co) hp482.get3), (show Ld Tryd.prog w481 9 ((adr a12).add ((m : Int).toNat * 1)) (.string ((partsB 32 line)[(m : Int).toNat]!)) from (Ld.add0 (Ld.el1 (P := Tryd.prog) (t := 9) (SlR.own hp482.get2).rd 1 (fun _ => rfl) hy464 (o := 0) (v := .string ((partsB 32 line)[(m : Int).toNat]!)) (by kernel_rfl)))), trivial⟩, ?_⟩
     refine hP 1 [2, 3, 4, 6, 108, 109] [pP g3, pP g6, .slice a12 ((partsB 32 line).length) c14, iI m, .slice a479 (no + 1) c480, .pointer (some ⟨g6, 5, none⟩)] ⟨(l1 29 5 (.slice ao no co) hp482.get3), (show Ld Tryd.prog w481 9 ((adr a12).add ((m : Int).toNat * 1)) (.string ((partsB 32 line)[(m : Int).toNat]!)) from (Ld.add0 (Ld.el1 (P := Tryd.prog) (t := 9) (SlR.own hp482.get2).rd 1 (fun _ => rfl) hy464 (o := 0) (v := .string ((partsB 32 line)[(m : Int).toNat]!)) (by kernel_rfl)))), trivial⟩ fun b486 => ?_
     refine HOPS.eff _ rfl (opStep.store3 hp482 rfl [.slice a479 (no + 1) c480] [iI K, iI x81, iI x126, .string ByteArray.empty, nS, .slice a479 (no + 1) c480] (by kernel_rfl) (fun w487 hp488 => ?_))
     refine ⟨.inl rfl, ?_⟩
     refine HOPS.nil (thn_n (wQ {} [] [2, 3, 4, 6] [pP g3, pP g6, .slice a12 ((partsB 32 line).length) c14, iI (m + 1)] (.cons (show Rng .i64 (m + 1) from Rng.i64 (by omega)) .nil) fun b489 => ?_))
     refine blk_n (thn_n ?_)
     exact ⟨((partsB 32 line).length - (m + 1).toNat), (by omega), m + 1, xs ++ [numI ((partsB 32 line)[(m : Int).toNat]!)], a479, no + 1, c480, rfl, ⟨pl.step (by omega) (h461).2, trivial⟩, by kernel_rfl, (hp488.sub (.cons _ (.cons_cons _ (.cons_cons _ (.cons_cons _ (.cons_cons _ (.slnil)))))))⟩
    ·refine WP.exit (thn_x (thn_x (blk_hit (thn_n (WP.seq (wR (oQ 1 {} [.agg #[iI K, iI x81, iI x126, .string ByteArray.empty, nS, .slice ao no co]] [2, 112] [pP g3, .agg #[iI K, iI x81, iI x126, .string ByteArray.empty, nS, .slice ao no co]] (.cons (lN 31 0 [iI K, iI x81, iI x126, .string ByteArray.empty, nS, .slice ao no co] hp457.get2) .nil) fun b490 => ?_)))))))
     refine OPS.cons (opStep.store3 hp457 rfl [iI K, iI x81, iI x126, .string ByteArray.empty, nS, .slice ao no co] [iI K, iI x81, iI x126, .string ByteArray.empty, nS, .slice ao no co] (by kernel_rfl) (fun w491 hp492 => ?_))
     refine OPS.nil (thn_n (WP.ret ?_))
     refine bodyQ.of _ rfl [.agg #[iI K, iI x81, iI x126, .string ByteArray.empty, nS, .slice ao no co]] ⟨⟨_, rfl, (lN 31 0 [iI K, iI x81, iI x126, .string ByteArray.empty, nS, .slice ao no co] hp492.get3)⟩, trivial⟩ ?_
     obtain rfl : k = 17 := by omega
     exact ⟨(⟨K, x81, x126, ByteArray.empty, ⟨none, 0, 0⟩, ⟨ao, no, co⟩⟩ : GStep), (⟨K, x81, x126, ByteArray.empty, ⟨#[]⟩, xs⟩ : StepP), _, rfl, loo_fin pk hd85 hd130 (.inr ⟨h154, rfl, rfl⟩) (.inr ⟨h350, rfl, rfl⟩) pl h461 (Nat.zero_le _) (Nat.zero_le _), Hp.svMake0 (⟨K, x81, x126, ByteArray.empty, ⟨none, 0, 0⟩, ⟨ao, no, co⟩⟩ : GStep) (⟨K, x81, x126, ByteArray.empty, ⟨#[]⟩, xs⟩ : StepP) rfl rfl rfl rfl rfl rfl (hp492.sub (.cons_cons _ (.cons _ (.cons _ (.cons _ (.slnil))))))⟩

end Go.Proofs.YtbpedjefoajegaaDoor.K
namespace Go.Proofs.YtbpedjefoajegaaDoor.K
open Go Go.Proofs Go.RowKit
set_option linter.unusedVariables false
set_option linter.unusedSimpArgs false
set_option maxRecDepth 20000
set_option maxHeartbeats 4000000

theorem rf_Parse (s : ByteArray) (hs : s.size ≤ 1048576) (w : World) (hwd : (Res.row 1 wordsC 65).holds w) :
  Calls Tryd.prog 17 #[.string s] w (fun r_ w' => ∃ a nn c cl F xs m e, r_ = .returned (.tuple #[.slice a nn c, .int .i64 m, .int .i64 e]) ∧ PrsR s xs m e ∧ Hp w Non [Res.own 31 6 (.slice a nn c) nn (cl.flatMap GStep.cells), Res.sv F cl xs] w') := by
 have hwl : ∀ x ∈ partsB 10 s, x.size ≤ s.size := fun x hx => partsB_size hx
 have hlz : ∀ x ∈ partsB 10 s, x.size ≤ 1048576 := fun x hx => Nat.le_trans (hwl x hx) (by omega)
 have hne := (partsB_len 10 s).1
 have hne2 := (partsB_len 10 s).2
 refine calls_of Tryd.func17 rfl 60 rfl (by simp) ?_
 have hp0 := Hp.init w
 have he0 : List.map (env0 [.string s]) [0] = [.string s] := by kernel_rfl
 obtain ⟨b0, he0⟩ := toMk he0
 rw [he0]
 clear he0
 refine WP.seq (wP [0] [.string s] fun b1 => ?_)
 refine thn_n (WP.seq (wR (oP 1 [11] [.string s] fun b2 => ?_)))
 refine OPS.cons (opStep.call (some 12) [.string s, .int .u8 10] (by kernel_rfl) (rf_parts 10 s (by omega) _) ?_)
 rintro _ w5 ⟨a7, n8, c9, rfl, hp6⟩
 have hln9 := own_flat (f := strc) (sz := 1) (fun _ => rfl) (by decide) hp6.get0
 subst hln9
 have hcap9 := own_cap hp6.get0
 refine ⟨_, rfl, ?_⟩
 have hp10 := hp0.madeQ hp6
 simp only [List.cons_append, List.nil_append] at hp10
 refine oP 1 [5] [.slice a7 ((partsB 10 s).length) c9] fun b11 => ?_
 refine OPS.nil (thn_n (WP.seq (WP.seq ?_)))
 have hy13 : ((partsB 10 s))[((((partsB 10 s).length : Nat) : Int) - 1 : Int).toNat]? = some (partsB 10 s)[((((partsB 10 s).length : Nat) : Int) - 1 : Int).toNat]! := get_bang (by first | (omega) | (simp only [List.length_append, List.length_cons, List.length_nil]; omega) | (simp only [List.length_take, List.length_append, List.length_cons, List.length_nil]; omega))
 refine wQ {} [.string ((partsB 10 s)[((((partsB 10 s).length : Nat) : Int) - 1 : Int).toNat]!)] [5, 19] [.slice a7 ((partsB 10 s).length) c9, .bool (decide (((partsB 10 s)[((((partsB 10 s).length : Nat) : Int) - 1 : Int).toNat]!) = ⟨#[]⟩))] (.cons (show Rng .i64 ((((partsB 10 s).length : Nat) : Int) - 1) from Rng.i64 (by omega)) (.cons (show InB ((((partsB 10 s).length : Nat) : Int) - 1) ((partsB 10 s).length) from ⟨by omega, by omega⟩) (.cons ((SlR.own hp10.get0).some (by omega)) (.cons (Ld.add0 (Ld.el1 (P := Tryd.prog) (t := 9) (SlR.own hp10.get0).rd 1 (fun _ => rfl) hy13 (o := 0) (v := .string ((partsB 10 s)[((((partsB 10 s).length : Nat) : Int) - 1 : Int).toNat]!)) (by kernel_rfl))) .nil)))) fun b14 => ?_
 refine thn_n ?_
 refine WP.test (p := ((partsB 10 s)[((((partsB 10 s).length : Nat) : Int) - 1 : Int).toNat]!) = ⟨#[]⟩) rfl Bp.dec (fun h15 => ?_) (fun h15 => ?_)
 ·refine wQ {} [] [5] [.slice a7 (((((partsB 10 s).length : Nat) : Int) - 1 : Int).toNat) c9] (.cons (show Rng .i64 ((((partsB 10 s).length : Nat) : Int) - 1) from Rng.i64 (by omega)) (.cons (show (0 : Int) ≤ ((((partsB 10 s).length : Nat) : Int) - 1) ∧ ((((partsB 10 s).length : Nat) : Int) - 1) ≤ ((c9 : Nat) : Int) from ⟨by omega, by omega⟩) .nil)) fun b16 => ?_
  refine thn_n (WP.seq (WP.seq ?_))
  have hti : ((((partsB 10 s).length : Nat) : Int) - 1 : Int).toNat = (partsB 10 s).length - 1 := by omega
  have hlb : linesB s = List.take (((((partsB 10 s).length : Nat) : Int) - 1 : Int).toNat) (partsB 10 s) := by have h_ := h15; rw [hti] at h_ ⊢; exact lines_last.1 h_
  have hll := congrArg List.length hlb
  rw [List.length_take] at hll
  refine wP [5, 27] [.slice a7 (((((partsB 10 s).length : Nat) : Int) - 1 : Int).toNat) c9, .bool (decide (4096 < ((((((partsB 10 s).length : Nat) : Int) - 1 : Int).toNat : Nat) : Int)))] fun b17 => ?_
  refine thn_n ?_
  refine WP.test (p := 4096 < ((((((partsB 10 s).length : Nat) : Int) - 1 : Int).toNat : Nat) : Int)) rfl Bp.dec (fun h18 => ?_) (fun h18 => ?_)
  ·refine WP.seq (wP [2, 3, 4] [nS, iI 0, iI 2] fun b19 => ?_)
   refine thn_n (WP.ret (thn_r ?_))
   refine bodyQ.of _ rfl [nS, iI 0, iI 2] ⟨rfl, rfl, rfl, trivial⟩ ?_
   exact ⟨none, 0, 0, [], fun _ => False, [], _, _, rfl, .inl ⟨by have h_ := h18; omega, rfl, rfl, rfl⟩, ((hp10.nil.svNil).nilOwn 31 6)⟩
  ·refine WP.skip (thn_n (WP.seq (wP [5, 6] [.slice a7 (((((partsB 10 s).length : Nat) : Int) - 1 : Int).toNat) c9, nS] fun b20 => ?_)))
   refine thn_n (WP.seq (WP.seq (wP [5, 6, 7] [.slice a7 (((((partsB 10 s).length : Nat) : Int) - 1 : Int).toNat) c9, nS, iI 0] fun b21 => ?_)))
   refine thn_n (WP.block ?_)
   have hp23 := hp10.svNil
   have hp22 := (show Hp w Non [Res.own 31 6 (nS) 0 (List.flatMap GStep.cells ([] : List GStep)), Res.sv (fun _ => False) [] [], Res.own 9 1 (.slice a7 ((partsB 10 s).length) c9) ((partsB 10 s).length) (List.flatMap strc (partsB 10 s))] w5 from hp23.nilOwn 31 6)
   refine WP.loop (fun mz_ e24 w25 => ∃ (k : Nat) (F : Nat → Prop) (cl : List GStep) (xs : List StepP) (ao : Option Addr) (no : Nat) (co : Nat), mz_ = (linesB s).length - k ∧ (k ≤ (linesB s).length ∧ (cl.length = k ∧ xs.length = k) ∧ PsI s xs k) ∧ List.map e24 [5, 6, 7] = [.slice a7 (((((partsB 10 s).length : Nat) : Int) - 1 : Int).toNat) c9, .slice ao no co, iI (k : Int)] ∧ Hp w Non [Res.own 31 6 (.slice ao no co) no (List.flatMap GStep.cells cl), Res.sv F cl xs, Res.own 9 1 (.slice a7 ((partsB 10 s).length) c9) ((partsB 10 s).length) (List.flatMap strc (partsB 10 s))] w25) ((linesB s).length - (0)) ⟨0, (fun _ => False), [], [], none, 0, 0, rfl, ⟨Nat.zero_le _, ⟨rfl, rfl⟩, ⟨by simp, fun x hx => by cases hx⟩⟩, by kernel_rfl, hp22⟩ ?_
   rintro _ e24 w25 ⟨k, F, cl, xs, ao, no, co, rfl, hI27, hE28, hp26⟩
   obtain ⟨b29, rfl⟩ := toMk hE28
   clear hE28
   obtain ⟨pa, pb, pc⟩ := hI27
   have pe := own_flat (f := GStep.cells) (sz := 6) (fun _ => rfl) (by decide) hp26.get0
   refine WP.seq (WP.seq (wP [5, 6, 7, 31] [.slice a7 (((((partsB 10 s).length : Nat) : Int) - 1 : Int).toNat) c9, .slice ao no co, iI (k : Int), .bool (decide ((k : Int) < ((((((partsB 10 s).length : Nat) : Int) - 1 : Int).toNat : Nat) : Int)))] fun b30 => ?_))
   refine thn_n ?_
   refine WP.test (p := (k : Int) < ((((((partsB 10 s).length : Nat) : Int) - 1 : Int).toNat : Nat) : Int)) rfl Bp.dec (fun h31 => ?_) (fun h31 => ?_)
   ·refine WP.skip (thn_n (WP.seq (WP.block (WP.seq (wR ?_)))))
    have hy35 : (List.take (((((partsB 10 s).length : Nat) : Int) - 1 : Int).toNat) (partsB 10 s))[k]? = some (List.take (((((partsB 10 s).length : Nat) : Int) - 1 : Int).toNat) (partsB 10 s))[k]! := get_bang (by first | (omega) | (simp only [List.length_append, List.length_cons, List.length_nil]; omega) | (simp only [List.length_take, List.length_append, List.length_cons, List.length_nil]; omega))
    refine oQ 4 {} [.string ((List.take (((((partsB 10 s).length : Nat) : Int) - 1 : Int).toNat) (partsB 10 s))[k]!)] [5, 6, 7, 37] [.slice a7 (((((partsB 10 s).length : Nat) : Int) - 1 : Int).toNat) c9, .slice ao no co, iI (k : Int), .string ((List.take (((((partsB 10 s).length : Nat) : Int) - 1 : Int).toNat) (partsB 10 s))[k]!)] (.cons (show InB ((k : Int)) (((((partsB 10 s).length : Nat) : Int) - 1 : Int).toNat) from ⟨by omega, by omega⟩) (.cons ((slr_take (k := ((((partsB 10 s).length : Nat) : Int) - 1 : Int).toNat) (sz := 1) (fun _ => rfl) (SlR.own hp26.get2) (by omega)).some (by omega)) (.cons (Ld.add0 (Ld.el1 (P := Tryd.prog) (t := 9) (slr_take (k := ((((partsB 10 s).length : Nat) : Int) - 1 : Int).toNat) (sz := 1) (fun _ => rfl) (SlR.own hp26.get2) (by omega)).rd 1 (fun _ => rfl) hy35 (o := 0) (v := .string ((List.take (((((partsB 10 s).length : Nat) : Int) - 1 : Int).toNat) (partsB 10 s))[k]!)) (by kernel_rfl))) .nil))) fun b36 => ?_
    refine OPS.cons (opStep.call (some 38) [.string ((List.take (((((partsB 10 s).length : Nat) : Int) - 1 : Int).toNat) (partsB 10 s))[k]!)] (by kernel_rfl) (rf_loose ((List.take (((((partsB 10 s).length : Nat) : Int) - 1 : Int).toNat) (partsB 10 s))[k]!) (Nat.le_trans (hlz _ (List.mem_of_mem_take (List.mem_of_getElem? (get_bang (by rw [List.length_take]; omega))))) (by decide)) _ (row_at hwd hp26.fr)) ?_)
    rintro _ w39 ⟨s41, x42, F43, rfl, hq44, hp40⟩
    refine ⟨_, rfl, ?_⟩
    have hp45 := hp26.madeQ hp40
    simp only [List.cons_append, List.nil_append] at hp45
    refine OPS.cons (opStep.alloc hp45 [iI 0, iI 0, iI 0, .string ByteArray.empty, nS, nS] (by kernel_rfl) (fun g48 w46 hp47 => ?_))
    refine OPS.cons (opStep.store0 hp47 rfl [iI s41.Kind, iI s41.A, iI s41.B, .string s41.Key, .slice s41.Value.a s41.Value.n s41.Value.c, .slice s41.L.a s41.L.n s41.L.c] [iI s41.Kind, iI s41.A, iI s41.B, .string s41.Key, .slice s41.Value.a s41.Value.n s41.Value.c, .slice s41.L.a s41.L.n s41.L.c] (by kernel_rfl) (fun w49 hp50 => ?_))
    refine OPS.nil (thn_n (WP.seq (wR (oQ 1 {} [GStep.val s41] [5, 6, 7, 8, 40] [.slice a7 (((((partsB 10 s).length : Nat) : Int) - 1 : Int).toNat) c9, .slice ao no co, iI (k : Int), pP g48, GStep.val s41] (.cons (lN 31 0 [iI s41.Kind, iI s41.A, iI s41.B, .string s41.Key, .slice s41.Value.a s41.Value.n s41.Value.c, .slice s41.L.a s41.L.n s41.L.c] hp50.get0) .nil) fun b51 => ?_))))
    have hsm_ : smS x42 := loo_sm hq44 (hlz _ (List.mem_of_mem_take (List.mem_of_getElem? (get_bang (by rw [List.length_take]; omega)))))
    refine OPS.cons (opStep.call (some 41) [GStep.val s41] (by kernel_rfl) (rf_Line s41 x42 _ (row_at hwd hp50.fr) ((hp50.get1.2 0 (by simp)).wide fun _ _ => trivial) hsm_) ?_)
    rintro _ w54 ⟨rfl, hf55⟩
    refine ⟨_, rfl, ?_⟩
    have hp56 := hp50.step hf55
    refine oP 5 [5, 6, 7, 8, 9, 10] [.slice a7 (((((partsB 10 s).length : Nat) : Int) - 1 : Int).toNat) c9, .slice ao no co, iI (k : Int), pP g48, .string (lineV x42), iI (chkI x42)] fun b57 => ?_
    refine OPS.nil (thn_n (WP.seq ?_))
    refine WP.cut (fun e67 w68 => ∃ (x65 : Bool), (True) ∧ Bp x65 (((¬ ((chkI x42) = 0))) ∨ (((chkI x42) = 0) ∧ (¬ ((lineV x42) = ((List.take (((((partsB 10 s).length : Nat) : Int) - 1 : Int).toNat) (partsB 10 s))[k]!))))) ∧ List.map e67 [5, 6, 7, 8, 53] = [.slice a7 (((((partsB 10 s).length : Nat) : Int) - 1 : Int).toNat) c9, .slice ao no co, iI (k : Int), pP g48, .bool x65] ∧ Hp w Non [Res.row g48 [iI s41.Kind, iI s41.A, iI s41.B, .string s41.Key, .slice s41.Value.a s41.Value.n s41.Value.c, .slice s41.L.a s41.L.n s41.L.c] 31, Res.sv F43 [s41] [x42], Res.own 31 6 (.slice ao no co) no (List.flatMap GStep.cells cl), Res.sv F cl xs, Res.own 9 1 (.slice a7 ((partsB 10 s).length) c9) ((partsB 10 s).length) (List.flatMap strc (partsB 10 s))] w68) ?_ ?_
    ·refine wR (oP 3 [5, 6, 7, 8, 9, 46] [.slice a7 (((((partsB 10 s).length : Nat) : Int) - 1 : Int).toNat) c9, .slice ao no co, iI (k : Int), pP g48, .string (lineV x42), .bool (decide (¬ ((chkI x42) = 0)))] fun b59 => ?_)
     by_cases h60 : (chkI x42) = 0
     ·refine oP 0 [5, 6, 7, 8, 9, 46] [.slice a7 (((((partsB 10 s).length : Nat) : Int) - 1 : Int).toNat) c9, .slice ao no co, iI (k : Int), pP g48, .string (lineV x42), .bool (decide (¬ ((chkI x42) = 0)))] fun b63 => ?_
      refine OPS.re [.slice a7 (((((partsB 10 s).length : Nat) : Int) - 1 : Int).toNat) c9, .slice ao no co, iI (k : Int), pP g48, .string (lineV x42), bF] (by rw [show (decide (¬ ((chkI x42) = 0))) = false from Bp.dec.ff (fun k => k h60)]) ?_
      refine oQ 7 { wraps := [53] } [.string ((List.take (((((partsB 10 s).length : Nat) : Int) - 1 : Int).toNat) (partsB 10 s))[k]!)] [5, 6, 7, 8, 53] [.slice a7 (((((partsB 10 s).length : Nat) : Int) - 1 : Int).toNat) c9, .slice ao no co, iI (k : Int), pP g48, .bool (decide (¬ ((lineV x42) = ((List.take (((((partsB 10 s).length : Nat) : Int) - 1 : Int).toNat) (partsB 10 s))[k]!))))] (.cons (show InB ((k : Int)) (((((partsB 10 s).length : Nat) : Int) - 1 : Int).toNat) from ⟨by omega, by omega⟩) (.cons ((slr_take (k := ((((partsB 10 s).length : Nat) : Int) - 1 : Int).toNat) (sz := 1) (fun _ => rfl) (SlR.own hp56.get4) (by omega)).some (by omega)) (.cons (Ld.add0 (Ld.el1 (P := Tryd.prog) (t := 9) (slr_take (k := ((((partsB 10 s).length : Nat) : Int) - 1 : Int).toNat) (sz := 1) (fun _ => rfl) (SlR.own hp56.get4) (by omega)).rd 1 (fun _ => rfl) hy35 (o := 0) (v := .string ((List.take (((((partsB 10 s).length : Nat) : Int) - 1 : Int).toNat) (partsB 10 s))[k]!)) (by kernel_rfl))) .nil))) fun b64 => ?_
      refine OPS.nil (thn_n ?_)
      exact ⟨decide (¬ ((lineV x42) = ((List.take (((((partsB 10 s).length : Nat) : Int) - 1 : Int).toNat) (partsB 10 s))[k]!))), trivial, Bp.of Bp.dec (by first | (simp [h60]; done) | grind | (simp_all; done)), by kernel_rfl, hp56⟩
     ·refine oP 0 [5, 6, 7, 8, 9, 46] [.slice a7 (((((partsB 10 s).length : Nat) : Int) - 1 : Int).toNat) c9, .slice ao no co, iI (k : Int), pP g48, .string (lineV x42), .bool (decide (¬ ((chkI x42) = 0)))] fun b61 => ?_
      refine OPS.re [.slice a7 (((((partsB 10 s).length : Nat) : Int) - 1 : Int).toNat) c9, .slice ao no co, iI (k : Int), pP g48, .string (lineV x42), bT] (by rw [show (decide (¬ ((chkI x42) = 0))) = true from Bp.dec.tt h60]) ?_
      refine oQ 7 { wraps := [53] } [] [5, 6, 7, 8, 53] [.slice a7 (((((partsB 10 s).length : Nat) : Int) - 1 : Int).toNat) c9, .slice ao no co, iI (k : Int), pP g48, bT] .nil fun b62 => ?_
      refine OPS.nil (thn_n ?_)
      exact ⟨true, trivial, Bp.of Bp.t (by first | (simp [h60]; done) | grind | (simp_all; done)), by kernel_rfl, hp56⟩
    rintro e67 w68 ⟨x65, hd70, hb66, hE71, hp69⟩
    obtain ⟨b72, rfl⟩ := toMk hE71
    clear hE71
    clear hd70
    refine WP.test (p := ((¬ ((chkI x42) = 0))) ∨ (((chkI x42) = 0) ∧ (¬ ((lineV x42) = ((List.take (((((partsB 10 s).length : Nat) : Int) - 1 : Int).toNat) (partsB 10 s))[k]!))))) rfl hb66 (fun h73 => ?_) (fun h73 => ?_)
    ·refine WP.seq (wP [2, 3, 4] [nS, iI (k : Int), iI 82] fun b74 => ?_)
     refine thn_n (WP.ret (thn_r ?_))
     refine blk_r ?_
     refine thn_r (thn_r ?_)
     refine blk_r ?_
     refine thn_r ?_
     refine bodyQ.of _ rfl [nS, iI (k : Int), iI 82] ⟨rfl, rfl, rfl, trivial⟩ ?_
     exact ⟨none, 0, 0, [], fun _ => False, [], _, _, rfl, .inr (.inl ⟨by omega, rfl, rfl, k, by omega, rfl, by rw [hlb]; exact loo_no hq44 h73, fun i hi => ps_lines pc (by omega) hi⟩), ((hp69.nil.svNil).nilOwn 31 6)⟩
    ·refine WP.skip (thn_n (wR (oQ 2 {} [GStep.val s41] [5, 7, 55, 56] [.slice a7 (((((partsB 10 s).length : Nat) : Int) - 1 : Int).toNat) c9, iI (k : Int), .slice ao no co, GStep.val s41] (.cons (lN 31 0 [iI s41.Kind, iI s41.A, iI s41.B, .string s41.Key, .slice s41.Value.a s41.Value.n s41.Value.c, .slice s41.L.a s41.L.n s41.L.c] hp69.get0) .nil) fun b75 => ?_)))
     refine OPS.cons (opStep.buildSlice (E := 31) hp69 [iI s41.Kind, iI s41.A, iI s41.B, .string s41.Key, .slice s41.Value.a s41.Value.n s41.Value.c, .slice s41.L.a s41.L.n s41.L.c] (by kernel_rfl) (fun g78 w76 hp77 => ?_))
     refine OPS.cons (opStep.append3 [iI s41.Kind, iI s41.A, iI s41.B, .string s41.Key, .slice s41.Value.a s41.Value.n s41.Value.c, .slice s41.L.a s41.L.n s41.L.c] hp77 88 (by kernel_rfl) rfl rfl rfl (SlR.row (n := 1) hp77.get0 rfl).rd (List.all_eq_true.1 (by kernel_rfl)) (by decide) (by omega) (by omega) (fun a81 c82 w83 hp84 hn85 => ?_))
     rw [(show List.flatMap GStep.cells cl ++ [iI s41.Kind, iI s41.A, iI s41.B, .string s41.Key, .slice s41.Value.a s41.Value.n s41.Value.c, .slice s41.L.a s41.L.n s41.L.c] = List.flatMap GStep.cells (cl ++ [s41]) from (List.flatMap_append (xs := cl) (ys := [s41])).symm)] at hp84
     refine oP 1 [5, 6, 7] [.slice a7 (((((partsB 10 s).length : Nat) : Int) - 1 : Int).toNat) c9, .slice a81 (no + 1) c82, iI (k : Int)] fun b86 => ?_
     refine OPS.nil (blk_n (thn_n (wQ {} [] [5, 6, 7] [.slice a7 (((((partsB 10 s).length : Nat) : Int) - 1 : Int).toNat) c9, .slice a81 (no + 1) c82, iI ((k : Int) + 1)] (.cons (show Rng .i64 ((k : Int) + 1) from Rng.i64 (by omega)) .nil) fun b87 => ?_)))
     refine thn_n ?_
     have hp88 := hp84.pull2
     have hp89 := hp88.pull4
     have hp90 := hp89.pull1
     have hp91 := hp90.svPush
     exact ⟨(linesB s).length - (k + 1), (by omega), k + 1, fun k => F k ∨ F43 k, cl ++ [s41], xs ++ [x42], a81, no + 1, c82, rfl, ⟨by omega, by rw [List.length_append, List.length_append]; simp only [List.length_singleton]; omega, prs_step (by omega) pc (by rw [hlb]; exact loo_yes hq44 h73)⟩, by kernel_rfl, ((((hp91.pull4).pull1).pull4).sub (.cons_cons _ (.cons_cons _ (.cons_cons _ (.cons _ (.cons _ (.slnil)))))))⟩
   ·refine WP.exit (thn_x (thn_x (blk_hit (thn_n (WP.seq (wP [2, 3, 4] [.slice ao no co, iI 0, iI 0] fun b92 => ?_))))))
    refine thn_n (WP.ret ?_)
    refine bodyQ.of _ rfl [.slice ao no co, iI 0, iI 0] ⟨rfl, rfl, rfl, trivial⟩ ?_
    obtain rfl : k = (linesB s).length := by omega
    exact ⟨_, _, _, _, _, _, _, _, rfl, .inr (.inr ⟨by omega, rfl, rfl, by rw [pc.1, List.take_of_length_le (Nat.le_refl _)], pc.2⟩), (hp26.sub (.cons_cons _ (.cons_cons _ (.cons _ (.slnil)))))⟩
 ·refine WP.skip (thn_n (WP.seq (WP.seq ?_)))
  have hti : ((((partsB 10 s).length : Nat) : Int) - 1 : Int).toNat = (partsB 10 s).length - 1 := by omega
  have hlb : linesB s = partsB 10 s := lines_last.2 (by have h_ := h15; rw [hti] at h_; exact h_)
  have hll := congrArg List.length hlb
  refine wP [5, 27] [.slice a7 ((partsB 10 s).length) c9, .bool (decide (4096 < (((partsB 10 s).length : Nat) : Int)))] fun b93 => ?_
  refine thn_n ?_
  refine WP.test (p := 4096 < (((partsB 10 s).length : Nat) : Int)) rfl Bp.dec (fun h94 => ?_) (fun h94 => ?_)
  ·refine WP.seq (wP [2, 3, 4] [nS, iI 0, iI 2] fun b95 => ?_)
   refine thn_n (WP.ret (thn_r ?_))
   refine bodyQ.of _ rfl [nS, iI 0, iI 2] ⟨rfl, rfl, rfl, trivial⟩ ?_
   exact ⟨none, 0, 0, [], fun _ => False, [], _, _, rfl, .inl ⟨by have h_ := h94; omega, rfl, rfl, rfl⟩, ((hp10.nil.svNil).nilOwn 31 6)⟩
  ·refine WP.skip (thn_n (WP.seq (wP [5, 6] [.slice a7 ((partsB 10 s).length) c9, nS] fun b96 => ?_)))
   refine thn_n (WP.seq (WP.seq (wP [5, 6, 7] [.slice a7 ((partsB 10 s).length) c9, nS, iI 0] fun b97 => ?_)))
   refine thn_n (WP.block ?_)
   have hp99 := hp10.svNil
   have hp98 := (show Hp w Non [Res.own 31 6 (nS) 0 (List.flatMap GStep.cells ([] : List GStep)), Res.sv (fun _ => False) [] [], Res.own 9 1 (.slice a7 ((partsB 10 s).length) c9) ((partsB 10 s).length) (List.flatMap strc (partsB 10 s))] w5 from hp99.nilOwn 31 6)
   refine WP.loop (fun mz_ e100 w101 => ∃ (k : Nat) (F : Nat → Prop) (cl : List GStep) (xs : List StepP) (ao : Option Addr) (no : Nat) (co : Nat), mz_ = (linesB s).length - k ∧ (k ≤ (linesB s).length ∧ (cl.length = k ∧ xs.length = k) ∧ PsI s xs k) ∧ List.map e100 [5, 6, 7] = [.slice a7 ((partsB 10 s).length) c9, .slice ao no co, iI (k : Int)] ∧ Hp w Non [Res.own 31 6 (.slice ao no co) no (List.flatMap GStep.cells cl), Res.sv F cl xs, Res.own 9 1 (.slice a7 ((partsB 10 s).length) c9) ((partsB 10 s).length) (List.flatMap strc (partsB 10 s))] w101) ((linesB s).length - (0)) ⟨0, (fun _ => False), [], [], none, 0, 0, rfl, ⟨Nat.zero_le _, ⟨rfl, rfl⟩, ⟨by simp, fun x hx => by cases hx⟩⟩, by kernel_rfl, hp98⟩ ?_
   rintro _ e100 w101 ⟨k, F, cl, xs, ao, no, co, rfl, hI103, hE104, hp102⟩
   obtain ⟨b105, rfl⟩ := toMk hE104
   clear hE104
   obtain ⟨pa, pb, pc⟩ := hI103
   have pe := own_flat (f := GStep.cells) (sz := 6) (fun _ => rfl) (by decide) hp102.get0
   refine WP.seq (WP.seq (wP [5, 6, 7, 31] [.slice a7 ((partsB 10 s).length) c9, .slice ao no co, iI (k : Int), .bool (decide ((k : Int) < (((partsB 10 s).length : Nat) : Int)))] fun b106 => ?_))
   refine thn_n ?_
   refine WP.test (p := (k : Int) < (((partsB 10 s).length : Nat) : Int)) rfl Bp.dec (fun h107 => ?_) (fun h107 => ?_)
   ·refine WP.skip (thn_n (WP.seq (WP.block (WP.seq (wR ?_)))))
    have hy111 : ((partsB 10 s))[k]? = some (partsB 10 s)[k]! := get_bang (by first | (omega) | (simp only [List.length_append, List.length_cons, List.length_nil]; omega) | (simp only [List.length_take, List.length_append, List.length_cons, List.length_nil]; omega))
    refine oQ 4 {} [.string ((partsB 10 s)[k]!)] [5, 6, 7, 37] [.slice a7 ((partsB 10 s).length) c9, .slice ao no co, iI (k : Int), .string ((partsB 10 s)[k]!)] (.cons (show InB ((k : Int)) ((partsB 10 s).length) from ⟨by omega, by omega⟩) (.cons ((SlR.own hp102.get2).some (by omega)) (.cons (Ld.add0 (Ld.el1 (P := Tryd.prog) (t := 9) (SlR.own hp102.get2).rd 1 (fun _ => rfl) hy111 (o := 0) (v := .string ((partsB 10 s)[k]!)) (by kernel_rfl))) .nil))) fun b112 => ?_
    refine OPS.cons (opStep.call (some 38) [.string ((partsB 10 s)[k]!)] (by kernel_rfl) (rf_loose ((partsB 10 s)[k]!) (Nat.le_trans (hlz _ (List.mem_of_getElem? (get_bang (by omega)))) (by decide)) _ (row_at hwd hp102.fr)) ?_)
    rintro _ w115 ⟨s117, x118, F119, rfl, hq120, hp116⟩
    refine ⟨_, rfl, ?_⟩
    have hp121 := hp102.madeQ hp116
    simp only [List.cons_append, List.nil_append] at hp121
    refine OPS.cons (opStep.alloc hp121 [iI 0, iI 0, iI 0, .string ByteArray.empty, nS, nS] (by kernel_rfl) (fun g124 w122 hp123 => ?_))
    refine OPS.cons (opStep.store0 hp123 rfl [iI s117.Kind, iI s117.A, iI s117.B, .string s117.Key, .slice s117.Value.a s117.Value.n s117.Value.c, .slice s117.L.a s117.L.n s117.L.c] [iI s117.Kind, iI s117.A, iI s117.B, .string s117.Key, .slice s117.Value.a s117.Value.n s117.Value.c, .slice s117.L.a s117.L.n s117.L.c] (by kernel_rfl) (fun w125 hp126 => ?_))
    refine OPS.nil (thn_n (WP.seq (wR (oQ 1 {} [GStep.val s117] [5, 6, 7, 8, 40] [.slice a7 ((partsB 10 s).length) c9, .slice ao no co, iI (k : Int), pP g124, GStep.val s117] (.cons (lN 31 0 [iI s117.Kind, iI s117.A, iI s117.B, .string s117.Key, .slice s117.Value.a s117.Value.n s117.Value.c, .slice s117.L.a s117.L.n s117.L.c] hp126.get0) .nil) fun b127 => ?_))))
    have hsm_ : smS x118 := loo_sm hq120 (hlz _ (List.mem_of_getElem? (get_bang (by omega))))
    refine OPS.cons (opStep.call (some 41) [GStep.val s117] (by kernel_rfl) (rf_Line s117 x118 _ (row_at hwd hp126.fr) ((hp126.get1.2 0 (by simp)).wide fun _ _ => trivial) hsm_) ?_)
    rintro _ w130 ⟨rfl, hf131⟩
    refine ⟨_, rfl, ?_⟩
    have hp132 := hp126.step hf131
    refine oP 5 [5, 6, 7, 8, 9, 10] [.slice a7 ((partsB 10 s).length) c9, .slice ao no co, iI (k : Int), pP g124, .string (lineV x118), iI (chkI x118)] fun b133 => ?_
    refine OPS.nil (thn_n (WP.seq ?_))
    refine WP.cut (fun e143 w144 => ∃ (x141 : Bool), (True) ∧ Bp x141 (((¬ ((chkI x118) = 0))) ∨ (((chkI x118) = 0) ∧ (¬ ((lineV x118) = ((partsB 10 s)[k]!))))) ∧ List.map e143 [5, 6, 7, 8, 53] = [.slice a7 ((partsB 10 s).length) c9, .slice ao no co, iI (k : Int), pP g124, .bool x141] ∧ Hp w Non [Res.row g124 [iI s117.Kind, iI s117.A, iI s117.B, .string s117.Key, .slice s117.Value.a s117.Value.n s117.Value.c, .slice s117.L.a s117.L.n s117.L.c] 31, Res.sv F119 [s117] [x118], Res.own 31 6 (.slice ao no co) no (List.flatMap GStep.cells cl), Res.sv F cl xs, Res.own 9 1 (.slice a7 ((partsB 10 s).length) c9) ((partsB 10 s).length) (List.flatMap strc (partsB 10 s))] w144) ?_ ?_
    ·refine wR (oP 3 [5, 6, 7, 8, 9, 46] [.slice a7 ((partsB 10 s).length) c9, .slice ao no co, iI (k : Int), pP g124, .string (lineV x118), .bool (decide (¬ ((chkI x118) = 0)))] fun b135 => ?_)
     by_cases h136 : (chkI x118) = 0
     ·refine oP 0 [5, 6, 7, 8, 9, 46] [.slice a7 ((partsB 10 s).length) c9, .slice ao no co, iI (k : Int), pP g124, .string (lineV x118), .bool (decide (¬ ((chkI x118) = 0)))] fun b139 => ?_
      refine OPS.re [.slice a7 ((partsB 10 s).length) c9, .slice ao no co, iI (k : Int), pP g124, .string (lineV x118), bF] (by rw [show (decide (¬ ((chkI x118) = 0))) = false from Bp.dec.ff (fun k => k h136)]) ?_
      refine oQ 7 { wraps := [53] } [.string ((partsB 10 s)[k]!)] [5, 6, 7, 8, 53] [.slice a7 ((partsB 10 s).length) c9, .slice ao no co, iI (k : Int), pP g124, .bool (decide (¬ ((lineV x118) = ((partsB 10 s)[k]!))))] (.cons (show InB ((k : Int)) ((partsB 10 s).length) from ⟨by omega, by omega⟩) (.cons ((SlR.own hp132.get4).some (by omega)) (.cons (Ld.add0 (Ld.el1 (P := Tryd.prog) (t := 9) (SlR.own hp132.get4).rd 1 (fun _ => rfl) hy111 (o := 0) (v := .string ((partsB 10 s)[k]!)) (by kernel_rfl))) .nil))) fun b140 => ?_
      refine OPS.nil (thn_n ?_)
      exact ⟨decide (¬ ((lineV x118) = ((partsB 10 s)[k]!))), trivial, Bp.of Bp.dec (by first | (simp [h136]; done) | grind | (simp_all; done)), by kernel_rfl, hp132⟩
     ·refine oP 0 [5, 6, 7, 8, 9, 46] [.slice a7 ((partsB 10 s).length) c9, .slice ao no co, iI (k : Int), pP g124, .string (lineV x118), .bool (decide (¬ ((chkI x118) = 0)))] fun b137 => ?_
      refine OPS.re [.slice a7 ((partsB 10 s).length) c9, .slice ao no co, iI (k : Int), pP g124, .string (lineV x118), bT] (by rw [show (decide (¬ ((chkI x118) = 0))) = true from Bp.dec.tt h136]) ?_
      refine oQ 7 { wraps := [53] } [] [5, 6, 7, 8, 53] [.slice a7 ((partsB 10 s).length) c9, .slice ao no co, iI (k : Int), pP g124, bT] .nil fun b138 => ?_
      refine OPS.nil (thn_n ?_)
      exact ⟨true, trivial, Bp.of Bp.t (by first | (simp [h136]; done) | grind | (simp_all; done)), by kernel_rfl, hp132⟩
    rintro e143 w144 ⟨x141, hd146, hb142, hE147, hp145⟩
    obtain ⟨b148, rfl⟩ := toMk hE147
    clear hE147
    clear hd146
    refine WP.test (p := ((¬ ((chkI x118) = 0))) ∨ (((chkI x118) = 0) ∧ (¬ ((lineV x118) = ((partsB 10 s)[k]!))))) rfl hb142 (fun h149 => ?_) (fun h149 => ?_)
    ·refine WP.seq (wP [2, 3, 4] [nS, iI (k : Int), iI 82] fun b150 => ?_)
     refine thn_n (WP.ret (thn_r ?_))
     refine blk_r ?_
     refine thn_r (thn_r ?_)
     refine blk_r ?_
     refine thn_r ?_
     refine bodyQ.of _ rfl [nS, iI (k : Int), iI 82] ⟨rfl, rfl, rfl, trivial⟩ ?_
     exact ⟨none, 0, 0, [], fun _ => False, [], _, _, rfl, .inr (.inl ⟨by omega, rfl, rfl, k, by omega, rfl, by rw [hlb]; exact loo_no hq120 h149, fun i hi => ps_lines pc (by omega) hi⟩), ((hp145.nil.svNil).nilOwn 31 6)⟩
    ·refine WP.skip (thn_n (wR (oQ 2 {} [GStep.val s117] [5, 7, 55, 56] [.slice a7 ((partsB 10 s).length) c9, iI (k : Int), .slice ao no co, GStep.val s117] (.cons (lN 31 0 [iI s117.Kind, iI s117.A, iI s117.B, .string s117.Key, .slice s117.Value.a s117.Value.n s117.Value.c, .slice s117.L.a s117.L.n s117.L.c] hp145.get0) .nil) fun b151 => ?_)))
     refine OPS.cons (opStep.buildSlice (E := 31) hp145 [iI s117.Kind, iI s117.A, iI s117.B, .string s117.Key, .slice s117.Value.a s117.Value.n s117.Value.c, .slice s117.L.a s117.L.n s117.L.c] (by kernel_rfl) (fun g154 w152 hp153 => ?_))
     refine OPS.cons (opStep.append3 [iI s117.Kind, iI s117.A, iI s117.B, .string s117.Key, .slice s117.Value.a s117.Value.n s117.Value.c, .slice s117.L.a s117.L.n s117.L.c] hp153 88 (by kernel_rfl) rfl rfl rfl (SlR.row (n := 1) hp153.get0 rfl).rd (List.all_eq_true.1 (by kernel_rfl)) (by decide) (by omega) (by omega) (fun a157 c158 w159 hp160 hn161 => ?_))
     rw [(show List.flatMap GStep.cells cl ++ [iI s117.Kind, iI s117.A, iI s117.B, .string s117.Key, .slice s117.Value.a s117.Value.n s117.Value.c, .slice s117.L.a s117.L.n s117.L.c] = List.flatMap GStep.cells (cl ++ [s117]) from (List.flatMap_append (xs := cl) (ys := [s117])).symm)] at hp160
     refine oP 1 [5, 6, 7] [.slice a7 ((partsB 10 s).length) c9, .slice a157 (no + 1) c158, iI (k : Int)] fun b162 => ?_
     refine OPS.nil (blk_n (thn_n (wQ {} [] [5, 6, 7] [.slice a7 ((partsB 10 s).length) c9, .slice a157 (no + 1) c158, iI ((k : Int) + 1)] (.cons (show Rng .i64 ((k : Int) + 1) from Rng.i64 (by omega)) .nil) fun b163 => ?_)))
     refine thn_n ?_
     have hp164 := hp160.pull2
     have hp165 := hp164.pull4
     have hp166 := hp165.pull1
     have hp167 := hp166.svPush
     exact ⟨(linesB s).length - (k + 1), (by omega), k + 1, fun k => F k ∨ F119 k, cl ++ [s117], xs ++ [x118], a157, no + 1, c158, rfl, ⟨by omega, by rw [List.length_append, List.length_append]; simp only [List.length_singleton]; omega, prs_step (by omega) pc (by rw [hlb]; exact loo_yes hq120 h149)⟩, by kernel_rfl, ((((hp167.pull4).pull1).pull4).sub (.cons_cons _ (.cons_cons _ (.cons_cons _ (.cons _ (.cons _ (.slnil)))))))⟩
   ·refine WP.exit (thn_x (thn_x (blk_hit (thn_n (WP.seq (wP [2, 3, 4] [.slice ao no co, iI 0, iI 0] fun b168 => ?_))))))
    refine thn_n (WP.ret ?_)
    refine bodyQ.of _ rfl [.slice ao no co, iI 0, iI 0] ⟨rfl, rfl, rfl, trivial⟩ ?_
    obtain rfl : k = (linesB s).length := by omega
    exact ⟨_, _, _, _, _, _, _, _, rfl, .inr (.inr ⟨by omega, rfl, rfl, by rw [pc.1, List.take_of_length_le (Nat.le_refl _)], pc.2⟩), (hp102.sub (.cons_cons _ (.cons_cons _ (.cons _ (.slnil)))))⟩

end Go.Proofs.YtbpedjefoajegaaDoor.K
namespace Go.Proofs.YtbpedjefoajegaaDoor.K
open Go Go.Proofs Go.RowKit
set_option linter.unusedVariables false
set_option linter.unusedSimpArgs false
set_option maxRecDepth 20000
set_option maxHeartbeats 4000000

theorem rf_Text2 (cl : List GStep) (xs : List StepP) (a : Option Addr) (n c : Nat) (t : ByteArray) (e : Int) (ht : TxtR xs t e) (w : World) (hwd : (Res.row 1 wordsC 65).holds w) (hn : n = cl.length) (hb : cl.length ≤ 8796093022207) (hsl : SlR w a n (cl.flatMap GStep.cells)) (hst : StL w Tr cl xs) (hsm : ∀ x ∈ xs, smS x) (hT : ∀ x ∈ xs, (lineS x).size ≤ 34359738366) :
    Calls Tryd.prog 15 #[.slice a n c] w (fun r_ w' => r_ = .returned (.tuple #[.string t, .int .i64 e]) ∧ Fram Non w w') :=
  (rf_Text cl xs a n c w hwd hn hb hsl hst hsm hT).mono fun _ _ h => by
    obtain ⟨t', e', rfl, hq, hf⟩ := h
    obtain ⟨q1, q2⟩ := ht.one hq
    exact ⟨by rw [q1, q2], hf⟩
theorem rf_Config2 (s : ByteArray) (hs : s.size ≤ 1048576) (c : GConfig) (n e : Int) (hc : ConfR s c n e) (w : World) :
    Calls Tryd.prog 20 #[.string s] w (fun r_ w' => r_ = .returned (.tuple #[GConfig.val c, .int .i64 n, .int .i64 e]) ∧ Fram Non w w') :=
  (rf_Config s hs w).mono fun _ _ h => by
    obtain ⟨c', n', e', rfl, hq, hf⟩ := h
    obtain ⟨q1, q2, q3⟩ := hc.one hq
    exact ⟨by rw [q1, q2, q3], hf⟩
theorem sc_Parse2 (s : ByteArray) (hs : s.size ≤ 1048576) (xs : List StepP) (m e : Int) (hp : PrsR s xs m e) (w : World) (hls : LibS w) :
    Calls Tryd.prog 9 #[.string s] w (fun r_ w' => ∃ a nn c cl F, r_ = .returned (.tuple #[.slice a nn c, .int .i64 m, .int .i64 e]) ∧ Hp w Non [Res.own 31 6 (.slice a nn c) nn (cl.flatMap GStep.cells), Res.so F cl xs] w') :=
  (sc_Parse s (by omega) (fun x hx => Nat.le_trans (linesB_size hx) (by omega)) w hls).mono fun _ _ h => by
    obtain ⟨a, nn, c, cl, F, xs', m', e', rfl, hq, hh⟩ := h
    obtain ⟨q1, q2, q3⟩ := hp.one hq
    subst q1
    exact ⟨a, nn, c, cl, F, by rw [q2, q3], hh⟩
theorem ScriptAll (cl : List GStep) (xs : List StepP) (a : Option Addr) (n c : Nat) (text : ByteArray) (hts : text.size ≤ 1048576) (w : World) (hls : LibS w) (hwd : (Res.row 1 wordsC 65).holds w) (hn : n = cl.length) (hb : cl.length ≤ 1048576) (hsl : SlR w a n (cl.flatMap GStep.cells)) (hst : StL w Tr cl xs) (hsm : ∀ x ∈ xs, smS x) (hT : ∀ x ∈ xs, (lineS x).size ≤ 34359738) (hvs : ∀ i, i < xs.length → xs[i]!.Value.size ≤ 1099511627776 ∧ xs[i]!.L.length ≤ 1099511627776) :
  Calls Tryd.prog 5 #[.slice a n c, .string text] w (fun x w' => x = .returned (.bool true) ∧ Fram Non w w') := by
 have hxl := hst.1
 refine calls_of Tryd.func5 rfl 183 rfl (by simp) ?_
 have hp0 := Hp.init w
 have he0 : List.map (env0 [.slice a n c, .string text]) [0, 1] = [.slice a n c, .string text] := by kernel_rfl
 obtain ⟨b0, he0⟩ := toMk he0
 rw [he0]
 clear he0
 refine WP.seq (wP [0, 1] [.slice a n c, .string text] fun b1 => ?_)
 refine thn_n (WP.seq (wR (oP 1 [0, 1, 24] [.slice a n c, .string text, .slice a n c] fun b2 => ?_)))
 refine OPS.cons (opStep.call (some 25) [.slice a n c] (by kernel_rfl) (ow_steps cl xs a n c _ hn (by omega) (SlR.fram hsl hp0.fr) (hst.fram hp0.fr) hvs) ?_)
 rintro _ w5 ⟨ga, gc, c2, F, rfl, hp6⟩
 refine ⟨_, rfl, ?_⟩
 have hp7 := hp0.madeQ hp6
 simp only [List.cons_append, List.nil_append] at hp7
 have hgc := own_cap hp7.get0
 have hgn := own_flat (f := GStep.cells) (sz := 6) (fun _ => rfl) (by decide) hp7.get0
 rw [List.length_append, List.length_singleton] at hgn
 have hc2n : c2.length = n := by omega
 refine oP 1 [0, 1, 5] [.slice a n c, .string text, .slice ga n gc] fun b8 => ?_
 refine OPS.nil (thn_n (WP.seq (WP.seq (wP [0, 1, 5, 6] [.slice a n c, .string text, .slice ga n gc, iI 0] fun b9 => ?_))))
 refine thn_n (WP.block ?_)
 refine WP.loop (fun mz_ e10 w11 => ∃ (k : Nat), mz_ = n - k ∧ (k ≤ n) ∧ List.map e10 [0, 1, 5, 6] = [.slice a n c, .string text, .slice ga n gc, iI (k : Int)] ∧ Hp w Non [Res.own 31 6 (.slice ga (n + 1) gc) (n + 1) (List.flatMap GStep.cells (c2 ++ [mkS])), Res.kp F c2 xs] w11) (n - (0)) ⟨0, rfl, (Nat.zero_le _), by kernel_rfl, hp7⟩ ?_
 rintro _ e10 w11 ⟨k, rfl, hI13, hE14, hp12⟩
 obtain ⟨b15, rfl⟩ := toMk hE14
 clear hE14
 obtain pa := hI13
 refine WP.seq (WP.seq (wP [0, 1, 5, 6, 29] [.slice a n c, .string text, .slice ga n gc, iI (k : Int), .bool (decide ((k : Int) < ((n : Nat) : Int)))] fun b16 => ?_))
 refine thn_n ?_
 refine WP.test (p := (k : Int) < ((n : Nat) : Int)) rfl Bp.dec (fun h17 => ?_) (fun h17 => ?_)
 ·refine WP.skip (thn_n (WP.seq (WP.block (WP.seq (wR ?_)))))
  have hy21 : (c2)[k]? = some c2[k]! := get_bang (by first | (omega) | (simp only [List.length_append, List.length_cons, List.length_nil]; omega) | (simp only [List.length_take, List.length_append, List.length_cons, List.length_nil]; omega))
  refine oQ 4 {} [GStep.val (c2[k]!)] [0, 1, 5, 6, 36] [.slice a n c, .string text, .slice ga n gc, iI (k : Int), GStep.val (c2[k]!)] (.cons (show InB ((k : Int)) (n) from ⟨by omega, by omega⟩) (.cons ((gv_front (SlR.own hp12.get0) hc2n).some (by omega)) (.cons (Ld.add0 (Ld.elN (P := Tryd.prog) (t := 31) (gv_front (SlR.own hp12.get0) hc2n).rd 6 (fun _ => rfl) hy21 (o := 0) (cs := [iI (c2[k]!.Kind), iI (c2[k]!.A), iI (c2[k]!.B), .string (c2[k]!.Key), .slice (c2[k]!.Value.a) (c2[k]!.Value.n) (c2[k]!.Value.c), .slice (c2[k]!.L.a) (c2[k]!.L.n) (c2[k]!.L.c)]) (by kernel_rfl))) .nil))) fun b22 => ?_
  refine OPS.cons (opStep.call (some 37) [GStep.val (c2[k]!)] (by kernel_rfl) (sc_Line c2[k]! xs[k]! _ (hls.fram hp12.fr) (((hp12.get1).2 k (by omega)).str.wide fun _ _ => trivial) (hsm _ (List.mem_of_getElem? (get_bang (by omega))))) ?_)
  rintro _ w25 ⟨rfl, hf26⟩
  refine ⟨_, rfl, ?_⟩
  have hp27 := hp12.step hf26
  refine oP 5 [0, 1, 5, 6, 7, 8] [.slice a n c, .string text, .slice ga n gc, iI (k : Int), .string (lineV xs[k]!), iI (chkI xs[k]!)] fun b28 => ?_
  refine OPS.nil (thn_n (WP.seq (wR ?_)))
  have hy32 : (cl)[k]? = some cl[k]! := get_bang (by first | (omega) | (simp only [List.length_append, List.length_cons, List.length_nil]; omega) | (simp only [List.length_take, List.length_append, List.length_cons, List.length_nil]; omega))
  refine oQ 4 {} [GStep.val (cl[k]!)] [0, 1, 5, 6, 7, 8, 44] [.slice a n c, .string text, .slice ga n gc, iI (k : Int), .string (lineV xs[k]!), iI (chkI xs[k]!), GStep.val (cl[k]!)] (.cons (show InB ((k : Int)) (n) from ⟨by omega, by omega⟩) (.cons ((hsl.at hp27).some (by omega)) (.cons (Ld.add0 (Ld.elN (P := Tryd.prog) (t := 31) (hsl.at hp27).rd 6 (fun _ => rfl) hy32 (o := 0) (cs := [iI (cl[k]!.Kind), iI (cl[k]!.A), iI (cl[k]!.B), .string (cl[k]!.Key), .slice (cl[k]!.Value.a) (cl[k]!.Value.n) (cl[k]!.Value.c), .slice (cl[k]!.L.a) (cl[k]!.L.n) (cl[k]!.L.c)]) (by kernel_rfl))) .nil))) fun b33 => ?_
  refine OPS.cons (opStep.call (some 45) [GStep.val (cl[k]!)] (by kernel_rfl) (rf_Line cl[k]! xs[k]! _ (row_at hwd hp27.fr) ((hst.2 k (by omega)).fram hp27.fr) (hsm _ (List.mem_of_getElem? (get_bang (by omega))))) ?_)
  rintro _ w36 ⟨rfl, hf37⟩
  refine ⟨_, rfl, ?_⟩
  have hp38 := hp27.step hf37
  refine oP 5 [0, 1, 5, 6, 7, 8, 9, 10] [.slice a n c, .string text, .slice ga n gc, iI (k : Int), .string (lineV xs[k]!), iI (chkI xs[k]!), .string (lineV xs[k]!), iI (chkI xs[k]!)] fun b39 => ?_
  refine OPS.nil (thn_n (WP.seq ?_))
  have hp42 := hp38.drew
  refine WP.quiet (fun w40 => Hp w Non [Res.own 31 6 (.slice ga (n + 1) gc) (n + 1) (List.flatMap GStep.cells (c2 ++ [mkS])), Res.kp F c2 xs] w40) (by kernel_rfl) hp42 ?_
  have hnehp42 : ∃ wz_, (fun w40 => Hp w Non [Res.own 31 6 (.slice ga (n + 1) gc) (n + 1) (List.flatMap GStep.cells (c2 ++ [mkS])), Res.kp F c2 xs] w40) wz_ := ⟨_, hp42⟩
  refine QOPS.batch 13 { wraps := [55], subs := [50, 54] } [bF, bF, GStep.val (c2[k]!)] [0, 1, 5, 6, 56, 60] [.slice a n c, .string text, .slice ga n gc, iI (k : Int), bF, GStep.val (c2[k]!)] hnehp42 (fun w43 hp44 => QB.mk (.cons (show (.bool (decide (¬ ((lineV xs[k]!) = (lineV xs[k]!)))) : Go.Value) = bF from congrArg Value.bool (decide_eq_false (fun q_ => q_ rfl))) (.cons (show (.bool (decide (¬ ((chkI xs[k]!) = (chkI xs[k]!)))) : Go.Value) = bF from congrArg Value.bool (decide_eq_false (fun q_ => q_ rfl))) (.cons (show InB ((k : Int)) (n) from ⟨by omega, by omega⟩) (.cons ((gv_front (SlR.own hp44.get0) hc2n).some (by omega)) (.cons (Ld.add0 (Ld.elN (P := Tryd.prog) (t := 31) (gv_front (SlR.own hp44.get0) hc2n).rd 6 (fun _ => rfl) hy21 (o := 0) (cs := [iI (c2[k]!.Kind), iI (c2[k]!.A), iI (c2[k]!.B), .string (c2[k]!.Key), .slice (c2[k]!.Value.a) (c2[k]!.Value.n) (c2[k]!.Value.c), .slice (c2[k]!.L.a) (c2[k]!.L.n) (c2[k]!.L.c)]) (by kernel_rfl))) .nil))))) (by kernel_rfl)) (fun b45 => ?_)
  refine QOPS.call (some 61) [GStep.val (c2[k]!)] (by kernel_rfl) (fun w46 hp47 => (sc_Check c2[k]! xs[k]! _ (hls.fram hp47.fr) (((hp47.get1).2 k (by omega)).str.wide fun _ _ => trivial)).mono fun _ _ h => ⟨h.1, hp47.step h.2⟩) ?_
  refine QOPS.batch 4 {} [GStep.val (cl[k]!)] [0, 1, 5, 6, 56, 61, 65] [.slice a n c, .string text, .slice ga n gc, iI (k : Int), bF, iI (chkI xs[k]!), GStep.val (cl[k]!)] hnehp42 (fun w48 hp49 => QB.mk (.cons (show InB ((k : Int)) (n) from ⟨by omega, by omega⟩) (.cons ((hsl.at hp49).some (by omega)) (.cons (Ld.add0 (Ld.elN (P := Tryd.prog) (t := 31) (hsl.at hp49).rd 6 (fun _ => rfl) hy32 (o := 0) (cs := [iI (cl[k]!.Kind), iI (cl[k]!.A), iI (cl[k]!.B), .string (cl[k]!.Key), .slice (cl[k]!.Value.a) (cl[k]!.Value.n) (cl[k]!.Value.c), .slice (cl[k]!.L.a) (cl[k]!.L.n) (cl[k]!.L.c)]) (by kernel_rfl))) .nil))) (by kernel_rfl)) (fun b50 => ?_)
  refine QOPS.call (some 66) [GStep.val (cl[k]!)] (by kernel_rfl) (fun w51 hp52 => (rf_Check cl[k]! xs[k]! _ ((hst.2 k (by omega)).fram hp52.fr)).mono fun _ _ h => ⟨h.1, hp52.step h.2⟩) ?_
  refine QOPS.batch 2 { wraps := [68], subs := [67] } [bF] [0, 1, 5, 6, 68] [.slice a n c, .string text, .slice ga n gc, iI (k : Int), bF] hnehp42 (fun w53 hp54 => QB.mk (.cons (show (.bool (decide (¬ ((chkI xs[k]!) = (chkI xs[k]!)))) : Go.Value) = bF from congrArg Value.bool (decide_eq_false (fun q_ => q_ rfl))) .nil) (by kernel_rfl)) (fun b55 => ?_)
  refine QOPS.nil (fun w56 hp57 => ?_)
  refine thn_n (WP.condF rfl (WP.skip (blk_n (thn_n (wQ {} [] [0, 1, 5, 6] [.slice a n c, .string text, .slice ga n gc, iI ((k : Int) + 1)] (.cons (show Rng .i64 ((k : Int) + 1) from Rng.i64 (by omega)) .nil) fun b58 => ?_)))))
  refine thn_n ?_
  exact ⟨n - (k + 1), (by omega), k + 1, rfl, (by omega), by kernel_rfl, hp57⟩
 ·refine WP.exit (thn_x (thn_x (blk_hit (thn_n (WP.seq (wR (oP 1 [0, 1, 5, 70] [.slice a n c, .string text, .slice ga n gc, .slice ga n gc] fun b59 => ?_)))))))
  refine OPS.cons (opStep.call (some 71) [.slice ga n gc] (by kernel_rfl) (sc_Text c2 xs ga n gc _ (hls.fram hp12.fr) hc2n.symm (by omega) (gv_front (SlR.own hp12.get0) hc2n) (((hp12.get1).stl).tr) hsm (fun x hx => Nat.le_trans (hT x hx) (by decide))) ?_)
  rintro _ w62 ⟨tx, te, rfl, htx, hf63⟩
  refine ⟨_, rfl, ?_⟩
  have hp64 := hp12.step hf63
  refine oP 5 [0, 1, 5, 11, 12] [.slice a n c, .string text, .slice ga n gc, .string tx, iI te] fun b65 => ?_
  refine OPS.nil (thn_n (WP.seq (wR (oP 1 [0, 1, 5, 11, 12, 75] [.slice a n c, .string text, .slice ga n gc, .string tx, iI te, .slice a n c] fun b66 => ?_))))
  refine OPS.cons (opStep.call (some 76) [.slice a n c] (by kernel_rfl) (rf_Text2 cl xs a n c tx te htx _ (row_at hwd hp64.fr) hn (by omega) (SlR.fram hsl hp64.fr) (hst.fram hp64.fr) hsm (fun x hx => Nat.le_trans (hT x hx) (by decide))) ?_)
  rintro _ w69 ⟨rfl, hf70⟩
  refine ⟨_, rfl, ?_⟩
  have hp71 := hp64.step hf70
  refine oP 5 [0, 1, 5, 11, 12, 13, 14] [.slice a n c, .string text, .slice ga n gc, .string tx, iI te, .string tx, iI te] fun b72 => ?_
  refine OPS.nil (thn_n (WP.seq (WP.seq ?_)))
  have hy74 : ((c2 ++ [mkS]))[n]? = some (c2 ++ [mkS])[n]! := get_bang (by first | (omega) | (simp only [List.length_append, List.length_cons, List.length_nil]; omega) | (simp only [List.length_take, List.length_append, List.length_cons, List.length_nil]; omega))
  refine wQ { wraps := [86, 99], subs := [81, 85, 98] } [bF, bF, iI ((c2 ++ [mkS])[n]!.Kind), bF] [0, 1, 5, 99] [.slice a n c, .string text, .slice ga n gc, bF] (.cons (show (.bool (decide (¬ (tx = tx))) : Go.Value) = bF from congrArg Value.bool (decide_eq_false (fun q_ => q_ rfl))) (.cons (show (.bool (decide (¬ (te = te))) : Go.Value) = bF from congrArg Value.bool (decide_eq_false (fun q_ => q_ rfl))) (.cons (show Rng .i64 (((n : Nat) : Int) + 1) from Rng.i64 (by omega)) (.cons (show (0 : Int) ≤ (((n : Nat) : Int) + 1) ∧ (((n : Nat) : Int) + 1) ≤ ((gc : Nat) : Int) from ⟨by omega, by omega⟩) (.cons (show InB (((n : Nat) : Int)) ((((n : Nat) : Int) + 1 : Int).toNat) from ⟨by omega, by omega⟩) (.cons ((gv_all (SlR.own hp71.get0) (by omega)).some (by omega)) (.cons (Ld.add0 (Ld.el1 (P := Tryd.prog) (t := 3) (gv_all (SlR.own hp71.get0) (by omega)).rd 6 (fun _ => rfl) hy74 (o := 0) (v := iI ((c2 ++ [mkS])[n]!.Kind)) (by kernel_rfl))) (.cons (show (.bool (decide (¬ (((c2 ++ [mkS])[n]!.Kind) = (-77)))) : Go.Value) = bF from congrArg Value.bool (decide_eq_false (fun q_ => q_ (gv_mark hc2n)))) .nil)))))))) fun b75 => ?_
  refine thn_n (WP.condF rfl (WP.skip (thn_n (WP.seq (WP.seq (wP [0, 1, 5, 15] [.slice a n c, .string text, .slice ga n gc, iI 0] fun b76 => ?_))))))
  refine thn_n (WP.block ?_)
  refine WP.loop (fun mz_ e77 w78 => ∃ (k : Nat), mz_ = n - k ∧ (k ≤ n) ∧ List.map e77 [0, 1, 5, 15] = [.slice a n c, .string text, .slice ga n gc, iI (k : Int)] ∧ Hp w Non [Res.own 31 6 (.slice ga (n + 1) gc) (n + 1) (List.flatMap GStep.cells (c2 ++ [mkS])), Res.kp F c2 xs] w78) (n - (0)) ⟨0, rfl, (Nat.zero_le _), by kernel_rfl, hp71⟩ ?_
  rintro _ e77 w78 ⟨k, rfl, hI80, hE81, hp79⟩
  obtain ⟨b82, rfl⟩ := toMk hE81
  clear hE81
  obtain pa := hI80
  refine WP.seq (WP.seq (wP [0, 1, 5, 15, 103] [.slice a n c, .string text, .slice ga n gc, iI (k : Int), .bool (decide ((k : Int) < ((n : Nat) : Int)))] fun b83 => ?_))
  refine thn_n ?_
  refine WP.test (p := (k : Int) < ((n : Nat) : Int)) rfl Bp.dec (fun h84 => ?_) (fun h84 => ?_)
  ·refine WP.skip (thn_n (WP.seq (WP.block (WP.seq ?_))))
   have hp87 := hp79.drew
   refine WP.quiet (fun w85 => Hp w Non [Res.own 31 6 (.slice ga (n + 1) gc) (n + 1) (List.flatMap GStep.cells (c2 ++ [mkS])), Res.kp F c2 xs] w85) (by kernel_rfl) hp87 ?_
   have hnehp87 : ∃ wz_, (fun w85 => Hp w Non [Res.own 31 6 (.slice ga (n + 1) gc) (n + 1) (List.flatMap GStep.cells (c2 ++ [mkS])), Res.kp F c2 xs] w85) wz_ := ⟨_, hp87⟩
   have hy91 : (c2)[k]? = some c2[k]! := get_bang (by first | (omega) | (simp only [List.length_append, List.length_cons, List.length_nil]; omega) | (simp only [List.length_take, List.length_append, List.length_cons, List.length_nil]; omega))
   have hy93 : (cl)[k]? = some cl[k]! := get_bang (by first | (omega) | (simp only [List.length_append, List.length_cons, List.length_nil]; omega) | (simp only [List.length_take, List.length_append, List.length_cons, List.length_nil]; omega))
   refine QOPS.batch 8 {} [GStep.val (c2[k]!), GStep.val (cl[k]!)] [0, 1, 5, 15, 109, 113] [.slice a n c, .string text, .slice ga n gc, iI (k : Int), GStep.val (c2[k]!), GStep.val (cl[k]!)] hnehp87 (fun w88 hp89 => QB.mk (.cons (show InB ((k : Int)) (n) from ⟨by omega, by omega⟩) (.cons ((gv_front (SlR.own hp89.get0) hc2n).some (by omega)) (.cons (Ld.add0 (Ld.elN (P := Tryd.prog) (t := 31) (gv_front (SlR.own hp89.get0) hc2n).rd 6 (fun _ => rfl) hy91 (o := 0) (cs := [iI (c2[k]!.Kind), iI (c2[k]!.A), iI (c2[k]!.B), .string (c2[k]!.Key), .slice (c2[k]!.Value.a) (c2[k]!.Value.n) (c2[k]!.Value.c), .slice (c2[k]!.L.a) (c2[k]!.L.n) (c2[k]!.L.c)]) (by kernel_rfl))) (.cons (show InB ((k : Int)) (n) from ⟨by omega, by omega⟩) (.cons ((hsl.at hp89).some (by omega)) (.cons (Ld.add0 (Ld.elN (P := Tryd.prog) (t := 31) (hsl.at hp89).rd 6 (fun _ => rfl) hy93 (o := 0) (cs := [iI (cl[k]!.Kind), iI (cl[k]!.A), iI (cl[k]!.B), .string (cl[k]!.Key), .slice (cl[k]!.Value.a) (cl[k]!.Value.n) (cl[k]!.Value.c), .slice (cl[k]!.L.a) (cl[k]!.L.n) (cl[k]!.L.c)]) (by kernel_rfl))) .nil)))))) (by kernel_rfl)) (fun b94 => ?_)
   refine QOPS.call (some 114) [GStep.val (c2[k]!), GStep.val (cl[k]!)] (by kernel_rfl) (fun w95 hp96 => (ow_kept c2[k]! cl[k]! xs[k]! _ F ((hp96.get1).2 k (by omega)) ((hst.2 k (by omega)).fram hp96.fr) (hvs k (by omega))).mono fun _ _ h => ⟨h.1, hp96.step h.2⟩) ?_
   refine QOPS.batch 1 {} [] [0, 1, 5, 15, 115] [.slice a n c, .string text, .slice ga n gc, iI (k : Int), bF] hnehp87 (fun w97 hp98 => QB.mk .nil (by kernel_rfl)) (fun b99 => ?_)
   refine QOPS.nil (fun w100 hp101 => ?_)
   refine thn_n (WP.condF rfl (WP.skip (blk_n (thn_n (wQ {} [] [0, 1, 5, 15] [.slice a n c, .string text, .slice ga n gc, iI ((k : Int) + 1)] (.cons (show Rng .i64 ((k : Int) + 1) from Rng.i64 (by omega)) .nil) fun b102 => ?_)))))
   refine thn_n ?_
   exact ⟨n - (k + 1), (by omega), k + 1, rfl, (by omega), by kernel_rfl, hp101⟩
  ·refine WP.exit (thn_x (thn_x (blk_hit (thn_n (WP.seq (wR (oP 1 [1, 117] [.string text, .string text] fun b103 => ?_)))))))
   refine OPS.cons (opStep.call (some 118) [.string text] (by kernel_rfl) (rf_Parse text hts _ (row_at hwd hp79.fr)) ?_)
   rintro _ w106 ⟨a109, nn110, c111, cl112, F113, px, pm, pe, rfl, hpr, hp107⟩
   have hpm := hpr.sm hts
   have hpf := hpr.few
   refine ⟨_, rfl, ?_⟩
   have hln116 := own_flat (f := GStep.cells) (sz := 6) (fun _ => rfl) (by decide) hp107.get0
   have hln116b := (hp107.get1).1
   have hp108 := hp79.madeQ hp107
   simp only [List.cons_append, List.nil_append] at hp108
   refine oP 7 [1, 14, 16, 17] [.string text, iI pe, .slice a109 nn110 c111, iI pm] fun b117 => ?_
   refine OPS.nil (thn_n (WP.seq (wR (oP 1 [1, 14, 16, 17, 123] [.string text, iI pe, .slice a109 nn110 c111, iI pm, .string text] fun b118 => ?_))))
   refine OPS.cons (opStep.call (some 124) [.string text] (by kernel_rfl) (sc_Parse2 text hts px pm pe hpr _ (hls.fram hp108.fr)) ?_)
   rintro _ w121 ⟨a124, nn125, c126, cl127, F128, rfl, hp122⟩
   refine ⟨_, rfl, ?_⟩
   have hln131 := own_flat (f := GStep.cells) (sz := 6) (fun _ => rfl) (by decide) hp122.get0
   have hln131b := (hp122.get1).1.1
   have hp123 := hp108.madeQ hp122
   simp only [List.cons_append, List.nil_append] at hp123
   refine oP 7 [1, 12, 14, 16, 17, 18, 19] [.string text, iI pe, iI pe, .slice a109 nn110 c111, iI pm, .slice a124 nn125 c126, iI pm] fun b132 => ?_
   refine OPS.nil (thn_n (WP.seq (WP.seq (wR (oQ 11 { wraps := [135], subs := [130, 134] } [bF, bF] [1, 16, 18, 136, 137, 138] [.string text, .slice a109 nn110 c111, .slice a124 nn125 c126, bF, .slice a124 nn125 c126, .slice a109 nn110 c111] (.cons (show (.bool (decide (¬ (pm = pm))) : Go.Value) = bF from congrArg Value.bool (decide_eq_false (fun q_ => q_ rfl))) (.cons (show (.bool (decide (¬ (pe = pe))) : Go.Value) = bF from congrArg Value.bool (decide_eq_false (fun q_ => q_ rfl))) .nil)) fun b133 => ?_)))))
   refine OPS.want (by kernel_rfl) ?_
   refine OPS.cons (opStep.call (some 139) [.slice a124 nn125 c126, .slice a109 nn110 c111] (by kernel_rfl) (sb_sames cl127 cl112 px a124 a109 nn125 nn110 c126 c111 _ hln131.symm hln116.symm (by omega) (SlR.own (hp123.get0)) (SlR.own (hp123.get2)) ((hp123.get1).1.tr) ((hp123.get3).tr) (sm_L hpm)) ?_)
   rintro _ w136 ⟨rfl, hf137⟩
   refine ⟨_, rfl, ?_⟩
   have hp138 := hp123.step hf137
   refine oQ 4 { wraps := [141] } [] [1, 16, 142, 143] [.string text, .slice a109 nn110 c111, bF, .slice a124 nn125 c126] .nil fun b139 => ?_
   refine OPS.want (by kernel_rfl) ?_
   have hp142 := hp138.pull1
   have hp143 := hp142.pull1
   have hs148 := (hp143.get1).1
   have hp146 := Hp.toOw2 (A := []) hp143
   have hp147 := (Hp.soAls (Hp.swap hp146)).swap
   refine OPS.cons (opStep.call (some 144) [.slice a124 nn125 c126] (by kernel_rfl) (al_alone cl127 (aiOf cl127 px) a124 nn125 c126 _ _ _ (by omega) (aiOf_al0 hs148) (so_small hs148 hpm) hp147) ?_)
   rintro _ w144 ⟨rfl, hp145⟩
   refine ⟨_, rfl, ?_⟩
   refine oQ 2 { wraps := [146] } [] [1, 16, 146] [.string text, .slice a109 nn110 c111, bF] .nil fun b149 => ?_
   refine OPS.nil (thn_n (WP.condF rfl (WP.skip (thn_n (WP.seq (wR (oP 1 [1, 16, 148] [.string text, .slice a109 nn110 c111, .string text] fun b150 => ?_)))))))
   refine OPS.cons (opStep.call (some 149) [.string text] (by kernel_rfl) (sc_Parse2 text hts px pm pe hpr _ (hls.fram hp145.fr)) ?_)
   rintro _ w153 ⟨a156, nn157, c158, cl159, F160, rfl, hp154⟩
   refine ⟨_, rfl, ?_⟩
   have hln163 := own_flat (f := GStep.cells) (sz := 6) (fun _ => rfl) (by decide) hp154.get0
   have hln163b := (hp154.get1).1.1
   have hp155 := hp145.madeQ hp154
   simp only [List.cons_append, List.nil_append] at hp155
   refine oP 5 [1, 16, 18] [.string text, .slice a109 nn110 c111, .slice a156 nn157 c158] fun b164 => ?_
   refine OPS.nil (thn_n (WP.seq (wR (oP 1 [1, 16, 18, 154] [.string text, .slice a109 nn110 c111, .slice a156 nn157 c158, .string text] fun b165 => ?_))))
   refine OPS.cons (opStep.call (some 155) [.string text] (by kernel_rfl) (sc_Config text (by omega) _ (hls.lib.fram hp155.fr)) ?_)
   rintro _ w168 ⟨cf, cn, ce, rfl, hcf, hf169⟩
   refine ⟨_, rfl, ?_⟩
   have hp170 := hp155.step hf169
   refine oP 4 [1, 16, 18, 156, 157, 158] [.string text, .slice a109 nn110 c111, .slice a156 nn157 c158, GConfig.val cf, iI cn, iI ce] fun b171 => ?_
   refine OPS.cons (opStep.alloc hp170 [iI 0, iI 0, iI 0] (by kernel_rfl) (fun g174 w172 hp173 => ?_))
   refine OPS.cons (opStep.store0 hp173 rfl [iI cf.N, iI cf.K, iI cf.Delta] [iI cf.N, iI cf.K, iI cf.Delta] (by kernel_rfl) (fun w175 hp176 => ?_))
   refine oP 2 [1, 12, 16, 18, 20, 21] [.string text, iI ce, .slice a109 nn110 c111, .slice a156 nn157 c158, pP g174, iI cn] fun b177 => ?_
   refine OPS.nil (thn_n (WP.seq (wR (oP 1 [12, 16, 18, 20, 21, 160] [iI ce, .slice a109 nn110 c111, .slice a156 nn157 c158, pP g174, iI cn, .string text] fun b178 => ?_))))
   refine OPS.cons (opStep.call (some 161) [.string text] (by kernel_rfl) (rf_Config2 text hts cf cn ce hcf _) ?_)
   rintro _ w181 ⟨rfl, hf182⟩
   refine ⟨_, rfl, ?_⟩
   have hp183 := hp176.step hf182
   refine oP 4 [12, 16, 18, 20, 21, 162, 163, 164] [iI ce, .slice a109 nn110 c111, .slice a156 nn157 c158, pP g174, iI cn, GConfig.val cf, iI cn, iI ce] fun b184 => ?_
   refine OPS.cons (opStep.alloc hp183 [iI 0, iI 0, iI 0] (by kernel_rfl) (fun g187 w185 hp186 => ?_))
   refine OPS.cons (opStep.store0 hp186 rfl [iI cf.N, iI cf.K, iI cf.Delta] [iI cf.N, iI cf.K, iI cf.Delta] (by kernel_rfl) (fun w188 hp189 => ?_))
   refine oP 2 [12, 14, 16, 18, 20, 21, 22, 23] [iI ce, iI ce, .slice a109 nn110 c111, .slice a156 nn157 c158, pP g174, iI cn, pP g187, iI cn] fun b190 => ?_
   refine OPS.nil (thn_n (WP.seq (wR (oP 2 [12, 14, 20, 21, 22, 23, 165, 166] [iI ce, iI ce, pP g174, iI cn, pP g187, iI cn, .slice a156 nn157 c158, .slice a109 nn110 c111] fun b191 => ?_))))
   refine OPS.cons (opStep.call (some 167) [.slice a156 nn157 c158, .slice a109 nn110 c111] (by kernel_rfl) (sb_sames cl159 cl112 px a156 a109 nn157 nn110 c158 c111 _ hln163.symm hln116.symm (by omega) (SlR.own (hp189.get2)) (SlR.own (hp189.get4)) ((hp189.get3).1.tr) ((hp189.get5).tr) (sm_L hpm)) ?_)
   rintro _ w194 ⟨rfl, hf195⟩
   refine ⟨_, rfl, ?_⟩
   have hp196 := hp189.step hf195
   refine oQ 16 { wraps := [172, 177, 182], subs := [171, 176, 181] } [GConfig.val cf, GConfig.val cf, bT, bT, bT] [4] [bT] (.cons (lN 43 0 [iI cf.N, iI cf.K, iI cf.Delta] hp196.get1) (.cons (lN 43 0 [iI cf.N, iI cf.K, iI cf.Delta] hp196.get0) (.cons (show (.bool ((decide (cf.N = cf.N)) && ((decide (cf.K = cf.K)) && ((decide (cf.Delta = cf.Delta)) && true))) : Go.Value) = bT from congrArg Value.bool (by simp)) (.cons (show (.bool (decide (cn = cn)) : Go.Value) = bT from congrArg Value.bool (by simp)) (.cons (show (.bool (decide (ce = ce)) : Go.Value) = bT from congrArg Value.bool (by simp)) .nil))))) fun b197 => ?_
   refine OPS.nil (thn_n (WP.ret ?_))
   refine bodyQ.of _ rfl [bT] ⟨rfl, trivial⟩ ?_
   exact ⟨rfl, hp196.fr⟩

end Go.Proofs.YtbpedjefoajegaaDoor.K
namespace Go.Proofs.YtbpedjefoajegaaDoor.K
open Go Go.RowKit
set_option linter.unusedVariables false
def litV {H : Type} : DataW H → Value
  | .lit (.int k n) => .int k n
  | .lit (.bool b) => .bool b
  | .lit (.string s) => .string ⟨s.toArray⟩
  | _ => .nilIface
def partsD {H : Type} : DataW H → List (DataW H)
  | .agg ds => ds
  | _ => []
section
variable {H : Type} {enc : TypeId × Value → H} {P : Program} {w : World} {base : Nat} {sp : Nat → Bool} {held : Bool} {fuel : Nat} {t e : TypeId} {cs : List Value} {p : List MemPlace}
theorem one_lit {x : DataW H × List MemPlace} (ht : (match P.underlying t with | some (.int _) | some .bool | some .string => true | _ => false) = true) (h : DataW.trod enc P w base sp held fuel t cs = some x) : cs = [litV x.1] := by
  cases hu : P.underlying t with
  | none => rw [hu] at ht; cases ht
  | some d =>
    rw [hu] at ht
    cases d <;> simp at ht
    · obtain ⟨b, rfl, rfl⟩ := DataW.trod_bool hu h; rfl
    · obtain ⟨n, rfl, rfl, _⟩ := DataW.trod_int hu h; rfl
    · obtain ⟨s, rfl, rfl, _⟩ := DataW.trod_string hu h
      show [Value.string s] = [Value.string ⟨s.data.toList.toArray⟩]
      simp
theorem chunks {α : Type} {f : α → List Value} {sz : Nat} : ∀ (ds : List α) (cs : List Value), cs.length = ds.length * sz → (∀ (i : Nat) (d : α), ds[i]? = some d → (cs.drop (i * sz)).take sz = f d) → cs = ds.flatMap f
  | [], cs, h, _ => by simpa using h
  | d :: ds, cs, h, hf => by
    have h0 := hf 0 d rfl
    rw [Nat.zero_mul, List.drop_zero] at h0
    have ih := chunks (f := f) (sz := sz) ds (cs.drop sz) (by rw [List.length_drop, h, List.length_cons, Nat.add_mul]; omega) fun i x hx => by
      have := hf (i + 1) x (by simpa using hx)
      rw [List.drop_drop, show sz + i * sz = (i + 1) * sz from by rw [Nat.add_mul]; omega]; exact this
    rw [List.flatMap_cons, ← h0, ← ih, List.take_append_drop]
theorem str_cells {fs : Array Field} {x : DataW H × List MemPlace} (hu : P.underlying e = some (.struct fs)) (h1 : (fs.toList.all fun f => P.cellsOf f.type == 1 && (match P.underlying f.type with | some (.int _) | some .bool | some .string => true | _ => false)) = true) (h2 : fs.toList.map (·.offset) = List.range fs.size) (h3 : P.cellsOf e = fs.size)
    (h : DataW.trod enc P w base sp held fuel e cs = some x) : cs = (partsD x.1).map litV := by
  cases fuel with
  | zero => simp [DataW.trod] at h
  | succ fuel =>
    simp only [DataW.trod, hu] at h
    split at h
    · rename_i hl
      cases hm : fs.toList.mapM (fun f => DataW.trod enc P w base sp held fuel f.type ((cs.drop f.offset).take (P.cellsOf f.type))) with
      | none => simp [hm] at h
      | some xs =>
        simp [hm] at h
        subst h
        obtain ⟨q1, q2⟩ := mapM_get hm
        show cs = (xs.map (·.1)).map litV
        apply List.ext_getElem?
        intro j
        by_cases hj : j < fs.size
        · have hf : fs.toList[j]? = some fs[j] := by simp [hj]
          obtain ⟨z, hz, hz2⟩ := q2 j fs[j] hf
          have ha := List.all_eq_true.1 h1 fs[j] (by simp)
          simp only [Bool.and_eq_true, beq_iff_eq] at ha
          have ho : fs[j].offset = j := by
            have := congrArg (·[j]?) h2
            simp [hj] at this; exact this
          rw [ha.1, ho] at hz2
          have := one_lit ha.2 hz2
          have hc : cs[j]? = some (litV z.1) := by
            have h5 := congrArg (·[0]?) this
            simpa [List.getElem?_take, List.getElem?_drop] using h5
          rw [hc]; simp [hz]
        · have e1 : cs.length ≤ j := by omega
          have e2 : xs.length ≤ j := by rw [q1]; simp; omega
          rw [List.getElem?_eq_none e1, List.getElem?_eq_none (by simpa using e2)]
    · simp at h
theorem arr_cells {n : Nat} {fs : Array Field} {x : DataW H × List MemPlace} (ht : P.underlying t = some (.array n e)) (hu : P.underlying e = some (.struct fs)) (h1 : (fs.toList.all fun f => P.cellsOf f.type == 1 && (match P.underlying f.type with | some (.int _) | some .bool | some .string => true | _ => false)) = true) (h2 : fs.toList.map (·.offset) = List.range fs.size) (h3 : P.cellsOf e = fs.size) (h4 : P.cellsOf t = n * fs.size)
    (h : DataW.trod enc P w base sp held fuel t cs = some x) : cs = (partsD x.1).flatMap fun d => (partsD d).map litV := by
  cases fuel with
  | zero => simp [DataW.trod] at h
  | succ fuel =>
    simp only [DataW.trod, ht] at h
    split at h
    · rename_i hl
      obtain ⟨xs, hm, hx⟩ := Option.map_eq_some_iff.1 h
      subst hx
      obtain ⟨q1, q2⟩ := mapM_get hm
      simp at q1
      show cs = (xs.map (·.1)).flatMap fun d => (partsD d).map litV
      refine chunks (sz := fs.size) _ _ (by rw [List.length_map, q1, hl, h4]) fun i d hd => ?_
      have hi : i < n := by
        have := (List.getElem?_eq_some_iff.1 hd).1
        rw [List.length_map] at this; omega
      obtain ⟨z, hz, hz2⟩ := q2 i i (by simp [hi])
      have e1 : d = z.1 := by
        rw [List.getElem?_map, hz] at hd
        exact (Option.some.inj hd).symm
      rw [e1, ← str_cells hu h1 h2 h3 hz2, h3]
    · cases h
end
end Go.Proofs.YtbpedjefoajegaaDoor.K
namespace Go.Proofs.YtbpedjefoajegaaDoor.K
open Go Go.RowKit
set_option linter.unusedVariables false
theorem arrL_cells {H : Type} {enc : TypeId × Value → H} {P : Program} {w : World} {base : Nat} {sp : Nat → Bool} {held : Bool} {fuel : Nat} {t e : TypeId} {cs : List Value} {n : Nat} {x : DataW H × List MemPlace} (ht : P.underlying t = some (.array n e)) (hu : (match P.underlying e with | some (.int _) | some .bool | some .string => true | _ => false) = true) (h3 : P.cellsOf e = 1) (h4 : P.cellsOf t = n)
    (h : DataW.trod enc P w base sp held fuel t cs = some x) : cs = (partsD x.1).map litV := by
  cases fuel with
  | zero => simp [DataW.trod] at h
  | succ fuel =>
    simp only [DataW.trod, ht] at h
    split at h
    · rename_i hl
      obtain ⟨xs, hm, hx⟩ := Option.map_eq_some_iff.1 h
      subst hx
      obtain ⟨q1, q2⟩ := mapM_get hm
      simp at q1
      show cs = (xs.map (·.1)).map litV
      have hq := chunks (f := fun d => [litV d]) (sz := 1) (xs.map (·.1)) cs (by rw [List.length_map, q1, hl, h4, Nat.mul_one]) fun i d hd => by
        have hi : i < n := by
          have := (List.getElem?_eq_some_iff.1 hd).1
          rw [List.length_map] at this; omega
        obtain ⟨z, hz, hz2⟩ := q2 i i (by simp [hi])
        have e1 : d = z.1 := by
          rw [List.getElem?_map, hz] at hd
          exact (Option.some.inj hd).symm
        rw [h3] at hz2
        rw [e1]
        exact one_lit hu hz2
      rw [hq]
      generalize xs.map (·.1) = l
      induction l with
      | nil => rfl
      | cons d l ih => rw [List.flatMap_cons, List.map_cons, ih]; rfl
    · cases h
end Go.Proofs.YtbpedjefoajegaaDoor.K
namespace Go.Proofs.YtbpedjefoajegaaDoor.K
open Go Go.RowKit
set_option linter.unusedVariables false
theorem inputs {w : World} {cl : List GStep} (h : ∀ s ∈ cl, (Rng .i64 s.Kind) ∧ (Rng .i64 s.A) ∧ (Rng .i64 s.B) ∧ (s.Key.size ≤ 1048576) ∧ (∃ l, SlD w (α := Int) (fun y => [.int .u8 y]) (fun y => Rng .u8 y) 1048576 s.Value l) ∧ (∃ l, SlD w (α := Int) (fun y => [.int .i64 y]) (fun y => Rng .i64 y) 1048576 s.L l)) :
    StL w Tr cl (cl.map (plainS w)) ∧ (∀ x ∈ cl.map (plainS w), smS x) ∧ (∀ x ∈ cl.map (plainS w), (lineS x).size ≤ 34359738) ∧ ∀ i, i < (cl.map (plainS w)).length → (cl.map (plainS w))[i]!.Value.size ≤ 1099511627776 ∧ (cl.map (plainS w))[i]!.L.length ≤ 1099511627776 := by
  have key : ∀ s ∈ cl, StR w Tr s (plainS w s) ∧ inS (plainS w s) ∧ s.Key.size ≤ 1048576 ∧ (plainS w s).Value.size ≤ 1048576 ∧ (plainS w s).L.length ≤ 1048576 := fun s hs => by
    obtain ⟨_, ha, hb, hk, ⟨lv, h1⟩, ⟨ll, h2⟩⟩ := h s hs
    obtain ⟨q1, q2⟩ := StR.input (lv := lv) (ll := ll) h1.rd h1.len (fun y hy => h1.all y hy) h2.rd h2.len
    have c1 := h1.cap
    have c2 := h1.bnd
    have c3 := h2.cap
    have c4 := h2.bnd
    refine ⟨q1, ⟨ha, hb, fun n hn => ?_⟩, hk, ?_, ?_⟩
    · have : n ∈ ll := by rw [← q2]; exact hn
      exact h2.all n this
    · have := q1.vn; omega
    · have := q1.ln; omega
  have sm : ∀ s ∈ cl, smS (plainS w s) := fun s hs => by
    obtain ⟨_, k2, k3, k4, k5⟩ := key s hs
    exact ⟨k2, Nat.le_trans k3 (by decide), Nat.le_trans k4 (by decide), Nat.le_trans k5 (by decide)⟩
  refine ⟨StL.input fun s hs => (key s hs).1, ?_, ?_, fun i hi => ?_⟩
  · intro x hx
    obtain ⟨s, hs, rfl⟩ := List.mem_map.1 hx
    exact sm s hs
  · intro x hx
    obtain ⟨s, hs, rfl⟩ := List.mem_map.1 hx
    obtain ⟨_, k2, k3, k4, k5⟩ := key s hs
    have := line_size (sm s hs)
    have k3' : (plainS w s).Key.size ≤ 1048576 := k3
    omega
  · rw [getElem!_pos _ i hi, List.getElem_map]
    have hi' : i < cl.length := by simpa using hi
    obtain ⟨_, _, _, k4, k5⟩ := key _ (List.getElem_mem hi')
    exact ⟨Nat.le_trans k4 (by decide), Nat.le_trans k5 (by decide)⟩
end Go.Proofs.YtbpedjefoajegaaDoor.K
namespace Go.Proofs.YtbpedjefoajegaaDoor.K
open Go Go.Proofs Go.RowKit
set_option linter.unusedVariables false

theorem bulk_pos {H : Type} (d : DataW H) : 1 ≤ Rows.uptoBulk d := by
  cases d with
  | lit l => cases l <;> simp [Rows.uptoBulk]
  | nil => simp [Rows.uptoBulk]
  | ptr d => simp [Rows.uptoBulk]
  | slice elems spare => simp [Rows.uptoBulk]
  | agg parts => simp [Rows.uptoBulk]
  | iface t d => simp [Rows.uptoBulk]
  | map entries => simp [Rows.uptoBulk]
  | held h => simp [Rows.uptoBulk]
theorem bulk_mem {H : Type} {d : DataW H} : ∀ {l : List (DataW H)}, d ∈ l → Rows.uptoBulk d ≤ Rows.uptoBulkAll l
  | [], h => by cases h
  | x :: r, h => by
    simp only [Rows.uptoBulkAll]
    rcases List.mem_cons.1 h with rfl | h
    · omega
    · have := bulk_mem h; omega
theorem bulk_len {H : Type} : ∀ l : List (DataW H), l.length ≤ Rows.uptoBulkAll l
  | [] => by simp
  | x :: r => by have := bulk_pos x; have := bulk_len r; simp only [Rows.uptoBulkAll, List.length_cons]; omega
def WtU {H : Type} (t : TypeId) (d : DataW H) : Prop := Rows.uptoBulk d ≤ 1048576
theorem wt_upto {H : Type} (P : Program) : WtOk (H := H) P WtU (fun _ => 1048576) 1048576 where
  str := fun {t bytes} _ h => by
    have h : Rows.uptoBulk (DataW.lit (H := H) (.string bytes)) ≤ 1048576 := h
    simp only [Rows.uptoBulk] at h
    omega
  slice := fun {t e es sp} _ _ h => by
    have h : Rows.uptoBulk (DataW.slice es sp) ≤ 1048576 := h
    simp only [Rows.uptoBulk] at h
    have h1 := bulk_len es
    have h2 := bulk_len sp
    exact ⟨by omega, fun d hd => by have := bulk_mem hd; unfold WtU; omega⟩
  agg := fun {t fs ds} _ h i f d _ hd => by
    have h : Rows.uptoBulk (DataW.agg ds) ≤ 1048576 := h
    simp only [Rows.uptoBulk] at h
    have := bulk_mem (List.mem_of_getElem? hd)
    unfold WtU; omega
  arr := fun {t n e ds} _ h d hd => by
    have h : Rows.uptoBulk (DataW.agg ds) ≤ 1048576 := h
    simp only [Rows.uptoBulk] at h
    have := bulk_mem hd
    unfold WtU; omega
theorem wtu_of {H : Type} {ds : List (DataW H)} (hk : Rows.uptoSmall H ds = true) {t : TypeId} {d : DataW H} (hd : d ∈ ds) : WtU t d := by
  have h : Rows.uptoBulkAll ds ≤ 1048576 := of_decide_eq_true hk
  exact Nat.le_trans (bulk_mem hd) h
end Go.Proofs.YtbpedjefoajegaaDoor.K
