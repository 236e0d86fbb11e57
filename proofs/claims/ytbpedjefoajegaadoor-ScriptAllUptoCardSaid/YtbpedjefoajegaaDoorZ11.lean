/- Texts of this claim, merged: what the program's functions compute, and the rules that the walks use. -/
import Derived.Test.YtbpedjefoajegaaDoorProg
import Derived.Lib.AppendStr
import Derived.Test.YtbpedjefoajegaaDoorZ1
import Derived.Test.YtbpedjefoajegaaDoorZ2
import Derived.Test.YtbpedjefoajegaaDoorZ10
namespace Go.Proofs.YtbpedjefoajegaaDoor.K
open Go Go.Proofs Go.RowKit
set_option linter.unusedVariables false
set_option linter.unusedSimpArgs false
set_option maxRecDepth 20000
set_option maxHeartbeats 4000000
noncomputable abbrev qc0 := fun a0 a1 => ([pP a0, .string (((⟨#[112, 117, 116]⟩ : ByteArray) ++ (⟨#[32]⟩ : ByteArray)) ++ (itoaT a1)), iI 1] : List Go.Value)
noncomputable abbrev qc1 := fun a0 a1 a2 => ([pP a0, .string a1, iI (a2 : Int)] : List Go.Value)
noncomputable abbrev qc2 := fun a0 a1 => ([pP a0, .string (((⟨#[103, 101, 116]⟩ : ByteArray) ++ (⟨#[32]⟩ : ByteArray)) ++ (itoaT a1)), iI 2] : List Go.Value)
noncomputable abbrev qc3 := fun a0 a1 => ([pP a0, .string (((⟨#[99, 114, 97, 115, 104]⟩ : ByteArray) ++ (⟨#[32]⟩ : ByteArray)) ++ (itoaT a1)), iI 12] : List Go.Value)

def wordsC : List Go.Value := [.string ⟨#[]⟩, .string ⟨#[112, 117, 116]⟩, .string ⟨#[103, 101, 116]⟩, .string ⟨#[99, 97, 110, 99, 101, 108]⟩, .string ⟨#[116, 105, 99, 107]⟩, .string ⟨#[115, 116, 111, 112]⟩, .string ⟨#[100, 101, 108, 105, 118, 101, 114]⟩, .string ⟨#[100, 114, 111, 112]⟩, .string ⟨#[100, 111, 117, 98, 108, 101]⟩, .string ⟨#[98, 117, 114, 115, 116]⟩, .string ⟨#[99, 117, 116]⟩, .string ⟨#[108, 111, 115, 101]⟩, .string ⟨#[99, 114, 97, 115, 104]⟩, .string ⟨#[115, 116, 97, 114, 116]⟩, .string ⟨#[100, 105, 101]⟩, .string ⟨#[99, 111, 109, 112, 97, 99, 116]⟩, .string ⟨#[114, 111, 117, 110, 100]⟩]
theorem wm_3 {w : World} (h : (Res.row 1 wordsC 65).holds w) : Ld Tryd.prog w 9 ((⟨1, 0, none⟩ : Addr).add ((3 : Int).toNat * 1)) (.string (kWord 3)) := by
  rw [show ((⟨1, 0, none⟩ : Addr).add ((3 : Int).toNat * 1)) = ⟨1, 3, none⟩ from by kernel_rfl]; exact Ld.row1 (P := Tryd.prog) (t := 9) (o := 3) h (by kernel_rfl)
theorem wm_4 {w : World} (h : (Res.row 1 wordsC 65).holds w) : Ld Tryd.prog w 9 ((⟨1, 0, none⟩ : Addr).add ((4 : Int).toNat * 1)) (.string (kWord 4)) := by
  rw [show ((⟨1, 0, none⟩ : Addr).add ((4 : Int).toNat * 1)) = ⟨1, 4, none⟩ from by kernel_rfl]; exact Ld.row1 (P := Tryd.prog) (t := 9) (o := 4) h (by kernel_rfl)
theorem wm_5 {w : World} (h : (Res.row 1 wordsC 65).holds w) : Ld Tryd.prog w 9 ((⟨1, 0, none⟩ : Addr).add ((5 : Int).toNat * 1)) (.string (kWord 5)) := by
  rw [show ((⟨1, 0, none⟩ : Addr).add ((5 : Int).toNat * 1)) = ⟨1, 5, none⟩ from by kernel_rfl]; exact Ld.row1 (P := Tryd.prog) (t := 9) (o := 5) h (by kernel_rfl)
theorem wm_6 {w : World} (h : (Res.row 1 wordsC 65).holds w) : Ld Tryd.prog w 9 ((⟨1, 0, none⟩ : Addr).add ((6 : Int).toNat * 1)) (.string (kWord 6)) := by
  rw [show ((⟨1, 0, none⟩ : Addr).add ((6 : Int).toNat * 1)) = ⟨1, 6, none⟩ from by kernel_rfl]; exact Ld.row1 (P := Tryd.prog) (t := 9) (o := 6) h (by kernel_rfl)
theorem wm_7 {w : World} (h : (Res.row 1 wordsC 65).holds w) : Ld Tryd.prog w 9 ((⟨1, 0, none⟩ : Addr).add ((7 : Int).toNat * 1)) (.string (kWord 7)) := by
  rw [show ((⟨1, 0, none⟩ : Addr).add ((7 : Int).toNat * 1)) = ⟨1, 7, none⟩ from by kernel_rfl]; exact Ld.row1 (P := Tryd.prog) (t := 9) (o := 7) h (by kernel_rfl)
theorem wm_8 {w : World} (h : (Res.row 1 wordsC 65).holds w) : Ld Tryd.prog w 9 ((⟨1, 0, none⟩ : Addr).add ((8 : Int).toNat * 1)) (.string (kWord 8)) := by
  rw [show ((⟨1, 0, none⟩ : Addr).add ((8 : Int).toNat * 1)) = ⟨1, 8, none⟩ from by kernel_rfl]; exact Ld.row1 (P := Tryd.prog) (t := 9) (o := 8) h (by kernel_rfl)
theorem wm_11 {w : World} (h : (Res.row 1 wordsC 65).holds w) : Ld Tryd.prog w 9 ((⟨1, 0, none⟩ : Addr).add ((11 : Int).toNat * 1)) (.string (kWord 11)) := by
  rw [show ((⟨1, 0, none⟩ : Addr).add ((11 : Int).toNat * 1)) = ⟨1, 11, none⟩ from by kernel_rfl]; exact Ld.row1 (P := Tryd.prog) (t := 9) (o := 11) h (by kernel_rfl)
theorem wm_13 {w : World} (h : (Res.row 1 wordsC 65).holds w) : Ld Tryd.prog w 9 ((⟨1, 0, none⟩ : Addr).add ((13 : Int).toNat * 1)) (.string (kWord 13)) := by
  rw [show ((⟨1, 0, none⟩ : Addr).add ((13 : Int).toNat * 1)) = ⟨1, 13, none⟩ from by kernel_rfl]; exact Ld.row1 (P := Tryd.prog) (t := 9) (o := 13) h (by kernel_rfl)
theorem wm_15 {w : World} (h : (Res.row 1 wordsC 65).holds w) : Ld Tryd.prog w 9 ((⟨1, 0, none⟩ : Addr).add ((15 : Int).toNat * 1)) (.string (kWord 15)) := by
  rw [show ((⟨1, 0, none⟩ : Addr).add ((15 : Int).toNat * 1)) = ⟨1, 15, none⟩ from by kernel_rfl]; exact Ld.row1 (P := Tryd.prog) (t := 9) (o := 15) h (by kernel_rfl)
theorem wm_a {k : Int} (hp : PA k) {w : World} (h : (Res.row 1 wordsC 65).holds w) : Ld Tryd.prog w 9 ((⟨1, 0, none⟩ : Addr).add ((k : Int).toNat * 1)) (.string (kWord k)) := by
  unfold PA at hp; rcases hp with rfl | rfl | rfl | rfl | rfl | rfl | rfl | rfl | rfl
  · exact wm_3 h
  · exact wm_4 h
  · exact wm_5 h
  · exact wm_6 h
  · exact wm_7 h
  · exact wm_8 h
  · exact wm_11 h
  · exact wm_13 h
  · exact wm_15 h
theorem join_snoc : ∀ (ws : List ByteArray) (y : ByteArray), ws ≠ [] → joinB (ws ++ [y]) = (joinB ws ++ (⟨#[32]⟩ : ByteArray)) ++ y
  | [], y, h => absurd rfl h
  | [x], y, _ => by rw [List.singleton_append, joinB_cons, joinB_one, joinB_one]; apply ba_ext; simp [spL]
  | x :: z :: r, y, _ => by
    have ih := join_snoc (z :: r) y (by simp)
    rw [show (x :: z :: r) ++ [y] = x :: z :: (r ++ [y]) from rfl, joinB_cons, show z :: (r ++ [y]) = (z :: r) ++ [y] from rfl, ih, joinB_cons]
    apply ba_ext; simp
theorem jn2 (a b : ByteArray) : (a ++ (⟨#[32]⟩ : ByteArray)) ++ b = joinB [a, b] := by rw [show [a, b] = [a] ++ [b] from rfl, join_snoc _ _ (by simp), joinB_one]
theorem jn3 (a b c : ByteArray) : (((a ++ (⟨#[32]⟩ : ByteArray)) ++ b) ++ (⟨#[32]⟩ : ByteArray)) ++ c = joinB [a, b, c] := by rw [show [a, b, c] = [a, b] ++ [c] from rfl, join_snoc _ _ (by simp), ← jn2]
theorem jn4 (a b c d : ByteArray) : (((((a ++ (⟨#[32]⟩ : ByteArray)) ++ b) ++ (⟨#[32]⟩ : ByteArray)) ++ c) ++ (⟨#[32]⟩ : ByteArray)) ++ d = joinB [a, b, c, d] := by rw [show [a, b, c, d] = [a, b, c] ++ [d] from rfl, join_snoc _ _ (by simp), ← jn3]
theorem rl_k1 (A B : Int) (Ky : ByteArray) (V L : SlH) (l : List Int) (w : World) (hwd : (Res.row 1 wordsC 65).holds w) (hx : StR w Tr ⟨1, A, B, Ky, V, L⟩ (⟨1, A, B, Ky, valAt w V, l⟩ : StepP)) (hs : smS (⟨1, A, B, Ky, valAt w V, l⟩ : StepP)) :
  Calls Tryd.prog 13 #[GStep.val (⟨1, A, B, Ky, V, L⟩ : GStep)] w (fun r_ w' => r_ = .returned (.tuple #[.string (lineV (⟨1, A, B, Ky, valAt w V, l⟩ : StepP)), .int .i64 (chkI (⟨1, A, B, Ky, valAt w V, l⟩ : StepP))]) ∧ Fram Non w w') := by
 have hn := hx.ln
 have hL := hx.lr
 simp only at hn hL
 have hi := hs.1
 have hA := hi.1
 have hB := hi.2.1
 have hza := itoa_le hA
 have hzb := itoa_le hB
 unfold inI at hA hB
 have hsz1 := hs.2.1
 have hsz2 := hs.2.2.1
 have hsz3 := hs.2.2.2
 simp only at hA hB hza hzb hsz1 hsz2 hsz3
 have hzk := hexT_size Ky
 have hzv := hexT_size (valAt w V)
 have h32 : (⟨#[32]⟩ : ByteArray).size = 1 := rfl
 have hzw : (⟨#[112, 117, 116]⟩ : ByteArray).size ≤ 8 := by decide
 refine calls_of Tryd.func13 rfl 70 rfl (by simp) ?_
 have hp0 := Hp.init w
 have he0 : List.map (env0 [GStep.val (⟨1, A, B, Ky, V, L⟩ : GStep)]) [0] = [GStep.val (⟨1, A, B, Ky, V, L⟩ : GStep)] := by kernel_rfl
 obtain ⟨b0, he0⟩ := toMk he0
 rw [he0]
 clear he0
 refine WP.seq (wR ?_)
 refine OPS.cons (opStep.box hp0 [iI 1, iI A, iI B, .string Ky, .slice V.a V.n V.c, .slice L.a L.n L.c] (by kernel_rfl) (fun g3 w1 hp2 => ?_))
 refine oP 2 [1] [pP g3] fun b4 => ?_
 refine OPS.nil (thn_n (WP.seq (wR (oQ 1 {} [GStep.val (⟨1, A, B, Ky, V, L⟩ : GStep)] [1, 7] [pP g3, GStep.val (⟨1, A, B, Ky, V, L⟩ : GStep)] (.cons (lN 31 0 [iI 1, iI A, iI B, .string Ky, .slice V.a V.n V.c, .slice L.a L.n L.c] hp2.get0) .nil) fun b5 => ?_))))
 refine OPS.cons (opStep.call (some 8) [GStep.val (⟨1, A, B, Ky, V, L⟩ : GStep)] (by kernel_rfl) (rf_Check (⟨1, A, B, Ky, V, L⟩ : GStep) (⟨1, A, B, Ky, valAt w V, l⟩ : StepP) _ (hx.fram hp2.fr)) ?_)
 rintro _ w8 ⟨rfl, hf9⟩
 refine ⟨_, rfl, ?_⟩
 have hp10 := hp2.step hf9
 refine oP 1 [1, 4] [pP g3, iI (chkI (⟨1, A, B, Ky, valAt w V, l⟩ : StepP))] fun b11 => ?_
 refine OPS.nil (thn_n (WP.seq (WP.seq (wP [1, 4, 10] [pP g3, iI (chkI (⟨1, A, B, Ky, valAt w V, l⟩ : StepP)), .bool (decide (¬ ((chkI (⟨1, A, B, Ky, valAt w V, l⟩ : StepP)) = 0)))] fun b12 => ?_))))
 refine thn_n ?_
 refine WP.test (p := ¬ ((chkI (⟨1, A, B, Ky, valAt w V, l⟩ : StepP)) = 0)) rfl Bp.dec (fun h13 => ?_) (fun h13 => ?_)
 ·refine WP.seq (wP [2, 3] [.string ⟨#[]⟩, iI (chkI (⟨1, A, B, Ky, valAt w V, l⟩ : StepP))] fun b14 => ?_)
  refine thn_n (WP.ret (thn_r ?_))
  refine bodyQ.of _ rfl [.string ⟨#[]⟩, iI (chkI (⟨1, A, B, Ky, valAt w V, l⟩ : StepP))] ⟨rfl, rfl, trivial⟩ ?_
  exact ⟨by simp only [pack]; rw [lineV_no h13], hp10.fr⟩
 ·replace h13 := Classical.not_not.1 h13
  refine WP.skip (thn_n (WP.seq (wQ {} [iI 1, .string ⟨#[112, 117, 116]⟩] [1, 5] [pP g3, .string ⟨#[112, 117, 116]⟩] (.cons (l1 3 0 (iI 1) hp10.get0) (.cons (show InB (1) (17) from ⟨by first | omega | (simp only [ByteArray.size_append]; omega), by first | omega | (simp only [ByteArray.size_append]; omega)⟩) (.cons (l1 9 1 (.string ⟨#[112, 117, 116]⟩) (row_at hwd hp10.fr)) .nil))) fun b15 => ?_)))
  refine thn_n (WP.seq (WP.seq (wR (oQ 2 {} [iI 1] [1, 5, 17] [pP g3, .string ⟨#[112, 117, 116]⟩, iI 1] (.cons (l1 3 0 (iI 1) hp10.get0) .nil) fun b16 => ?_))))
  refine OPS.cons (opStep.call (some 18) [iI 1] (by kernel_rfl) (rf_hasA 1 _) ?_)
  rintro _ w19 ⟨rfl, hf20⟩
  refine ⟨_, rfl, ?_⟩
  have hp21 := hp10.step hf20
  refine OPS.nil (thn_n (WP.condT rfl (wR (oQ 4 {} [iI A] [1, 20, 22] [pP g3, .string ((⟨#[112, 117, 116]⟩ : ByteArray) ++ (⟨#[32]⟩ : ByteArray)), iI A] (.cons (show (⟨#[112, 117, 116]⟩ : ByteArray).size + (⟨#[32]⟩ : ByteArray).size ≤ 9223372036854775807 from by first | omega | (simp only [ByteArray.size_append]; omega)) (.cons (l1 3 1 (iI A) hp21.get0) .nil)) fun b22 => ?_))))
  refine OPS.cons (opStep.call (some 23) [iI A] (by kernel_rfl) (rf_decimal A ⟨by omega, by omega⟩ _) ?_)
  rintro _ w25 ⟨rfl, hf26⟩
  refine ⟨_, rfl, ?_⟩
  have hp27 := hp21.step hf26
  refine oQ 2 {} [] [1, 5] [pP g3, .string (((⟨#[112, 117, 116]⟩ : ByteArray) ++ (⟨#[32]⟩ : ByteArray)) ++ (itoaT A))] (.cons (show ((⟨#[112, 117, 116]⟩ : ByteArray) ++ (⟨#[32]⟩ : ByteArray)).size + (itoaT A).size ≤ 9223372036854775807 from by first | omega | (simp only [ByteArray.size_append]; omega)) .nil) fun b28 => ?_
  refine OPS.nil (thn_n (WP.seq (WP.seq (wR (oQ 2 {} [iI 1] [1, 5, 26] (qc0 g3 A) (.cons (l1 3 0 (iI 1) hp27.get0) .nil) fun b29 => ?_)))))
  refine OPS.cons (opStep.call (some 27) [iI 1] (by kernel_rfl) (rf_hasB 1 _) ?_)
  rintro _ w32 ⟨rfl, hf33⟩
  refine ⟨_, rfl, ?_⟩
  have hp34 := hp27.step hf33
  refine OPS.nil (thn_n (WP.condF rfl (WP.skip (thn_n (WP.seq (WP.seq (wR (oQ 2 {} [iI 1] [1, 5, 35] (qc0 g3 A) (.cons (l1 3 0 (iI 1) hp34.get0) .nil) fun b35 => ?_))))))))
  refine OPS.cons (opStep.call (some 36) [iI 1] (by kernel_rfl) (rf_hasKey 1 _) ?_)
  rintro _ w38 ⟨rfl, hf39⟩
  refine ⟨_, rfl, ?_⟩
  have hp40 := hp34.step hf39
  refine OPS.nil (thn_n (WP.condT rfl (wR (oQ 4 {} [.string Ky] [1, 38, 40] [pP g3, .string ((((⟨#[112, 117, 116]⟩ : ByteArray) ++ (⟨#[32]⟩ : ByteArray)) ++ (itoaT A)) ++ (⟨#[32]⟩ : ByteArray)), .string Ky] (.cons (show (((⟨#[112, 117, 116]⟩ : ByteArray) ++ (⟨#[32]⟩ : ByteArray)) ++ (itoaT A)).size + (⟨#[32]⟩ : ByteArray).size ≤ 9223372036854775807 from by first | omega | (simp only [ByteArray.size_append]; omega)) (.cons (l1 9 3 (.string Ky) hp40.get0) .nil)) fun b41 => ?_))))
  refine OPS.cons (opStep.strBytes hp40 (by kernel_rfl) rfl (fun g44 c45 w42 hp43 => ?_))
  refine OPS.cons (opStep.call (some 42) [.slice (some ⟨g44, 0, none⟩) Ky.size c45] (by kernel_rfl) (rf_hex ⟨some ⟨g44, 0, none⟩, Ky.size, c45⟩ Ky _ rfl hsz1 (SlR.bs hp43.get0)) ?_)
  rintro _ w48 ⟨rfl, hf49⟩
  refine ⟨_, rfl, ?_⟩
  have hp50 := hp43.step hf49
  refine oQ 2 {} [] [1, 5] [pP g3, .string (((((⟨#[112, 117, 116]⟩ : ByteArray) ++ (⟨#[32]⟩ : ByteArray)) ++ (itoaT A)) ++ (⟨#[32]⟩ : ByteArray)) ++ (hexT Ky))] (.cons (show ((((⟨#[112, 117, 116]⟩ : ByteArray) ++ (⟨#[32]⟩ : ByteArray)) ++ (itoaT A)) ++ (⟨#[32]⟩ : ByteArray)).size + (hexT Ky).size ≤ 9223372036854775807 from by first | omega | (simp only [ByteArray.size_append]; omega)) .nil) fun b51 => ?_
  refine OPS.nil (thn_n (WP.seq (WP.seq (wQ {} [iI 1] [1, 5, 46] [pP g3, .string (((((⟨#[112, 117, 116]⟩ : ByteArray) ++ (⟨#[32]⟩ : ByteArray)) ++ (itoaT A)) ++ (⟨#[32]⟩ : ByteArray)) ++ (hexT Ky)), bT] (.cons (l1 3 0 (iI 1) hp50.get1) .nil) fun b52 => ?_))))
  refine thn_n (WP.condT rfl (wR (oQ 4 {} [.slice V.a V.n V.c] [1, 48, 50] [pP g3, .string ((((((⟨#[112, 117, 116]⟩ : ByteArray) ++ (⟨#[32]⟩ : ByteArray)) ++ (itoaT A)) ++ (⟨#[32]⟩ : ByteArray)) ++ (hexT Ky)) ++ (⟨#[32]⟩ : ByteArray)), .slice V.a V.n V.c] (.cons (show (((((⟨#[112, 117, 116]⟩ : ByteArray) ++ (⟨#[32]⟩ : ByteArray)) ++ (itoaT A)) ++ (⟨#[32]⟩ : ByteArray)) ++ (hexT Ky)).size + (⟨#[32]⟩ : ByteArray).size ≤ 9223372036854775807 from by first | omega | (simp only [ByteArray.size_append]; omega)) (.cons (l1 28 4 (.slice V.a V.n V.c) hp50.get1) .nil)) fun b53 => ?_)))
  refine OPS.cons (opStep.call (some 51) [.slice V.a V.n V.c] (by kernel_rfl) (rf_hex V (valAt w V) _ hx.vn hsz2 (SlR.fram hx.vr hp50.fr)) ?_)
  rintro _ w56 ⟨rfl, hf57⟩
  refine ⟨_, rfl, ?_⟩
  have hp58 := hp50.step hf57
  refine oQ 2 {} [] [1, 5] [pP g3, .string (((((((⟨#[112, 117, 116]⟩ : ByteArray) ++ (⟨#[32]⟩ : ByteArray)) ++ (itoaT A)) ++ (⟨#[32]⟩ : ByteArray)) ++ (hexT Ky)) ++ (⟨#[32]⟩ : ByteArray)) ++ (hexT (valAt w V)))] (.cons (show ((((((⟨#[112, 117, 116]⟩ : ByteArray) ++ (⟨#[32]⟩ : ByteArray)) ++ (itoaT A)) ++ (⟨#[32]⟩ : ByteArray)) ++ (hexT Ky)) ++ (⟨#[32]⟩ : ByteArray)).size + (hexT (valAt w V)).size ≤ 9223372036854775807 from by first | omega | (simp only [ByteArray.size_append]; omega)) .nil) fun b59 => ?_
  refine OPS.nil (thn_n (WP.seq (WP.seq (wP [1, 5, 6] [pP g3, .string (((((((⟨#[112, 117, 116]⟩ : ByteArray) ++ (⟨#[32]⟩ : ByteArray)) ++ (itoaT A)) ++ (⟨#[32]⟩ : ByteArray)) ++ (hexT Ky)) ++ (⟨#[32]⟩ : ByteArray)) ++ (hexT (valAt w V))), iI 0] fun b60 => ?_))))
  refine thn_n (WP.block ?_)
  refine WP.loop (fun mz_ e61 w62 => ∃ (j : Nat) (tx : ByteArray), mz_ = l.length - j ∧ (j ≤ l.length ∧ tx = joinB ([⟨#[112, 117, 116]⟩, itoaT A, hexT Ky, hexT (valAt w V)] ++ (l.take j).map itoaT) ∧ tx.size ≤ 4398046512104 + 22 * j) ∧ List.map e61 [1, 5, 6] = (qc1 g3 tx j) ∧ Hp w Non [Res.bs g44 Ky, Res.row g3 [iI 1, iI A, iI B, .string Ky, .slice V.a V.n V.c, .slice L.a L.n L.c] 31] w62) (l.length - (0)) ⟨0, ((((((⟨#[112, 117, 116]⟩ : ByteArray) ++ (⟨#[32]⟩ : ByteArray)) ++ (itoaT A)) ++ (⟨#[32]⟩ : ByteArray)) ++ (hexT Ky)) ++ (⟨#[32]⟩ : ByteArray)) ++ (hexT (valAt w V)), rfl, ⟨Nat.zero_le _, by rw [List.take_zero, List.map_nil, List.append_nil]; exact jn4 ⟨#[112, 117, 116]⟩ (itoaT A) (hexT Ky) (hexT (valAt w V)), by simp only [ByteArray.size_append]; omega⟩, by kernel_rfl, hp58⟩ ?_
  rintro _ e61 w62 ⟨j, tx, rfl, hI64, hE65, hp63⟩
  obtain ⟨b66, rfl⟩ := toMk hE65
  clear hE65
  obtain ⟨pa, pb, pc⟩ := hI64
  have hlj : j < l.length → inI l[j]! := fun q => hi.2.2 _ (List.mem_of_getElem? (get_bang q))
  have hlz : j < l.length → (itoaT l[j]!).size ≤ 21 := fun q => itoa_le (hlj q)
  unfold inI at hlj
  refine WP.seq (WP.seq (wQ {} [.slice L.a L.n L.c] [1, 5, 6, 57] [pP g3, .string tx, iI (j : Int), .bool (decide ((j : Int) < ((L.n : Nat) : Int)))] (.cons (l1 29 5 (.slice L.a L.n L.c) hp63.get1) .nil) fun b67 => ?_))
  refine thn_n ?_
  refine WP.test (p := (j : Int) < ((L.n : Nat) : Int)) rfl Bp.dec (fun h68 => ?_) (fun h68 => ?_)
  ·refine WP.skip (thn_n (WP.seq (WP.block (wR ?_))))
   have hy72 : (l)[j]? = some l[j]! := get_bang (by first | (first | omega | (simp only [ByteArray.size_append]; omega)) | (simp only [List.length_append, List.length_cons, List.length_nil]; omega) | (simp only [List.length_take, List.length_append, List.length_cons, List.length_nil]; omega))
   refine oQ 7 {} [.slice L.a L.n L.c, iI (l[j]!)] [1, 6, 61, 66] [pP g3, iI (j : Int), .string (tx ++ (⟨#[32]⟩ : ByteArray)), iI (l[j]!)] (.cons (show tx.size + (⟨#[32]⟩ : ByteArray).size ≤ 9223372036854775807 from by first | omega | (simp only [ByteArray.size_append]; omega)) (.cons (l1 29 5 (.slice L.a L.n L.c) hp63.get1) (.cons (show InB ((j : Int)) (L.n) from ⟨by first | omega | (simp only [ByteArray.size_append]; omega), by first | omega | (simp only [ByteArray.size_append]; omega)⟩) (.cons ((hL.at hp63).some (by first | omega | (simp only [ByteArray.size_append]; omega))) (.cons (Ld.add0 (Ld.el1 (P := Tryd.prog) (t := 3) (hL.at hp63).rd 1 (fun _ => rfl) hy72 (o := 0) (v := iI (l[j]!)) (by kernel_rfl))) .nil))))) fun b73 => ?_
   refine OPS.cons (opStep.call (some 67) [iI (l[j]!)] (by kernel_rfl) (rf_decimal (l[j]!) ⟨by omega, by omega⟩ _) ?_)
   rintro _ w76 ⟨rfl, hf77⟩
   refine ⟨_, rfl, ?_⟩
   have hp78 := hp63.step hf77
   refine oQ 2 {} [] [1, 5, 6] [pP g3, .string ((tx ++ (⟨#[32]⟩ : ByteArray)) ++ (itoaT (l[j]!))), iI (j : Int)] (.cons (show (tx ++ (⟨#[32]⟩ : ByteArray)).size + (itoaT (l[j]!)).size ≤ 9223372036854775807 from by first | omega | (simp only [ByteArray.size_append]; omega)) .nil) fun b79 => ?_
   refine OPS.nil (blk_n (thn_n (wQ {} [] [1, 5, 6] [pP g3, .string ((tx ++ (⟨#[32]⟩ : ByteArray)) ++ (itoaT (l[j]!))), iI ((j : Int) + 1)] (.cons (show Rng .i64 ((j : Int) + 1) from Rng.i64 (by first | omega | (simp only [ByteArray.size_append]; omega))) .nil) fun b80 => ?_)))
   refine thn_n ?_
   exact ⟨l.length - (j + 1), (by omega), j + 1, (tx ++ (⟨#[32]⟩ : ByteArray)) ++ (itoaT (l[j]!)), rfl, ⟨by omega, by rw [pb, List.take_succ_eq_append_getElem (by omega), List.map_append, ← List.append_assoc, getElem!_pos l j (by omega)]; exact (join_snoc _ _ (by simp)).symm, by simp only [ByteArray.size_append]; omega⟩, by kernel_rfl, hp78⟩
  ·refine WP.exit (thn_x (thn_x (blk_hit (thn_n (WP.seq (wP [2, 3] [.string tx, iI 0] fun b81 => ?_))))))
   refine thn_n (WP.ret ?_)
   refine bodyQ.of _ rfl [.string tx, iI 0] ⟨rfl, rfl, trivial⟩ ?_
   have hck : chkI (⟨1, A, B, Ky, valAt w V, l⟩ : StepP) = 0 := by have h_ := h13; omega
   obtain rfl : j = l.length := by omega
   have hwe : tx = lineS (⟨1, A, B, Ky, valAt w V, l⟩ : StepP) := by rw [pb, List.take_of_length_le (Nat.le_refl _)]; rfl
   exact ⟨by simp only [pack]; rw [hwe, hck, lineV_ok (chk_ok hck)], hp63.fr⟩

theorem rl_k2 (A B : Int) (Ky : ByteArray) (V L : SlH) (l : List Int) (w : World) (hwd : (Res.row 1 wordsC 65).holds w) (hx : StR w Tr ⟨2, A, B, Ky, V, L⟩ (⟨2, A, B, Ky, valAt w V, l⟩ : StepP)) (hs : smS (⟨2, A, B, Ky, valAt w V, l⟩ : StepP)) :
  Calls Tryd.prog 13 #[GStep.val (⟨2, A, B, Ky, V, L⟩ : GStep)] w (fun r_ w' => r_ = .returned (.tuple #[.string (lineV (⟨2, A, B, Ky, valAt w V, l⟩ : StepP)), .int .i64 (chkI (⟨2, A, B, Ky, valAt w V, l⟩ : StepP))]) ∧ Fram Non w w') := by
 have hn := hx.ln
 have hL := hx.lr
 simp only at hn hL
 have hi := hs.1
 have hA := hi.1
 have hB := hi.2.1
 have hza := itoa_le hA
 have hzb := itoa_le hB
 unfold inI at hA hB
 have hsz1 := hs.2.1
 have hsz2 := hs.2.2.1
 have hsz3 := hs.2.2.2
 simp only at hA hB hza hzb hsz1 hsz2 hsz3
 have hzk := hexT_size Ky
 have hzv := hexT_size (valAt w V)
 have h32 : (⟨#[32]⟩ : ByteArray).size = 1 := rfl
 have hzw : (⟨#[103, 101, 116]⟩ : ByteArray).size ≤ 8 := by decide
 refine calls_of Tryd.func13 rfl 70 rfl (by simp) ?_
 have hp0 := Hp.init w
 have he0 : List.map (env0 [GStep.val (⟨2, A, B, Ky, V, L⟩ : GStep)]) [0] = [GStep.val (⟨2, A, B, Ky, V, L⟩ : GStep)] := by kernel_rfl
 obtain ⟨b0, he0⟩ := toMk he0
 rw [he0]
 clear he0
 refine WP.seq (wR ?_)
 refine OPS.cons (opStep.box hp0 [iI 2, iI A, iI B, .string Ky, .slice V.a V.n V.c, .slice L.a L.n L.c] (by kernel_rfl) (fun g3 w1 hp2 => ?_))
 refine oP 2 [1] [pP g3] fun b4 => ?_
 refine OPS.nil (thn_n (WP.seq (wR (oQ 1 {} [GStep.val (⟨2, A, B, Ky, V, L⟩ : GStep)] [1, 7] [pP g3, GStep.val (⟨2, A, B, Ky, V, L⟩ : GStep)] (.cons (lN 31 0 [iI 2, iI A, iI B, .string Ky, .slice V.a V.n V.c, .slice L.a L.n L.c] hp2.get0) .nil) fun b5 => ?_))))
 refine OPS.cons (opStep.call (some 8) [GStep.val (⟨2, A, B, Ky, V, L⟩ : GStep)] (by kernel_rfl) (rf_Check (⟨2, A, B, Ky, V, L⟩ : GStep) (⟨2, A, B, Ky, valAt w V, l⟩ : StepP) _ (hx.fram hp2.fr)) ?_)
 rintro _ w8 ⟨rfl, hf9⟩
 refine ⟨_, rfl, ?_⟩
 have hp10 := hp2.step hf9
 refine oP 1 [1, 4] [pP g3, iI (chkI (⟨2, A, B, Ky, valAt w V, l⟩ : StepP))] fun b11 => ?_
 refine OPS.nil (thn_n (WP.seq (WP.seq (wP [1, 4, 10] [pP g3, iI (chkI (⟨2, A, B, Ky, valAt w V, l⟩ : StepP)), .bool (decide (¬ ((chkI (⟨2, A, B, Ky, valAt w V, l⟩ : StepP)) = 0)))] fun b12 => ?_))))
 refine thn_n ?_
 refine WP.test (p := ¬ ((chkI (⟨2, A, B, Ky, valAt w V, l⟩ : StepP)) = 0)) rfl Bp.dec (fun h13 => ?_) (fun h13 => ?_)
 ·refine WP.seq (wP [2, 3] [.string ⟨#[]⟩, iI (chkI (⟨2, A, B, Ky, valAt w V, l⟩ : StepP))] fun b14 => ?_)
  refine thn_n (WP.ret (thn_r ?_))
  refine bodyQ.of _ rfl [.string ⟨#[]⟩, iI (chkI (⟨2, A, B, Ky, valAt w V, l⟩ : StepP))] ⟨rfl, rfl, trivial⟩ ?_
  exact ⟨by simp only [pack]; rw [lineV_no h13], hp10.fr⟩
 ·replace h13 := Classical.not_not.1 h13
  refine WP.skip (thn_n (WP.seq (wQ {} [iI 2, .string ⟨#[103, 101, 116]⟩] [1, 5] [pP g3, .string ⟨#[103, 101, 116]⟩] (.cons (l1 3 0 (iI 2) hp10.get0) (.cons (show InB (2) (17) from ⟨by first | omega | (simp only [ByteArray.size_append]; omega), by first | omega | (simp only [ByteArray.size_append]; omega)⟩) (.cons (l1 9 2 (.string ⟨#[103, 101, 116]⟩) (row_at hwd hp10.fr)) .nil))) fun b15 => ?_)))
  refine thn_n (WP.seq (WP.seq (wR (oQ 2 {} [iI 2] [1, 5, 17] [pP g3, .string ⟨#[103, 101, 116]⟩, iI 2] (.cons (l1 3 0 (iI 2) hp10.get0) .nil) fun b16 => ?_))))
  refine OPS.cons (opStep.call (some 18) [iI 2] (by kernel_rfl) (rf_hasA 2 _) ?_)
  rintro _ w19 ⟨rfl, hf20⟩
  refine ⟨_, rfl, ?_⟩
  have hp21 := hp10.step hf20
  refine OPS.nil (thn_n (WP.condT rfl (wR (oQ 4 {} [iI A] [1, 20, 22] [pP g3, .string ((⟨#[103, 101, 116]⟩ : ByteArray) ++ (⟨#[32]⟩ : ByteArray)), iI A] (.cons (show (⟨#[103, 101, 116]⟩ : ByteArray).size + (⟨#[32]⟩ : ByteArray).size ≤ 9223372036854775807 from by first | omega | (simp only [ByteArray.size_append]; omega)) (.cons (l1 3 1 (iI A) hp21.get0) .nil)) fun b22 => ?_))))
  refine OPS.cons (opStep.call (some 23) [iI A] (by kernel_rfl) (rf_decimal A ⟨by omega, by omega⟩ _) ?_)
  rintro _ w25 ⟨rfl, hf26⟩
  refine ⟨_, rfl, ?_⟩
  have hp27 := hp21.step hf26
  refine oQ 2 {} [] [1, 5] [pP g3, .string (((⟨#[103, 101, 116]⟩ : ByteArray) ++ (⟨#[32]⟩ : ByteArray)) ++ (itoaT A))] (.cons (show ((⟨#[103, 101, 116]⟩ : ByteArray) ++ (⟨#[32]⟩ : ByteArray)).size + (itoaT A).size ≤ 9223372036854775807 from by first | omega | (simp only [ByteArray.size_append]; omega)) .nil) fun b28 => ?_
  refine OPS.nil (thn_n (WP.seq (WP.seq (wR (oQ 2 {} [iI 2] [1, 5, 26] (qc2 g3 A) (.cons (l1 3 0 (iI 2) hp27.get0) .nil) fun b29 => ?_)))))
  refine OPS.cons (opStep.call (some 27) [iI 2] (by kernel_rfl) (rf_hasB 2 _) ?_)
  rintro _ w32 ⟨rfl, hf33⟩
  refine ⟨_, rfl, ?_⟩
  have hp34 := hp27.step hf33
  refine OPS.nil (thn_n (WP.condF rfl (WP.skip (thn_n (WP.seq (WP.seq (wR (oQ 2 {} [iI 2] [1, 5, 35] (qc2 g3 A) (.cons (l1 3 0 (iI 2) hp34.get0) .nil) fun b35 => ?_))))))))
  refine OPS.cons (opStep.call (some 36) [iI 2] (by kernel_rfl) (rf_hasKey 2 _) ?_)
  rintro _ w38 ⟨rfl, hf39⟩
  refine ⟨_, rfl, ?_⟩
  have hp40 := hp34.step hf39
  refine OPS.nil (thn_n (WP.condT rfl (wR (oQ 4 {} [.string Ky] [1, 38, 40] [pP g3, .string ((((⟨#[103, 101, 116]⟩ : ByteArray) ++ (⟨#[32]⟩ : ByteArray)) ++ (itoaT A)) ++ (⟨#[32]⟩ : ByteArray)), .string Ky] (.cons (show (((⟨#[103, 101, 116]⟩ : ByteArray) ++ (⟨#[32]⟩ : ByteArray)) ++ (itoaT A)).size + (⟨#[32]⟩ : ByteArray).size ≤ 9223372036854775807 from by first | omega | (simp only [ByteArray.size_append]; omega)) (.cons (l1 9 3 (.string Ky) hp40.get0) .nil)) fun b41 => ?_))))
  refine OPS.cons (opStep.strBytes hp40 (by kernel_rfl) rfl (fun g44 c45 w42 hp43 => ?_))
  refine OPS.cons (opStep.call (some 42) [.slice (some ⟨g44, 0, none⟩) Ky.size c45] (by kernel_rfl) (rf_hex ⟨some ⟨g44, 0, none⟩, Ky.size, c45⟩ Ky _ rfl hsz1 (SlR.bs hp43.get0)) ?_)
  rintro _ w48 ⟨rfl, hf49⟩
  refine ⟨_, rfl, ?_⟩
  have hp50 := hp43.step hf49
  refine oQ 2 {} [] [1, 5] [pP g3, .string (((((⟨#[103, 101, 116]⟩ : ByteArray) ++ (⟨#[32]⟩ : ByteArray)) ++ (itoaT A)) ++ (⟨#[32]⟩ : ByteArray)) ++ (hexT Ky))] (.cons (show ((((⟨#[103, 101, 116]⟩ : ByteArray) ++ (⟨#[32]⟩ : ByteArray)) ++ (itoaT A)) ++ (⟨#[32]⟩ : ByteArray)).size + (hexT Ky).size ≤ 9223372036854775807 from by first | omega | (simp only [ByteArray.size_append]; omega)) .nil) fun b51 => ?_
  refine OPS.nil (thn_n (WP.seq (WP.seq (wQ {} [iI 2] [1, 5, 46] [pP g3, .string (((((⟨#[103, 101, 116]⟩ : ByteArray) ++ (⟨#[32]⟩ : ByteArray)) ++ (itoaT A)) ++ (⟨#[32]⟩ : ByteArray)) ++ (hexT Ky)), bF] (.cons (l1 3 0 (iI 2) hp50.get1) .nil) fun b52 => ?_))))
  refine thn_n (WP.condF rfl (WP.skip (thn_n (WP.seq (WP.seq (wP [1, 5, 6] [pP g3, .string (((((⟨#[103, 101, 116]⟩ : ByteArray) ++ (⟨#[32]⟩ : ByteArray)) ++ (itoaT A)) ++ (⟨#[32]⟩ : ByteArray)) ++ (hexT Ky)), iI 0] fun b53 => ?_))))))
  refine thn_n (WP.block ?_)
  refine WP.loop (fun mz_ e54 w55 => ∃ (j : Nat) (tx : ByteArray), mz_ = l.length - j ∧ (j ≤ l.length ∧ tx = joinB ([⟨#[103, 101, 116]⟩, itoaT A, hexT Ky] ++ (l.take j).map itoaT) ∧ tx.size ≤ 4398046512104 + 22 * j) ∧ List.map e54 [1, 5, 6] = (qc1 g3 tx j) ∧ Hp w Non [Res.bs g44 Ky, Res.row g3 [iI 2, iI A, iI B, .string Ky, .slice V.a V.n V.c, .slice L.a L.n L.c] 31] w55) (l.length - (0)) ⟨0, ((((⟨#[103, 101, 116]⟩ : ByteArray) ++ (⟨#[32]⟩ : ByteArray)) ++ (itoaT A)) ++ (⟨#[32]⟩ : ByteArray)) ++ (hexT Ky), rfl, ⟨Nat.zero_le _, by rw [List.take_zero, List.map_nil, List.append_nil]; exact jn3 ⟨#[103, 101, 116]⟩ (itoaT A) (hexT Ky), by simp only [ByteArray.size_append]; omega⟩, by kernel_rfl, hp50⟩ ?_
  rintro _ e54 w55 ⟨j, tx, rfl, hI57, hE58, hp56⟩
  obtain ⟨b59, rfl⟩ := toMk hE58
  clear hE58
  obtain ⟨pa, pb, pc⟩ := hI57
  have hlj : j < l.length → inI l[j]! := fun q => hi.2.2 _ (List.mem_of_getElem? (get_bang q))
  have hlz : j < l.length → (itoaT l[j]!).size ≤ 21 := fun q => itoa_le (hlj q)
  unfold inI at hlj
  refine WP.seq (WP.seq (wQ {} [.slice L.a L.n L.c] [1, 5, 6, 57] [pP g3, .string tx, iI (j : Int), .bool (decide ((j : Int) < ((L.n : Nat) : Int)))] (.cons (l1 29 5 (.slice L.a L.n L.c) hp56.get1) .nil) fun b60 => ?_))
  refine thn_n ?_
  refine WP.test (p := (j : Int) < ((L.n : Nat) : Int)) rfl Bp.dec (fun h61 => ?_) (fun h61 => ?_)
  ·refine WP.skip (thn_n (WP.seq (WP.block (wR ?_))))
   have hy65 : (l)[j]? = some l[j]! := get_bang (by first | (first | omega | (simp only [ByteArray.size_append]; omega)) | (simp only [List.length_append, List.length_cons, List.length_nil]; omega) | (simp only [List.length_take, List.length_append, List.length_cons, List.length_nil]; omega))
   refine oQ 7 {} [.slice L.a L.n L.c, iI (l[j]!)] [1, 6, 61, 66] [pP g3, iI (j : Int), .string (tx ++ (⟨#[32]⟩ : ByteArray)), iI (l[j]!)] (.cons (show tx.size + (⟨#[32]⟩ : ByteArray).size ≤ 9223372036854775807 from by first | omega | (simp only [ByteArray.size_append]; omega)) (.cons (l1 29 5 (.slice L.a L.n L.c) hp56.get1) (.cons (show InB ((j : Int)) (L.n) from ⟨by first | omega | (simp only [ByteArray.size_append]; omega), by first | omega | (simp only [ByteArray.size_append]; omega)⟩) (.cons ((hL.at hp56).some (by first | omega | (simp only [ByteArray.size_append]; omega))) (.cons (Ld.add0 (Ld.el1 (P := Tryd.prog) (t := 3) (hL.at hp56).rd 1 (fun _ => rfl) hy65 (o := 0) (v := iI (l[j]!)) (by kernel_rfl))) .nil))))) fun b66 => ?_
   refine OPS.cons (opStep.call (some 67) [iI (l[j]!)] (by kernel_rfl) (rf_decimal (l[j]!) ⟨by omega, by omega⟩ _) ?_)
   rintro _ w69 ⟨rfl, hf70⟩
   refine ⟨_, rfl, ?_⟩
   have hp71 := hp56.step hf70
   refine oQ 2 {} [] [1, 5, 6] [pP g3, .string ((tx ++ (⟨#[32]⟩ : ByteArray)) ++ (itoaT (l[j]!))), iI (j : Int)] (.cons (show (tx ++ (⟨#[32]⟩ : ByteArray)).size + (itoaT (l[j]!)).size ≤ 9223372036854775807 from by first | omega | (simp only [ByteArray.size_append]; omega)) .nil) fun b72 => ?_
   refine OPS.nil (blk_n (thn_n (wQ {} [] [1, 5, 6] [pP g3, .string ((tx ++ (⟨#[32]⟩ : ByteArray)) ++ (itoaT (l[j]!))), iI ((j : Int) + 1)] (.cons (show Rng .i64 ((j : Int) + 1) from Rng.i64 (by first | omega | (simp only [ByteArray.size_append]; omega))) .nil) fun b73 => ?_)))
   refine thn_n ?_
   exact ⟨l.length - (j + 1), (by omega), j + 1, (tx ++ (⟨#[32]⟩ : ByteArray)) ++ (itoaT (l[j]!)), rfl, ⟨by omega, by rw [pb, List.take_succ_eq_append_getElem (by omega), List.map_append, ← List.append_assoc, getElem!_pos l j (by omega)]; exact (join_snoc _ _ (by simp)).symm, by simp only [ByteArray.size_append]; omega⟩, by kernel_rfl, hp71⟩
  ·refine WP.exit (thn_x (thn_x (blk_hit (thn_n (WP.seq (wP [2, 3] [.string tx, iI 0] fun b74 => ?_))))))
   refine thn_n (WP.ret ?_)
   refine bodyQ.of _ rfl [.string tx, iI 0] ⟨rfl, rfl, trivial⟩ ?_
   have hck : chkI (⟨2, A, B, Ky, valAt w V, l⟩ : StepP) = 0 := by have h_ := h13; omega
   obtain rfl : j = l.length := by omega
   have hwe : tx = lineS (⟨2, A, B, Ky, valAt w V, l⟩ : StepP) := by rw [pb, List.take_of_length_le (Nat.le_refl _)]; rfl
   exact ⟨by simp only [pack]; rw [hwe, hck, lineV_ok (chk_ok hck)], hp56.fr⟩

theorem rl_k9 (A B : Int) (Ky : ByteArray) (V L : SlH) (l : List Int) (w : World) (hwd : (Res.row 1 wordsC 65).holds w) (hx : StR w Tr ⟨9, A, B, Ky, V, L⟩ (⟨9, A, B, Ky, valAt w V, l⟩ : StepP)) (hs : smS (⟨9, A, B, Ky, valAt w V, l⟩ : StepP)) :
  Calls Tryd.prog 13 #[GStep.val (⟨9, A, B, Ky, V, L⟩ : GStep)] w (fun r_ w' => r_ = .returned (.tuple #[.string (lineV (⟨9, A, B, Ky, valAt w V, l⟩ : StepP)), .int .i64 (chkI (⟨9, A, B, Ky, valAt w V, l⟩ : StepP))]) ∧ Fram Non w w') := by
 have hn := hx.ln
 have hL := hx.lr
 simp only at hn hL
 have hi := hs.1
 have hA := hi.1
 have hB := hi.2.1
 have hza := itoa_le hA
 have hzb := itoa_le hB
 unfold inI at hA hB
 have hsz1 := hs.2.1
 have hsz2 := hs.2.2.1
 have hsz3 := hs.2.2.2
 simp only at hA hB hza hzb hsz1 hsz2 hsz3
 have hzk := hexT_size Ky
 have hzv := hexT_size (valAt w V)
 have h32 : (⟨#[32]⟩ : ByteArray).size = 1 := rfl
 have hzw : (⟨#[98, 117, 114, 115, 116]⟩ : ByteArray).size ≤ 8 := by decide
 refine calls_of Tryd.func13 rfl 70 rfl (by simp) ?_
 have hp0 := Hp.init w
 have he0 : List.map (env0 [GStep.val (⟨9, A, B, Ky, V, L⟩ : GStep)]) [0] = [GStep.val (⟨9, A, B, Ky, V, L⟩ : GStep)] := by kernel_rfl
 obtain ⟨b0, he0⟩ := toMk he0
 rw [he0]
 clear he0
 refine WP.seq (wR ?_)
 refine OPS.cons (opStep.box hp0 [iI 9, iI A, iI B, .string Ky, .slice V.a V.n V.c, .slice L.a L.n L.c] (by kernel_rfl) (fun g3 w1 hp2 => ?_))
 refine oP 2 [1] [pP g3] fun b4 => ?_
 refine OPS.nil (thn_n (WP.seq (wR (oQ 1 {} [GStep.val (⟨9, A, B, Ky, V, L⟩ : GStep)] [1, 7] [pP g3, GStep.val (⟨9, A, B, Ky, V, L⟩ : GStep)] (.cons (lN 31 0 [iI 9, iI A, iI B, .string Ky, .slice V.a V.n V.c, .slice L.a L.n L.c] hp2.get0) .nil) fun b5 => ?_))))
 refine OPS.cons (opStep.call (some 8) [GStep.val (⟨9, A, B, Ky, V, L⟩ : GStep)] (by kernel_rfl) (rf_Check (⟨9, A, B, Ky, V, L⟩ : GStep) (⟨9, A, B, Ky, valAt w V, l⟩ : StepP) _ (hx.fram hp2.fr)) ?_)
 rintro _ w8 ⟨rfl, hf9⟩
 refine ⟨_, rfl, ?_⟩
 have hp10 := hp2.step hf9
 refine oP 1 [1, 4] [pP g3, iI (chkI (⟨9, A, B, Ky, valAt w V, l⟩ : StepP))] fun b11 => ?_
 refine OPS.nil (thn_n (WP.seq (WP.seq (wP [1, 4, 10] [pP g3, iI (chkI (⟨9, A, B, Ky, valAt w V, l⟩ : StepP)), .bool (decide (¬ ((chkI (⟨9, A, B, Ky, valAt w V, l⟩ : StepP)) = 0)))] fun b12 => ?_))))
 refine thn_n ?_
 refine WP.test (p := ¬ ((chkI (⟨9, A, B, Ky, valAt w V, l⟩ : StepP)) = 0)) rfl Bp.dec (fun h13 => ?_) (fun h13 => ?_)
 ·refine WP.seq (wP [2, 3] [.string ⟨#[]⟩, iI (chkI (⟨9, A, B, Ky, valAt w V, l⟩ : StepP))] fun b14 => ?_)
  refine thn_n (WP.ret (thn_r ?_))
  refine bodyQ.of _ rfl [.string ⟨#[]⟩, iI (chkI (⟨9, A, B, Ky, valAt w V, l⟩ : StepP))] ⟨rfl, rfl, trivial⟩ ?_
  exact ⟨by simp only [pack]; rw [lineV_no h13], hp10.fr⟩
 ·replace h13 := Classical.not_not.1 h13
  refine WP.skip (thn_n (WP.seq (wQ {} [iI 9, .string ⟨#[98, 117, 114, 115, 116]⟩] [1, 5] [pP g3, .string ⟨#[98, 117, 114, 115, 116]⟩] (.cons (l1 3 0 (iI 9) hp10.get0) (.cons (show InB (9) (17) from ⟨by first | omega | (simp only [ByteArray.size_append]; omega), by first | omega | (simp only [ByteArray.size_append]; omega)⟩) (.cons (l1 9 9 (.string ⟨#[98, 117, 114, 115, 116]⟩) (row_at hwd hp10.fr)) .nil))) fun b15 => ?_)))
  refine thn_n (WP.seq (WP.seq (wR (oQ 2 {} [iI 9] [1, 5, 17] [pP g3, .string ⟨#[98, 117, 114, 115, 116]⟩, iI 9] (.cons (l1 3 0 (iI 9) hp10.get0) .nil) fun b16 => ?_))))
  refine OPS.cons (opStep.call (some 18) [iI 9] (by kernel_rfl) (rf_hasA 9 _) ?_)
  rintro _ w19 ⟨rfl, hf20⟩
  refine ⟨_, rfl, ?_⟩
  have hp21 := hp10.step hf20
  refine OPS.nil (thn_n (WP.condT rfl (wR (oQ 4 {} [iI A] [1, 20, 22] [pP g3, .string ((⟨#[98, 117, 114, 115, 116]⟩ : ByteArray) ++ (⟨#[32]⟩ : ByteArray)), iI A] (.cons (show (⟨#[98, 117, 114, 115, 116]⟩ : ByteArray).size + (⟨#[32]⟩ : ByteArray).size ≤ 9223372036854775807 from by first | omega | (simp only [ByteArray.size_append]; omega)) (.cons (l1 3 1 (iI A) hp21.get0) .nil)) fun b22 => ?_))))
  refine OPS.cons (opStep.call (some 23) [iI A] (by kernel_rfl) (rf_decimal A ⟨by omega, by omega⟩ _) ?_)
  rintro _ w25 ⟨rfl, hf26⟩
  refine ⟨_, rfl, ?_⟩
  have hp27 := hp21.step hf26
  refine oQ 2 {} [] [1, 5] [pP g3, .string (((⟨#[98, 117, 114, 115, 116]⟩ : ByteArray) ++ (⟨#[32]⟩ : ByteArray)) ++ (itoaT A))] (.cons (show ((⟨#[98, 117, 114, 115, 116]⟩ : ByteArray) ++ (⟨#[32]⟩ : ByteArray)).size + (itoaT A).size ≤ 9223372036854775807 from by first | omega | (simp only [ByteArray.size_append]; omega)) .nil) fun b28 => ?_
  refine OPS.nil (thn_n (WP.seq (WP.seq (wR (oQ 2 {} [iI 9] [1, 5, 26] [pP g3, .string (((⟨#[98, 117, 114, 115, 116]⟩ : ByteArray) ++ (⟨#[32]⟩ : ByteArray)) ++ (itoaT A)), iI 9] (.cons (l1 3 0 (iI 9) hp27.get0) .nil) fun b29 => ?_)))))
  refine OPS.cons (opStep.call (some 27) [iI 9] (by kernel_rfl) (rf_hasB 9 _) ?_)
  rintro _ w32 ⟨rfl, hf33⟩
  refine ⟨_, rfl, ?_⟩
  have hp34 := hp27.step hf33
  refine OPS.nil (thn_n (WP.condT rfl (wR (oQ 4 {} [iI B] [1, 29, 31] [pP g3, .string ((((⟨#[98, 117, 114, 115, 116]⟩ : ByteArray) ++ (⟨#[32]⟩ : ByteArray)) ++ (itoaT A)) ++ (⟨#[32]⟩ : ByteArray)), iI B] (.cons (show (((⟨#[98, 117, 114, 115, 116]⟩ : ByteArray) ++ (⟨#[32]⟩ : ByteArray)) ++ (itoaT A)).size + (⟨#[32]⟩ : ByteArray).size ≤ 9223372036854775807 from by first | omega | (simp only [ByteArray.size_append]; omega)) (.cons (l1 3 2 (iI B) hp34.get0) .nil)) fun b35 => ?_))))
  refine OPS.cons (opStep.call (some 32) [iI B] (by kernel_rfl) (rf_decimal B ⟨by omega, by omega⟩ _) ?_)
  rintro _ w38 ⟨rfl, hf39⟩
  refine ⟨_, rfl, ?_⟩
  have hp40 := hp34.step hf39
  refine oQ 2 {} [] [1, 5] [pP g3, .string (((((⟨#[98, 117, 114, 115, 116]⟩ : ByteArray) ++ (⟨#[32]⟩ : ByteArray)) ++ (itoaT A)) ++ (⟨#[32]⟩ : ByteArray)) ++ (itoaT B))] (.cons (show ((((⟨#[98, 117, 114, 115, 116]⟩ : ByteArray) ++ (⟨#[32]⟩ : ByteArray)) ++ (itoaT A)) ++ (⟨#[32]⟩ : ByteArray)).size + (itoaT B).size ≤ 9223372036854775807 from by first | omega | (simp only [ByteArray.size_append]; omega)) .nil) fun b41 => ?_
  refine OPS.nil (thn_n (WP.seq (WP.seq (wR (oQ 2 {} [iI 9] [1, 5, 35] [pP g3, .string (((((⟨#[98, 117, 114, 115, 116]⟩ : ByteArray) ++ (⟨#[32]⟩ : ByteArray)) ++ (itoaT A)) ++ (⟨#[32]⟩ : ByteArray)) ++ (itoaT B)), iI 9] (.cons (l1 3 0 (iI 9) hp40.get0) .nil) fun b42 => ?_)))))
  refine OPS.cons (opStep.call (some 36) [iI 9] (by kernel_rfl) (rf_hasKey 9 _) ?_)
  rintro _ w45 ⟨rfl, hf46⟩
  refine ⟨_, rfl, ?_⟩
  have hp47 := hp40.step hf46
  refine OPS.nil (thn_n (WP.condF rfl (WP.skip (thn_n (WP.seq (WP.seq (wQ {} [iI 9] [1, 5, 46] [pP g3, .string (((((⟨#[98, 117, 114, 115, 116]⟩ : ByteArray) ++ (⟨#[32]⟩ : ByteArray)) ++ (itoaT A)) ++ (⟨#[32]⟩ : ByteArray)) ++ (itoaT B)), bF] (.cons (l1 3 0 (iI 9) hp47.get0) .nil) fun b48 => ?_)))))))
  refine thn_n (WP.condF rfl (WP.skip (thn_n (WP.seq (WP.seq (wP [1, 5, 6] [pP g3, .string (((((⟨#[98, 117, 114, 115, 116]⟩ : ByteArray) ++ (⟨#[32]⟩ : ByteArray)) ++ (itoaT A)) ++ (⟨#[32]⟩ : ByteArray)) ++ (itoaT B)), iI 0] fun b49 => ?_))))))
  refine thn_n (WP.block ?_)
  refine WP.loop (fun mz_ e50 w51 => ∃ (j : Nat) (tx : ByteArray), mz_ = l.length - j ∧ (j ≤ l.length ∧ tx = joinB ([⟨#[98, 117, 114, 115, 116]⟩, itoaT A, itoaT B] ++ (l.take j).map itoaT) ∧ tx.size ≤ 4398046512104 + 22 * j) ∧ List.map e50 [1, 5, 6] = (qc1 g3 tx j) ∧ Hp w Non [Res.row g3 [iI 9, iI A, iI B, .string Ky, .slice V.a V.n V.c, .slice L.a L.n L.c] 31] w51) (l.length - (0)) ⟨0, ((((⟨#[98, 117, 114, 115, 116]⟩ : ByteArray) ++ (⟨#[32]⟩ : ByteArray)) ++ (itoaT A)) ++ (⟨#[32]⟩ : ByteArray)) ++ (itoaT B), rfl, ⟨Nat.zero_le _, by rw [List.take_zero, List.map_nil, List.append_nil]; exact jn3 ⟨#[98, 117, 114, 115, 116]⟩ (itoaT A) (itoaT B), by simp only [ByteArray.size_append]; omega⟩, by kernel_rfl, hp47⟩ ?_
  rintro _ e50 w51 ⟨j, tx, rfl, hI53, hE54, hp52⟩
  obtain ⟨b55, rfl⟩ := toMk hE54
  clear hE54
  obtain ⟨pa, pb, pc⟩ := hI53
  have hlj : j < l.length → inI l[j]! := fun q => hi.2.2 _ (List.mem_of_getElem? (get_bang q))
  have hlz : j < l.length → (itoaT l[j]!).size ≤ 21 := fun q => itoa_le (hlj q)
  unfold inI at hlj
  refine WP.seq (WP.seq (wQ {} [.slice L.a L.n L.c] [1, 5, 6, 57] [pP g3, .string tx, iI (j : Int), .bool (decide ((j : Int) < ((L.n : Nat) : Int)))] (.cons (l1 29 5 (.slice L.a L.n L.c) hp52.get0) .nil) fun b56 => ?_))
  refine thn_n ?_
  refine WP.test (p := (j : Int) < ((L.n : Nat) : Int)) rfl Bp.dec (fun h57 => ?_) (fun h57 => ?_)
  ·refine WP.skip (thn_n (WP.seq (WP.block (wR ?_))))
   have hy61 : (l)[j]? = some l[j]! := get_bang (by first | (first | omega | (simp only [ByteArray.size_append]; omega)) | (simp only [List.length_append, List.length_cons, List.length_nil]; omega) | (simp only [List.length_take, List.length_append, List.length_cons, List.length_nil]; omega))
   refine oQ 7 {} [.slice L.a L.n L.c, iI (l[j]!)] [1, 6, 61, 66] [pP g3, iI (j : Int), .string (tx ++ (⟨#[32]⟩ : ByteArray)), iI (l[j]!)] (.cons (show tx.size + (⟨#[32]⟩ : ByteArray).size ≤ 9223372036854775807 from by first | omega | (simp only [ByteArray.size_append]; omega)) (.cons (l1 29 5 (.slice L.a L.n L.c) hp52.get0) (.cons (show InB ((j : Int)) (L.n) from ⟨by first | omega | (simp only [ByteArray.size_append]; omega), by first | omega | (simp only [ByteArray.size_append]; omega)⟩) (.cons ((hL.at hp52).some (by first | omega | (simp only [ByteArray.size_append]; omega))) (.cons (Ld.add0 (Ld.el1 (P := Tryd.prog) (t := 3) (hL.at hp52).rd 1 (fun _ => rfl) hy61 (o := 0) (v := iI (l[j]!)) (by kernel_rfl))) .nil))))) fun b62 => ?_
   refine OPS.cons (opStep.call (some 67) [iI (l[j]!)] (by kernel_rfl) (rf_decimal (l[j]!) ⟨by omega, by omega⟩ _) ?_)
   rintro _ w65 ⟨rfl, hf66⟩
   refine ⟨_, rfl, ?_⟩
   have hp67 := hp52.step hf66
   refine oQ 2 {} [] [1, 5, 6] [pP g3, .string ((tx ++ (⟨#[32]⟩ : ByteArray)) ++ (itoaT (l[j]!))), iI (j : Int)] (.cons (show (tx ++ (⟨#[32]⟩ : ByteArray)).size + (itoaT (l[j]!)).size ≤ 9223372036854775807 from by first | omega | (simp only [ByteArray.size_append]; omega)) .nil) fun b68 => ?_
   refine OPS.nil (blk_n (thn_n (wQ {} [] [1, 5, 6] [pP g3, .string ((tx ++ (⟨#[32]⟩ : ByteArray)) ++ (itoaT (l[j]!))), iI ((j : Int) + 1)] (.cons (show Rng .i64 ((j : Int) + 1) from Rng.i64 (by first | omega | (simp only [ByteArray.size_append]; omega))) .nil) fun b69 => ?_)))
   refine thn_n ?_
   exact ⟨l.length - (j + 1), (by omega), j + 1, (tx ++ (⟨#[32]⟩ : ByteArray)) ++ (itoaT (l[j]!)), rfl, ⟨by omega, by rw [pb, List.take_succ_eq_append_getElem (by omega), List.map_append, ← List.append_assoc, getElem!_pos l j (by omega)]; exact (join_snoc _ _ (by simp)).symm, by simp only [ByteArray.size_append]; omega⟩, by kernel_rfl, hp67⟩
  ·refine WP.exit (thn_x (thn_x (blk_hit (thn_n (WP.seq (wP [2, 3] [.string tx, iI 0] fun b70 => ?_))))))
   refine thn_n (WP.ret ?_)
   refine bodyQ.of _ rfl [.string tx, iI 0] ⟨rfl, rfl, trivial⟩ ?_
   have hck : chkI (⟨9, A, B, Ky, valAt w V, l⟩ : StepP) = 0 := by have h_ := h13; omega
   obtain rfl : j = l.length := by omega
   have hwe : tx = lineS (⟨9, A, B, Ky, valAt w V, l⟩ : StepP) := by rw [pb, List.take_of_length_le (Nat.le_refl _)]; rfl
   exact ⟨by simp only [pack]; rw [hwe, hck, lineV_ok (chk_ok hck)], hp52.fr⟩

theorem rl_k10 (A B : Int) (Ky : ByteArray) (V L : SlH) (l : List Int) (w : World) (hwd : (Res.row 1 wordsC 65).holds w) (hx : StR w Tr ⟨10, A, B, Ky, V, L⟩ (⟨10, A, B, Ky, valAt w V, l⟩ : StepP)) (hs : smS (⟨10, A, B, Ky, valAt w V, l⟩ : StepP)) :
  Calls Tryd.prog 13 #[GStep.val (⟨10, A, B, Ky, V, L⟩ : GStep)] w (fun r_ w' => r_ = .returned (.tuple #[.string (lineV (⟨10, A, B, Ky, valAt w V, l⟩ : StepP)), .int .i64 (chkI (⟨10, A, B, Ky, valAt w V, l⟩ : StepP))]) ∧ Fram Non w w') := by
 have hn := hx.ln
 have hL := hx.lr
 simp only at hn hL
 have hi := hs.1
 have hA := hi.1
 have hB := hi.2.1
 have hza := itoa_le hA
 have hzb := itoa_le hB
 unfold inI at hA hB
 have hsz1 := hs.2.1
 have hsz2 := hs.2.2.1
 have hsz3 := hs.2.2.2
 simp only at hA hB hza hzb hsz1 hsz2 hsz3
 have hzk := hexT_size Ky
 have hzv := hexT_size (valAt w V)
 have h32 : (⟨#[32]⟩ : ByteArray).size = 1 := rfl
 have hzw : (⟨#[99, 117, 116]⟩ : ByteArray).size ≤ 8 := by decide
 refine calls_of Tryd.func13 rfl 70 rfl (by simp) ?_
 have hp0 := Hp.init w
 have he0 : List.map (env0 [GStep.val (⟨10, A, B, Ky, V, L⟩ : GStep)]) [0] = [GStep.val (⟨10, A, B, Ky, V, L⟩ : GStep)] := by kernel_rfl
 obtain ⟨b0, he0⟩ := toMk he0
 rw [he0]
 clear he0
 refine WP.seq (wR ?_)
 refine OPS.cons (opStep.box hp0 [iI 10, iI A, iI B, .string Ky, .slice V.a V.n V.c, .slice L.a L.n L.c] (by kernel_rfl) (fun g3 w1 hp2 => ?_))
 refine oP 2 [1] [pP g3] fun b4 => ?_
 refine OPS.nil (thn_n (WP.seq (wR (oQ 1 {} [GStep.val (⟨10, A, B, Ky, V, L⟩ : GStep)] [1, 7] [pP g3, GStep.val (⟨10, A, B, Ky, V, L⟩ : GStep)] (.cons (lN 31 0 [iI 10, iI A, iI B, .string Ky, .slice V.a V.n V.c, .slice L.a L.n L.c] hp2.get0) .nil) fun b5 => ?_))))
 refine OPS.cons (opStep.call (some 8) [GStep.val (⟨10, A, B, Ky, V, L⟩ : GStep)] (by kernel_rfl) (rf_Check (⟨10, A, B, Ky, V, L⟩ : GStep) (⟨10, A, B, Ky, valAt w V, l⟩ : StepP) _ (hx.fram hp2.fr)) ?_)
 rintro _ w8 ⟨rfl, hf9⟩
 refine ⟨_, rfl, ?_⟩
 have hp10 := hp2.step hf9
 refine oP 1 [1, 4] [pP g3, iI (chkI (⟨10, A, B, Ky, valAt w V, l⟩ : StepP))] fun b11 => ?_
 refine OPS.nil (thn_n (WP.seq (WP.seq (wP [1, 4, 10] [pP g3, iI (chkI (⟨10, A, B, Ky, valAt w V, l⟩ : StepP)), .bool (decide (¬ ((chkI (⟨10, A, B, Ky, valAt w V, l⟩ : StepP)) = 0)))] fun b12 => ?_))))
 refine thn_n ?_
 refine WP.test (p := ¬ ((chkI (⟨10, A, B, Ky, valAt w V, l⟩ : StepP)) = 0)) rfl Bp.dec (fun h13 => ?_) (fun h13 => ?_)
 ·refine WP.seq (wP [2, 3] [.string ⟨#[]⟩, iI (chkI (⟨10, A, B, Ky, valAt w V, l⟩ : StepP))] fun b14 => ?_)
  refine thn_n (WP.ret (thn_r ?_))
  refine bodyQ.of _ rfl [.string ⟨#[]⟩, iI (chkI (⟨10, A, B, Ky, valAt w V, l⟩ : StepP))] ⟨rfl, rfl, trivial⟩ ?_
  exact ⟨by simp only [pack]; rw [lineV_no h13], hp10.fr⟩
 ·replace h13 := Classical.not_not.1 h13
  refine WP.skip (thn_n (WP.seq (wQ {} [iI 10, .string ⟨#[99, 117, 116]⟩] [1, 5] [pP g3, .string ⟨#[99, 117, 116]⟩] (.cons (l1 3 0 (iI 10) hp10.get0) (.cons (show InB (10) (17) from ⟨by first | omega | (simp only [ByteArray.size_append]; omega), by first | omega | (simp only [ByteArray.size_append]; omega)⟩) (.cons (l1 9 10 (.string ⟨#[99, 117, 116]⟩) (row_at hwd hp10.fr)) .nil))) fun b15 => ?_)))
  refine thn_n (WP.seq (WP.seq (wR (oQ 2 {} [iI 10] [1, 5, 17] [pP g3, .string ⟨#[99, 117, 116]⟩, iI 10] (.cons (l1 3 0 (iI 10) hp10.get0) .nil) fun b16 => ?_))))
  refine OPS.cons (opStep.call (some 18) [iI 10] (by kernel_rfl) (rf_hasA 10 _) ?_)
  rintro _ w19 ⟨rfl, hf20⟩
  refine ⟨_, rfl, ?_⟩
  have hp21 := hp10.step hf20
  refine OPS.nil (thn_n (WP.condT rfl (wR (oQ 4 {} [iI A] [1, 20, 22] [pP g3, .string ((⟨#[99, 117, 116]⟩ : ByteArray) ++ (⟨#[32]⟩ : ByteArray)), iI A] (.cons (show (⟨#[99, 117, 116]⟩ : ByteArray).size + (⟨#[32]⟩ : ByteArray).size ≤ 9223372036854775807 from by first | omega | (simp only [ByteArray.size_append]; omega)) (.cons (l1 3 1 (iI A) hp21.get0) .nil)) fun b22 => ?_))))
  refine OPS.cons (opStep.call (some 23) [iI A] (by kernel_rfl) (rf_decimal A ⟨by omega, by omega⟩ _) ?_)
  rintro _ w25 ⟨rfl, hf26⟩
  refine ⟨_, rfl, ?_⟩
  have hp27 := hp21.step hf26
  refine oQ 2 {} [] [1, 5] [pP g3, .string (((⟨#[99, 117, 116]⟩ : ByteArray) ++ (⟨#[32]⟩ : ByteArray)) ++ (itoaT A))] (.cons (show ((⟨#[99, 117, 116]⟩ : ByteArray) ++ (⟨#[32]⟩ : ByteArray)).size + (itoaT A).size ≤ 9223372036854775807 from by first | omega | (simp only [ByteArray.size_append]; omega)) .nil) fun b28 => ?_
  refine OPS.nil (thn_n (WP.seq (WP.seq (wR (oQ 2 {} [iI 10] [1, 5, 26] [pP g3, .string (((⟨#[99, 117, 116]⟩ : ByteArray) ++ (⟨#[32]⟩ : ByteArray)) ++ (itoaT A)), iI 10] (.cons (l1 3 0 (iI 10) hp27.get0) .nil) fun b29 => ?_)))))
  refine OPS.cons (opStep.call (some 27) [iI 10] (by kernel_rfl) (rf_hasB 10 _) ?_)
  rintro _ w32 ⟨rfl, hf33⟩
  refine ⟨_, rfl, ?_⟩
  have hp34 := hp27.step hf33
  refine OPS.nil (thn_n (WP.condT rfl (wR (oQ 4 {} [iI B] [1, 29, 31] [pP g3, .string ((((⟨#[99, 117, 116]⟩ : ByteArray) ++ (⟨#[32]⟩ : ByteArray)) ++ (itoaT A)) ++ (⟨#[32]⟩ : ByteArray)), iI B] (.cons (show (((⟨#[99, 117, 116]⟩ : ByteArray) ++ (⟨#[32]⟩ : ByteArray)) ++ (itoaT A)).size + (⟨#[32]⟩ : ByteArray).size ≤ 9223372036854775807 from by first | omega | (simp only [ByteArray.size_append]; omega)) (.cons (l1 3 2 (iI B) hp34.get0) .nil)) fun b35 => ?_))))
  refine OPS.cons (opStep.call (some 32) [iI B] (by kernel_rfl) (rf_decimal B ⟨by omega, by omega⟩ _) ?_)
  rintro _ w38 ⟨rfl, hf39⟩
  refine ⟨_, rfl, ?_⟩
  have hp40 := hp34.step hf39
  refine oQ 2 {} [] [1, 5] [pP g3, .string (((((⟨#[99, 117, 116]⟩ : ByteArray) ++ (⟨#[32]⟩ : ByteArray)) ++ (itoaT A)) ++ (⟨#[32]⟩ : ByteArray)) ++ (itoaT B))] (.cons (show ((((⟨#[99, 117, 116]⟩ : ByteArray) ++ (⟨#[32]⟩ : ByteArray)) ++ (itoaT A)) ++ (⟨#[32]⟩ : ByteArray)).size + (itoaT B).size ≤ 9223372036854775807 from by first | omega | (simp only [ByteArray.size_append]; omega)) .nil) fun b41 => ?_
  refine OPS.nil (thn_n (WP.seq (WP.seq (wR (oQ 2 {} [iI 10] [1, 5, 35] [pP g3, .string (((((⟨#[99, 117, 116]⟩ : ByteArray) ++ (⟨#[32]⟩ : ByteArray)) ++ (itoaT A)) ++ (⟨#[32]⟩ : ByteArray)) ++ (itoaT B)), iI 10] (.cons (l1 3 0 (iI 10) hp40.get0) .nil) fun b42 => ?_)))))
  refine OPS.cons (opStep.call (some 36) [iI 10] (by kernel_rfl) (rf_hasKey 10 _) ?_)
  rintro _ w45 ⟨rfl, hf46⟩
  refine ⟨_, rfl, ?_⟩
  have hp47 := hp40.step hf46
  refine OPS.nil (thn_n (WP.condF rfl (WP.skip (thn_n (WP.seq (WP.seq (wQ {} [iI 10] [1, 5, 46] [pP g3, .string (((((⟨#[99, 117, 116]⟩ : ByteArray) ++ (⟨#[32]⟩ : ByteArray)) ++ (itoaT A)) ++ (⟨#[32]⟩ : ByteArray)) ++ (itoaT B)), bF] (.cons (l1 3 0 (iI 10) hp47.get0) .nil) fun b48 => ?_)))))))
  refine thn_n (WP.condF rfl (WP.skip (thn_n (WP.seq (WP.seq (wP [1, 5, 6] [pP g3, .string (((((⟨#[99, 117, 116]⟩ : ByteArray) ++ (⟨#[32]⟩ : ByteArray)) ++ (itoaT A)) ++ (⟨#[32]⟩ : ByteArray)) ++ (itoaT B)), iI 0] fun b49 => ?_))))))
  refine thn_n (WP.block ?_)
  refine WP.loop (fun mz_ e50 w51 => ∃ (j : Nat) (tx : ByteArray), mz_ = l.length - j ∧ (j ≤ l.length ∧ tx = joinB ([⟨#[99, 117, 116]⟩, itoaT A, itoaT B] ++ (l.take j).map itoaT) ∧ tx.size ≤ 4398046512104 + 22 * j) ∧ List.map e50 [1, 5, 6] = (qc1 g3 tx j) ∧ Hp w Non [Res.row g3 [iI 10, iI A, iI B, .string Ky, .slice V.a V.n V.c, .slice L.a L.n L.c] 31] w51) (l.length - (0)) ⟨0, ((((⟨#[99, 117, 116]⟩ : ByteArray) ++ (⟨#[32]⟩ : ByteArray)) ++ (itoaT A)) ++ (⟨#[32]⟩ : ByteArray)) ++ (itoaT B), rfl, ⟨Nat.zero_le _, by rw [List.take_zero, List.map_nil, List.append_nil]; exact jn3 ⟨#[99, 117, 116]⟩ (itoaT A) (itoaT B), by simp only [ByteArray.size_append]; omega⟩, by kernel_rfl, hp47⟩ ?_
  rintro _ e50 w51 ⟨j, tx, rfl, hI53, hE54, hp52⟩
  obtain ⟨b55, rfl⟩ := toMk hE54
  clear hE54
  obtain ⟨pa, pb, pc⟩ := hI53
  have hlj : j < l.length → inI l[j]! := fun q => hi.2.2 _ (List.mem_of_getElem? (get_bang q))
  have hlz : j < l.length → (itoaT l[j]!).size ≤ 21 := fun q => itoa_le (hlj q)
  unfold inI at hlj
  refine WP.seq (WP.seq (wQ {} [.slice L.a L.n L.c] [1, 5, 6, 57] [pP g3, .string tx, iI (j : Int), .bool (decide ((j : Int) < ((L.n : Nat) : Int)))] (.cons (l1 29 5 (.slice L.a L.n L.c) hp52.get0) .nil) fun b56 => ?_))
  refine thn_n ?_
  refine WP.test (p := (j : Int) < ((L.n : Nat) : Int)) rfl Bp.dec (fun h57 => ?_) (fun h57 => ?_)
  ·refine WP.skip (thn_n (WP.seq (WP.block (wR ?_))))
   have hy61 : (l)[j]? = some l[j]! := get_bang (by first | (first | omega | (simp only [ByteArray.size_append]; omega)) | (simp only [List.length_append, List.length_cons, List.length_nil]; omega) | (simp only [List.length_take, List.length_append, List.length_cons, List.length_nil]; omega))
   refine oQ 7 {} [.slice L.a L.n L.c, iI (l[j]!)] [1, 6, 61, 66] [pP g3, iI (j : Int), .string (tx ++ (⟨#[32]⟩ : ByteArray)), iI (l[j]!)] (.cons (show tx.size + (⟨#[32]⟩ : ByteArray).size ≤ 9223372036854775807 from by first | omega | (simp only [ByteArray.size_append]; omega)) (.cons (l1 29 5 (.slice L.a L.n L.c) hp52.get0) (.cons (show InB ((j : Int)) (L.n) from ⟨by first | omega | (simp only [ByteArray.size_append]; omega), by first | omega | (simp only [ByteArray.size_append]; omega)⟩) (.cons ((hL.at hp52).some (by first | omega | (simp only [ByteArray.size_append]; omega))) (.cons (Ld.add0 (Ld.el1 (P := Tryd.prog) (t := 3) (hL.at hp52).rd 1 (fun _ => rfl) hy61 (o := 0) (v := iI (l[j]!)) (by kernel_rfl))) .nil))))) fun b62 => ?_
   refine OPS.cons (opStep.call (some 67) [iI (l[j]!)] (by kernel_rfl) (rf_decimal (l[j]!) ⟨by omega, by omega⟩ _) ?_)
   rintro _ w65 ⟨rfl, hf66⟩
   refine ⟨_, rfl, ?_⟩
   have hp67 := hp52.step hf66
   refine oQ 2 {} [] [1, 5, 6] [pP g3, .string ((tx ++ (⟨#[32]⟩ : ByteArray)) ++ (itoaT (l[j]!))), iI (j : Int)] (.cons (show (tx ++ (⟨#[32]⟩ : ByteArray)).size + (itoaT (l[j]!)).size ≤ 9223372036854775807 from by first | omega | (simp only [ByteArray.size_append]; omega)) .nil) fun b68 => ?_
   refine OPS.nil (blk_n (thn_n (wQ {} [] [1, 5, 6] [pP g3, .string ((tx ++ (⟨#[32]⟩ : ByteArray)) ++ (itoaT (l[j]!))), iI ((j : Int) + 1)] (.cons (show Rng .i64 ((j : Int) + 1) from Rng.i64 (by first | omega | (simp only [ByteArray.size_append]; omega))) .nil) fun b69 => ?_)))
   refine thn_n ?_
   exact ⟨l.length - (j + 1), (by omega), j + 1, (tx ++ (⟨#[32]⟩ : ByteArray)) ++ (itoaT (l[j]!)), rfl, ⟨by omega, by rw [pb, List.take_succ_eq_append_getElem (by omega), List.map_append, ← List.append_assoc, getElem!_pos l j (by omega)]; exact (join_snoc _ _ (by simp)).symm, by simp only [ByteArray.size_append]; omega⟩, by kernel_rfl, hp67⟩
  ·refine WP.exit (thn_x (thn_x (blk_hit (thn_n (WP.seq (wP [2, 3] [.string tx, iI 0] fun b70 => ?_))))))
   refine thn_n (WP.ret ?_)
   refine bodyQ.of _ rfl [.string tx, iI 0] ⟨rfl, rfl, trivial⟩ ?_
   have hck : chkI (⟨10, A, B, Ky, valAt w V, l⟩ : StepP) = 0 := by have h_ := h13; omega
   obtain rfl : j = l.length := by omega
   have hwe : tx = lineS (⟨10, A, B, Ky, valAt w V, l⟩ : StepP) := by rw [pb, List.take_of_length_le (Nat.le_refl _)]; rfl
   exact ⟨by simp only [pack]; rw [hwe, hck, lineV_ok (chk_ok hck)], hp52.fr⟩

theorem rl_k12 (A B : Int) (Ky : ByteArray) (V L : SlH) (l : List Int) (w : World) (hwd : (Res.row 1 wordsC 65).holds w) (hx : StR w Tr ⟨12, A, B, Ky, V, L⟩ (⟨12, A, B, Ky, valAt w V, l⟩ : StepP)) (hs : smS (⟨12, A, B, Ky, valAt w V, l⟩ : StepP)) :
  Calls Tryd.prog 13 #[GStep.val (⟨12, A, B, Ky, V, L⟩ : GStep)] w (fun r_ w' => r_ = .returned (.tuple #[.string (lineV (⟨12, A, B, Ky, valAt w V, l⟩ : StepP)), .int .i64 (chkI (⟨12, A, B, Ky, valAt w V, l⟩ : StepP))]) ∧ Fram Non w w') := by
 have hn := hx.ln
 have hL := hx.lr
 simp only at hn hL
 have hi := hs.1
 have hA := hi.1
 have hB := hi.2.1
 have hza := itoa_le hA
 have hzb := itoa_le hB
 unfold inI at hA hB
 have hsz1 := hs.2.1
 have hsz2 := hs.2.2.1
 have hsz3 := hs.2.2.2
 simp only at hA hB hza hzb hsz1 hsz2 hsz3
 have hzk := hexT_size Ky
 have hzv := hexT_size (valAt w V)
 have h32 : (⟨#[32]⟩ : ByteArray).size = 1 := rfl
 have hzw : (⟨#[99, 114, 97, 115, 104]⟩ : ByteArray).size ≤ 8 := by decide
 refine calls_of Tryd.func13 rfl 70 rfl (by simp) ?_
 have hp0 := Hp.init w
 have he0 : List.map (env0 [GStep.val (⟨12, A, B, Ky, V, L⟩ : GStep)]) [0] = [GStep.val (⟨12, A, B, Ky, V, L⟩ : GStep)] := by kernel_rfl
 obtain ⟨b0, he0⟩ := toMk he0
 rw [he0]
 clear he0
 refine WP.seq (wR ?_)
 refine OPS.cons (opStep.box hp0 [iI 12, iI A, iI B, .string Ky, .slice V.a V.n V.c, .slice L.a L.n L.c] (by kernel_rfl) (fun g3 w1 hp2 => ?_))
 refine oP 2 [1] [pP g3] fun b4 => ?_
 refine OPS.nil (thn_n (WP.seq (wR (oQ 1 {} [GStep.val (⟨12, A, B, Ky, V, L⟩ : GStep)] [1, 7] [pP g3, GStep.val (⟨12, A, B, Ky, V, L⟩ : GStep)] (.cons (lN 31 0 [iI 12, iI A, iI B, .string Ky, .slice V.a V.n V.c, .slice L.a L.n L.c] hp2.get0) .nil) fun b5 => ?_))))
 refine OPS.cons (opStep.call (some 8) [GStep.val (⟨12, A, B, Ky, V, L⟩ : GStep)] (by kernel_rfl) (rf_Check (⟨12, A, B, Ky, V, L⟩ : GStep) (⟨12, A, B, Ky, valAt w V, l⟩ : StepP) _ (hx.fram hp2.fr)) ?_)
 rintro _ w8 ⟨rfl, hf9⟩
 refine ⟨_, rfl, ?_⟩
 have hp10 := hp2.step hf9
 refine oP 1 [1, 4] [pP g3, iI (chkI (⟨12, A, B, Ky, valAt w V, l⟩ : StepP))] fun b11 => ?_
 refine OPS.nil (thn_n (WP.seq (WP.seq (wP [1, 4, 10] [pP g3, iI (chkI (⟨12, A, B, Ky, valAt w V, l⟩ : StepP)), .bool (decide (¬ ((chkI (⟨12, A, B, Ky, valAt w V, l⟩ : StepP)) = 0)))] fun b12 => ?_))))
 refine thn_n ?_
 refine WP.test (p := ¬ ((chkI (⟨12, A, B, Ky, valAt w V, l⟩ : StepP)) = 0)) rfl Bp.dec (fun h13 => ?_) (fun h13 => ?_)
 ·refine WP.seq (wP [2, 3] [.string ⟨#[]⟩, iI (chkI (⟨12, A, B, Ky, valAt w V, l⟩ : StepP))] fun b14 => ?_)
  refine thn_n (WP.ret (thn_r ?_))
  refine bodyQ.of _ rfl [.string ⟨#[]⟩, iI (chkI (⟨12, A, B, Ky, valAt w V, l⟩ : StepP))] ⟨rfl, rfl, trivial⟩ ?_
  exact ⟨by simp only [pack]; rw [lineV_no h13], hp10.fr⟩
 ·replace h13 := Classical.not_not.1 h13
  refine WP.skip (thn_n (WP.seq (wQ {} [iI 12, .string ⟨#[99, 114, 97, 115, 104]⟩] [1, 5] [pP g3, .string ⟨#[99, 114, 97, 115, 104]⟩] (.cons (l1 3 0 (iI 12) hp10.get0) (.cons (show InB (12) (17) from ⟨by first | omega | (simp only [ByteArray.size_append]; omega), by first | omega | (simp only [ByteArray.size_append]; omega)⟩) (.cons (l1 9 12 (.string ⟨#[99, 114, 97, 115, 104]⟩) (row_at hwd hp10.fr)) .nil))) fun b15 => ?_)))
  refine thn_n (WP.seq (WP.seq (wR (oQ 2 {} [iI 12] [1, 5, 17] [pP g3, .string ⟨#[99, 114, 97, 115, 104]⟩, iI 12] (.cons (l1 3 0 (iI 12) hp10.get0) .nil) fun b16 => ?_))))
  refine OPS.cons (opStep.call (some 18) [iI 12] (by kernel_rfl) (rf_hasA 12 _) ?_)
  rintro _ w19 ⟨rfl, hf20⟩
  refine ⟨_, rfl, ?_⟩
  have hp21 := hp10.step hf20
  refine OPS.nil (thn_n (WP.condT rfl (wR (oQ 4 {} [iI A] [1, 20, 22] [pP g3, .string ((⟨#[99, 114, 97, 115, 104]⟩ : ByteArray) ++ (⟨#[32]⟩ : ByteArray)), iI A] (.cons (show (⟨#[99, 114, 97, 115, 104]⟩ : ByteArray).size + (⟨#[32]⟩ : ByteArray).size ≤ 9223372036854775807 from by first | omega | (simp only [ByteArray.size_append]; omega)) (.cons (l1 3 1 (iI A) hp21.get0) .nil)) fun b22 => ?_))))
  refine OPS.cons (opStep.call (some 23) [iI A] (by kernel_rfl) (rf_decimal A ⟨by omega, by omega⟩ _) ?_)
  rintro _ w25 ⟨rfl, hf26⟩
  refine ⟨_, rfl, ?_⟩
  have hp27 := hp21.step hf26
  refine oQ 2 {} [] [1, 5] [pP g3, .string (((⟨#[99, 114, 97, 115, 104]⟩ : ByteArray) ++ (⟨#[32]⟩ : ByteArray)) ++ (itoaT A))] (.cons (show ((⟨#[99, 114, 97, 115, 104]⟩ : ByteArray) ++ (⟨#[32]⟩ : ByteArray)).size + (itoaT A).size ≤ 9223372036854775807 from by first | omega | (simp only [ByteArray.size_append]; omega)) .nil) fun b28 => ?_
  refine OPS.nil (thn_n (WP.seq (WP.seq (wR (oQ 2 {} [iI 12] [1, 5, 26] (qc3 g3 A) (.cons (l1 3 0 (iI 12) hp27.get0) .nil) fun b29 => ?_)))))
  refine OPS.cons (opStep.call (some 27) [iI 12] (by kernel_rfl) (rf_hasB 12 _) ?_)
  rintro _ w32 ⟨rfl, hf33⟩
  refine ⟨_, rfl, ?_⟩
  have hp34 := hp27.step hf33
  refine OPS.nil (thn_n (WP.condF rfl (WP.skip (thn_n (WP.seq (WP.seq (wR (oQ 2 {} [iI 12] [1, 5, 35] (qc3 g3 A) (.cons (l1 3 0 (iI 12) hp34.get0) .nil) fun b35 => ?_))))))))
  refine OPS.cons (opStep.call (some 36) [iI 12] (by kernel_rfl) (rf_hasKey 12 _) ?_)
  rintro _ w38 ⟨rfl, hf39⟩
  refine ⟨_, rfl, ?_⟩
  have hp40 := hp34.step hf39
  refine OPS.nil (thn_n (WP.condF rfl (WP.skip (thn_n (WP.seq (WP.seq (wQ {} [iI 12] [1, 5, 46] [pP g3, .string (((⟨#[99, 114, 97, 115, 104]⟩ : ByteArray) ++ (⟨#[32]⟩ : ByteArray)) ++ (itoaT A)), bF] (.cons (l1 3 0 (iI 12) hp40.get0) .nil) fun b41 => ?_)))))))
  refine thn_n (WP.condF rfl (WP.skip (thn_n (WP.seq (WP.seq (wP [1, 5, 6] [pP g3, .string (((⟨#[99, 114, 97, 115, 104]⟩ : ByteArray) ++ (⟨#[32]⟩ : ByteArray)) ++ (itoaT A)), iI 0] fun b42 => ?_))))))
  refine thn_n (WP.block ?_)
  refine WP.loop (fun mz_ e43 w44 => ∃ (j : Nat) (tx : ByteArray), mz_ = l.length - j ∧ (j ≤ l.length ∧ tx = joinB ([⟨#[99, 114, 97, 115, 104]⟩, itoaT A] ++ (l.take j).map itoaT) ∧ tx.size ≤ 4398046512104 + 22 * j) ∧ List.map e43 [1, 5, 6] = (qc1 g3 tx j) ∧ Hp w Non [Res.row g3 [iI 12, iI A, iI B, .string Ky, .slice V.a V.n V.c, .slice L.a L.n L.c] 31] w44) (l.length - (0)) ⟨0, ((⟨#[99, 114, 97, 115, 104]⟩ : ByteArray) ++ (⟨#[32]⟩ : ByteArray)) ++ (itoaT A), rfl, ⟨Nat.zero_le _, by rw [List.take_zero, List.map_nil, List.append_nil]; exact jn2 ⟨#[99, 114, 97, 115, 104]⟩ (itoaT A), by simp only [ByteArray.size_append]; omega⟩, by kernel_rfl, hp40⟩ ?_
  rintro _ e43 w44 ⟨j, tx, rfl, hI46, hE47, hp45⟩
  obtain ⟨b48, rfl⟩ := toMk hE47
  clear hE47
  obtain ⟨pa, pb, pc⟩ := hI46
  have hlj : j < l.length → inI l[j]! := fun q => hi.2.2 _ (List.mem_of_getElem? (get_bang q))
  have hlz : j < l.length → (itoaT l[j]!).size ≤ 21 := fun q => itoa_le (hlj q)
  unfold inI at hlj
  refine WP.seq (WP.seq (wQ {} [.slice L.a L.n L.c] [1, 5, 6, 57] [pP g3, .string tx, iI (j : Int), .bool (decide ((j : Int) < ((L.n : Nat) : Int)))] (.cons (l1 29 5 (.slice L.a L.n L.c) hp45.get0) .nil) fun b49 => ?_))
  refine thn_n ?_
  refine WP.test (p := (j : Int) < ((L.n : Nat) : Int)) rfl Bp.dec (fun h50 => ?_) (fun h50 => ?_)
  ·refine WP.skip (thn_n (WP.seq (WP.block (wR ?_))))
   have hy54 : (l)[j]? = some l[j]! := get_bang (by first | (first | omega | (simp only [ByteArray.size_append]; omega)) | (simp only [List.length_append, List.length_cons, List.length_nil]; omega) | (simp only [List.length_take, List.length_append, List.length_cons, List.length_nil]; omega))
   refine oQ 7 {} [.slice L.a L.n L.c, iI (l[j]!)] [1, 6, 61, 66] [pP g3, iI (j : Int), .string (tx ++ (⟨#[32]⟩ : ByteArray)), iI (l[j]!)] (.cons (show tx.size + (⟨#[32]⟩ : ByteArray).size ≤ 9223372036854775807 from by first | omega | (simp only [ByteArray.size_append]; omega)) (.cons (l1 29 5 (.slice L.a L.n L.c) hp45.get0) (.cons (show InB ((j : Int)) (L.n) from ⟨by first | omega | (simp only [ByteArray.size_append]; omega), by first | omega | (simp only [ByteArray.size_append]; omega)⟩) (.cons ((hL.at hp45).some (by first | omega | (simp only [ByteArray.size_append]; omega))) (.cons (Ld.add0 (Ld.el1 (P := Tryd.prog) (t := 3) (hL.at hp45).rd 1 (fun _ => rfl) hy54 (o := 0) (v := iI (l[j]!)) (by kernel_rfl))) .nil))))) fun b55 => ?_
   refine OPS.cons (opStep.call (some 67) [iI (l[j]!)] (by kernel_rfl) (rf_decimal (l[j]!) ⟨by omega, by omega⟩ _) ?_)
   rintro _ w58 ⟨rfl, hf59⟩
   refine ⟨_, rfl, ?_⟩
   have hp60 := hp45.step hf59
   refine oQ 2 {} [] [1, 5, 6] [pP g3, .string ((tx ++ (⟨#[32]⟩ : ByteArray)) ++ (itoaT (l[j]!))), iI (j : Int)] (.cons (show (tx ++ (⟨#[32]⟩ : ByteArray)).size + (itoaT (l[j]!)).size ≤ 9223372036854775807 from by first | omega | (simp only [ByteArray.size_append]; omega)) .nil) fun b61 => ?_
   refine OPS.nil (blk_n (thn_n (wQ {} [] [1, 5, 6] [pP g3, .string ((tx ++ (⟨#[32]⟩ : ByteArray)) ++ (itoaT (l[j]!))), iI ((j : Int) + 1)] (.cons (show Rng .i64 ((j : Int) + 1) from Rng.i64 (by first | omega | (simp only [ByteArray.size_append]; omega))) .nil) fun b62 => ?_)))
   refine thn_n ?_
   exact ⟨l.length - (j + 1), (by omega), j + 1, (tx ++ (⟨#[32]⟩ : ByteArray)) ++ (itoaT (l[j]!)), rfl, ⟨by omega, by rw [pb, List.take_succ_eq_append_getElem (by omega), List.map_append, ← List.append_assoc, getElem!_pos l j (by omega)]; exact (join_snoc _ _ (by simp)).symm, by simp only [ByteArray.size_append]; omega⟩, by kernel_rfl, hp60⟩
  ·refine WP.exit (thn_x (thn_x (blk_hit (thn_n (WP.seq (wP [2, 3] [.string tx, iI 0] fun b63 => ?_))))))
   refine thn_n (WP.ret ?_)
   refine bodyQ.of _ rfl [.string tx, iI 0] ⟨rfl, rfl, trivial⟩ ?_
   have hck : chkI (⟨12, A, B, Ky, valAt w V, l⟩ : StepP) = 0 := by have h_ := h13; omega
   obtain rfl : j = l.length := by omega
   have hwe : tx = lineS (⟨12, A, B, Ky, valAt w V, l⟩ : StepP) := by rw [pb, List.take_of_length_le (Nat.le_refl _)]; rfl
   exact ⟨by simp only [pack]; rw [hwe, hck, lineV_ok (chk_ok hck)], hp45.fr⟩

theorem rl_k14 (A B : Int) (Ky : ByteArray) (V L : SlH) (l : List Int) (w : World) (hwd : (Res.row 1 wordsC 65).holds w) (hx : StR w Tr ⟨14, A, B, Ky, V, L⟩ (⟨14, A, B, Ky, valAt w V, l⟩ : StepP)) (hs : smS (⟨14, A, B, Ky, valAt w V, l⟩ : StepP)) :
  Calls Tryd.prog 13 #[GStep.val (⟨14, A, B, Ky, V, L⟩ : GStep)] w (fun r_ w' => r_ = .returned (.tuple #[.string (lineV (⟨14, A, B, Ky, valAt w V, l⟩ : StepP)), .int .i64 (chkI (⟨14, A, B, Ky, valAt w V, l⟩ : StepP))]) ∧ Fram Non w w') := by
 have hn := hx.ln
 have hL := hx.lr
 simp only at hn hL
 have hi := hs.1
 have hA := hi.1
 have hB := hi.2.1
 have hza := itoa_le hA
 have hzb := itoa_le hB
 unfold inI at hA hB
 have hsz1 := hs.2.1
 have hsz2 := hs.2.2.1
 have hsz3 := hs.2.2.2
 simp only at hA hB hza hzb hsz1 hsz2 hsz3
 have hzk := hexT_size Ky
 have hzv := hexT_size (valAt w V)
 have h32 : (⟨#[32]⟩ : ByteArray).size = 1 := rfl
 have hzw : (⟨#[100, 105, 101]⟩ : ByteArray).size ≤ 8 := by decide
 refine calls_of Tryd.func13 rfl 70 rfl (by simp) ?_
 have hp0 := Hp.init w
 have he0 : List.map (env0 [GStep.val (⟨14, A, B, Ky, V, L⟩ : GStep)]) [0] = [GStep.val (⟨14, A, B, Ky, V, L⟩ : GStep)] := by kernel_rfl
 obtain ⟨b0, he0⟩ := toMk he0
 rw [he0]
 clear he0
 refine WP.seq (wR ?_)
 refine OPS.cons (opStep.box hp0 [iI 14, iI A, iI B, .string Ky, .slice V.a V.n V.c, .slice L.a L.n L.c] (by kernel_rfl) (fun g3 w1 hp2 => ?_))
 refine oP 2 [1] [pP g3] fun b4 => ?_
 refine OPS.nil (thn_n (WP.seq (wR (oQ 1 {} [GStep.val (⟨14, A, B, Ky, V, L⟩ : GStep)] [1, 7] [pP g3, GStep.val (⟨14, A, B, Ky, V, L⟩ : GStep)] (.cons (lN 31 0 [iI 14, iI A, iI B, .string Ky, .slice V.a V.n V.c, .slice L.a L.n L.c] hp2.get0) .nil) fun b5 => ?_))))
 refine OPS.cons (opStep.call (some 8) [GStep.val (⟨14, A, B, Ky, V, L⟩ : GStep)] (by kernel_rfl) (rf_Check (⟨14, A, B, Ky, V, L⟩ : GStep) (⟨14, A, B, Ky, valAt w V, l⟩ : StepP) _ (hx.fram hp2.fr)) ?_)
 rintro _ w8 ⟨rfl, hf9⟩
 refine ⟨_, rfl, ?_⟩
 have hp10 := hp2.step hf9
 refine oP 1 [1, 4] [pP g3, iI (chkI (⟨14, A, B, Ky, valAt w V, l⟩ : StepP))] fun b11 => ?_
 refine OPS.nil (thn_n (WP.seq (WP.seq (wP [1, 4, 10] [pP g3, iI (chkI (⟨14, A, B, Ky, valAt w V, l⟩ : StepP)), .bool (decide (¬ ((chkI (⟨14, A, B, Ky, valAt w V, l⟩ : StepP)) = 0)))] fun b12 => ?_))))
 refine thn_n ?_
 refine WP.test (p := ¬ ((chkI (⟨14, A, B, Ky, valAt w V, l⟩ : StepP)) = 0)) rfl Bp.dec (fun h13 => ?_) (fun h13 => ?_)
 ·refine WP.seq (wP [2, 3] [.string ⟨#[]⟩, iI (chkI (⟨14, A, B, Ky, valAt w V, l⟩ : StepP))] fun b14 => ?_)
  refine thn_n (WP.ret (thn_r ?_))
  refine bodyQ.of _ rfl [.string ⟨#[]⟩, iI (chkI (⟨14, A, B, Ky, valAt w V, l⟩ : StepP))] ⟨rfl, rfl, trivial⟩ ?_
  exact ⟨by simp only [pack]; rw [lineV_no h13], hp10.fr⟩
 ·replace h13 := Classical.not_not.1 h13
  refine WP.skip (thn_n (WP.seq (wQ {} [iI 14, .string ⟨#[100, 105, 101]⟩] [1, 5] [pP g3, .string ⟨#[100, 105, 101]⟩] (.cons (l1 3 0 (iI 14) hp10.get0) (.cons (show InB (14) (17) from ⟨by first | omega | (simp only [ByteArray.size_append]; omega), by first | omega | (simp only [ByteArray.size_append]; omega)⟩) (.cons (l1 9 14 (.string ⟨#[100, 105, 101]⟩) (row_at hwd hp10.fr)) .nil))) fun b15 => ?_)))
  refine thn_n (WP.seq (WP.seq (wR (oQ 2 {} [iI 14] [1, 5, 17] [pP g3, .string ⟨#[100, 105, 101]⟩, iI 14] (.cons (l1 3 0 (iI 14) hp10.get0) .nil) fun b16 => ?_))))
  refine OPS.cons (opStep.call (some 18) [iI 14] (by kernel_rfl) (rf_hasA 14 _) ?_)
  rintro _ w19 ⟨rfl, hf20⟩
  refine ⟨_, rfl, ?_⟩
  have hp21 := hp10.step hf20
  refine OPS.nil (thn_n (WP.condT rfl (wR (oQ 4 {} [iI A] [1, 20, 22] [pP g3, .string ((⟨#[100, 105, 101]⟩ : ByteArray) ++ (⟨#[32]⟩ : ByteArray)), iI A] (.cons (show (⟨#[100, 105, 101]⟩ : ByteArray).size + (⟨#[32]⟩ : ByteArray).size ≤ 9223372036854775807 from by first | omega | (simp only [ByteArray.size_append]; omega)) (.cons (l1 3 1 (iI A) hp21.get0) .nil)) fun b22 => ?_))))
  refine OPS.cons (opStep.call (some 23) [iI A] (by kernel_rfl) (rf_decimal A ⟨by omega, by omega⟩ _) ?_)
  rintro _ w25 ⟨rfl, hf26⟩
  refine ⟨_, rfl, ?_⟩
  have hp27 := hp21.step hf26
  refine oQ 2 {} [] [1, 5] [pP g3, .string (((⟨#[100, 105, 101]⟩ : ByteArray) ++ (⟨#[32]⟩ : ByteArray)) ++ (itoaT A))] (.cons (show ((⟨#[100, 105, 101]⟩ : ByteArray) ++ (⟨#[32]⟩ : ByteArray)).size + (itoaT A).size ≤ 9223372036854775807 from by first | omega | (simp only [ByteArray.size_append]; omega)) .nil) fun b28 => ?_
  refine OPS.nil (thn_n (WP.seq (WP.seq (wR (oQ 2 {} [iI 14] [1, 5, 26] [pP g3, .string (((⟨#[100, 105, 101]⟩ : ByteArray) ++ (⟨#[32]⟩ : ByteArray)) ++ (itoaT A)), iI 14] (.cons (l1 3 0 (iI 14) hp27.get0) .nil) fun b29 => ?_)))))
  refine OPS.cons (opStep.call (some 27) [iI 14] (by kernel_rfl) (rf_hasB 14 _) ?_)
  rintro _ w32 ⟨rfl, hf33⟩
  refine ⟨_, rfl, ?_⟩
  have hp34 := hp27.step hf33
  refine OPS.nil (thn_n (WP.condT rfl (wR (oQ 4 {} [iI B] [1, 29, 31] [pP g3, .string ((((⟨#[100, 105, 101]⟩ : ByteArray) ++ (⟨#[32]⟩ : ByteArray)) ++ (itoaT A)) ++ (⟨#[32]⟩ : ByteArray)), iI B] (.cons (show (((⟨#[100, 105, 101]⟩ : ByteArray) ++ (⟨#[32]⟩ : ByteArray)) ++ (itoaT A)).size + (⟨#[32]⟩ : ByteArray).size ≤ 9223372036854775807 from by first | omega | (simp only [ByteArray.size_append]; omega)) (.cons (l1 3 2 (iI B) hp34.get0) .nil)) fun b35 => ?_))))
  refine OPS.cons (opStep.call (some 32) [iI B] (by kernel_rfl) (rf_decimal B ⟨by omega, by omega⟩ _) ?_)
  rintro _ w38 ⟨rfl, hf39⟩
  refine ⟨_, rfl, ?_⟩
  have hp40 := hp34.step hf39
  refine oQ 2 {} [] [1, 5] [pP g3, .string (((((⟨#[100, 105, 101]⟩ : ByteArray) ++ (⟨#[32]⟩ : ByteArray)) ++ (itoaT A)) ++ (⟨#[32]⟩ : ByteArray)) ++ (itoaT B))] (.cons (show ((((⟨#[100, 105, 101]⟩ : ByteArray) ++ (⟨#[32]⟩ : ByteArray)) ++ (itoaT A)) ++ (⟨#[32]⟩ : ByteArray)).size + (itoaT B).size ≤ 9223372036854775807 from by first | omega | (simp only [ByteArray.size_append]; omega)) .nil) fun b41 => ?_
  refine OPS.nil (thn_n (WP.seq (WP.seq (wR (oQ 2 {} [iI 14] [1, 5, 35] [pP g3, .string (((((⟨#[100, 105, 101]⟩ : ByteArray) ++ (⟨#[32]⟩ : ByteArray)) ++ (itoaT A)) ++ (⟨#[32]⟩ : ByteArray)) ++ (itoaT B)), iI 14] (.cons (l1 3 0 (iI 14) hp40.get0) .nil) fun b42 => ?_)))))
  refine OPS.cons (opStep.call (some 36) [iI 14] (by kernel_rfl) (rf_hasKey 14 _) ?_)
  rintro _ w45 ⟨rfl, hf46⟩
  refine ⟨_, rfl, ?_⟩
  have hp47 := hp40.step hf46
  refine OPS.nil (thn_n (WP.condF rfl (WP.skip (thn_n (WP.seq (WP.seq (wQ {} [iI 14] [1, 5, 46] [pP g3, .string (((((⟨#[100, 105, 101]⟩ : ByteArray) ++ (⟨#[32]⟩ : ByteArray)) ++ (itoaT A)) ++ (⟨#[32]⟩ : ByteArray)) ++ (itoaT B)), bF] (.cons (l1 3 0 (iI 14) hp47.get0) .nil) fun b48 => ?_)))))))
  refine thn_n (WP.condF rfl (WP.skip (thn_n (WP.seq (WP.seq (wP [1, 5, 6] [pP g3, .string (((((⟨#[100, 105, 101]⟩ : ByteArray) ++ (⟨#[32]⟩ : ByteArray)) ++ (itoaT A)) ++ (⟨#[32]⟩ : ByteArray)) ++ (itoaT B)), iI 0] fun b49 => ?_))))))
  refine thn_n (WP.block ?_)
  refine WP.loop (fun mz_ e50 w51 => ∃ (j : Nat) (tx : ByteArray), mz_ = l.length - j ∧ (j ≤ l.length ∧ tx = joinB ([⟨#[100, 105, 101]⟩, itoaT A, itoaT B] ++ (l.take j).map itoaT) ∧ tx.size ≤ 4398046512104 + 22 * j) ∧ List.map e50 [1, 5, 6] = (qc1 g3 tx j) ∧ Hp w Non [Res.row g3 [iI 14, iI A, iI B, .string Ky, .slice V.a V.n V.c, .slice L.a L.n L.c] 31] w51) (l.length - (0)) ⟨0, ((((⟨#[100, 105, 101]⟩ : ByteArray) ++ (⟨#[32]⟩ : ByteArray)) ++ (itoaT A)) ++ (⟨#[32]⟩ : ByteArray)) ++ (itoaT B), rfl, ⟨Nat.zero_le _, by rw [List.take_zero, List.map_nil, List.append_nil]; exact jn3 ⟨#[100, 105, 101]⟩ (itoaT A) (itoaT B), by simp only [ByteArray.size_append]; omega⟩, by kernel_rfl, hp47⟩ ?_
  rintro _ e50 w51 ⟨j, tx, rfl, hI53, hE54, hp52⟩
  obtain ⟨b55, rfl⟩ := toMk hE54
  clear hE54
  obtain ⟨pa, pb, pc⟩ := hI53
  have hlj : j < l.length → inI l[j]! := fun q => hi.2.2 _ (List.mem_of_getElem? (get_bang q))
  have hlz : j < l.length → (itoaT l[j]!).size ≤ 21 := fun q => itoa_le (hlj q)
  unfold inI at hlj
  refine WP.seq (WP.seq (wQ {} [.slice L.a L.n L.c] [1, 5, 6, 57] [pP g3, .string tx, iI (j : Int), .bool (decide ((j : Int) < ((L.n : Nat) : Int)))] (.cons (l1 29 5 (.slice L.a L.n L.c) hp52.get0) .nil) fun b56 => ?_))
  refine thn_n ?_
  refine WP.test (p := (j : Int) < ((L.n : Nat) : Int)) rfl Bp.dec (fun h57 => ?_) (fun h57 => ?_)
  ·refine WP.skip (thn_n (WP.seq (WP.block (wR ?_))))
   have hy61 : (l)[j]? = some l[j]! := get_bang (by first | (first | omega | (simp only [ByteArray.size_append]; omega)) | (simp only [List.length_append, List.length_cons, List.length_nil]; omega) | (simp only [List.length_take, List.length_append, List.length_cons, List.length_nil]; omega))
   refine oQ 7 {} [.slice L.a L.n L.c, iI (l[j]!)] [1, 6, 61, 66] [pP g3, iI (j : Int), .string (tx ++ (⟨#[32]⟩ : ByteArray)), iI (l[j]!)] (.cons (show tx.size + (⟨#[32]⟩ : ByteArray).size ≤ 9223372036854775807 from by first | omega | (simp only [ByteArray.size_append]; omega)) (.cons (l1 29 5 (.slice L.a L.n L.c) hp52.get0) (.cons (show InB ((j : Int)) (L.n) from ⟨by first | omega | (simp only [ByteArray.size_append]; omega), by first | omega | (simp only [ByteArray.size_append]; omega)⟩) (.cons ((hL.at hp52).some (by first | omega | (simp only [ByteArray.size_append]; omega))) (.cons (Ld.add0 (Ld.el1 (P := Tryd.prog) (t := 3) (hL.at hp52).rd 1 (fun _ => rfl) hy61 (o := 0) (v := iI (l[j]!)) (by kernel_rfl))) .nil))))) fun b62 => ?_
   refine OPS.cons (opStep.call (some 67) [iI (l[j]!)] (by kernel_rfl) (rf_decimal (l[j]!) ⟨by omega, by omega⟩ _) ?_)
   rintro _ w65 ⟨rfl, hf66⟩
   refine ⟨_, rfl, ?_⟩
   have hp67 := hp52.step hf66
   refine oQ 2 {} [] [1, 5, 6] [pP g3, .string ((tx ++ (⟨#[32]⟩ : ByteArray)) ++ (itoaT (l[j]!))), iI (j : Int)] (.cons (show (tx ++ (⟨#[32]⟩ : ByteArray)).size + (itoaT (l[j]!)).size ≤ 9223372036854775807 from by first | omega | (simp only [ByteArray.size_append]; omega)) .nil) fun b68 => ?_
   refine OPS.nil (blk_n (thn_n (wQ {} [] [1, 5, 6] [pP g3, .string ((tx ++ (⟨#[32]⟩ : ByteArray)) ++ (itoaT (l[j]!))), iI ((j : Int) + 1)] (.cons (show Rng .i64 ((j : Int) + 1) from Rng.i64 (by first | omega | (simp only [ByteArray.size_append]; omega))) .nil) fun b69 => ?_)))
   refine thn_n ?_
   exact ⟨l.length - (j + 1), (by omega), j + 1, (tx ++ (⟨#[32]⟩ : ByteArray)) ++ (itoaT (l[j]!)), rfl, ⟨by omega, by rw [pb, List.take_succ_eq_append_getElem (by omega), List.map_append, ← List.append_assoc, getElem!_pos l j (by omega)]; exact (join_snoc _ _ (by simp)).symm, by simp only [ByteArray.size_append]; omega⟩, by kernel_rfl, hp67⟩
  ·refine WP.exit (thn_x (thn_x (blk_hit (thn_n (WP.seq (wP [2, 3] [.string tx, iI 0] fun b70 => ?_))))))
   refine thn_n (WP.ret ?_)
   refine bodyQ.of _ rfl [.string tx, iI 0] ⟨rfl, rfl, trivial⟩ ?_
   have hck : chkI (⟨14, A, B, Ky, valAt w V, l⟩ : StepP) = 0 := by have h_ := h13; omega
   obtain rfl : j = l.length := by omega
   have hwe : tx = lineS (⟨14, A, B, Ky, valAt w V, l⟩ : StepP) := by rw [pb, List.take_of_length_le (Nat.le_refl _)]; rfl
   exact ⟨by simp only [pack]; rw [hwe, hck, lineV_ok (chk_ok hck)], hp52.fr⟩

theorem rl_k16 (A B : Int) (Ky : ByteArray) (V L : SlH) (l : List Int) (w : World) (hwd : (Res.row 1 wordsC 65).holds w) (hx : StR w Tr ⟨16, A, B, Ky, V, L⟩ (⟨16, A, B, Ky, valAt w V, l⟩ : StepP)) (hs : smS (⟨16, A, B, Ky, valAt w V, l⟩ : StepP)) :
  Calls Tryd.prog 13 #[GStep.val (⟨16, A, B, Ky, V, L⟩ : GStep)] w (fun r_ w' => r_ = .returned (.tuple #[.string (lineV (⟨16, A, B, Ky, valAt w V, l⟩ : StepP)), .int .i64 (chkI (⟨16, A, B, Ky, valAt w V, l⟩ : StepP))]) ∧ Fram Non w w') := by
 have hn := hx.ln
 have hL := hx.lr
 simp only at hn hL
 have hi := hs.1
 have hA := hi.1
 have hB := hi.2.1
 have hza := itoa_le hA
 have hzb := itoa_le hB
 unfold inI at hA hB
 have hsz1 := hs.2.1
 have hsz2 := hs.2.2.1
 have hsz3 := hs.2.2.2
 simp only at hA hB hza hzb hsz1 hsz2 hsz3
 have hzk := hexT_size Ky
 have hzv := hexT_size (valAt w V)
 have h32 : (⟨#[32]⟩ : ByteArray).size = 1 := rfl
 have hzw : (⟨#[114, 111, 117, 110, 100]⟩ : ByteArray).size ≤ 8 := by decide
 refine calls_of Tryd.func13 rfl 70 rfl (by simp) ?_
 have hp0 := Hp.init w
 have he0 : List.map (env0 [GStep.val (⟨16, A, B, Ky, V, L⟩ : GStep)]) [0] = [GStep.val (⟨16, A, B, Ky, V, L⟩ : GStep)] := by kernel_rfl
 obtain ⟨b0, he0⟩ := toMk he0
 rw [he0]
 clear he0
 refine WP.seq (wR ?_)
 refine OPS.cons (opStep.box hp0 [iI 16, iI A, iI B, .string Ky, .slice V.a V.n V.c, .slice L.a L.n L.c] (by kernel_rfl) (fun g3 w1 hp2 => ?_))
 refine oP 2 [1] [pP g3] fun b4 => ?_
 refine OPS.nil (thn_n (WP.seq (wR (oQ 1 {} [GStep.val (⟨16, A, B, Ky, V, L⟩ : GStep)] [1, 7] [pP g3, GStep.val (⟨16, A, B, Ky, V, L⟩ : GStep)] (.cons (lN 31 0 [iI 16, iI A, iI B, .string Ky, .slice V.a V.n V.c, .slice L.a L.n L.c] hp2.get0) .nil) fun b5 => ?_))))
 refine OPS.cons (opStep.call (some 8) [GStep.val (⟨16, A, B, Ky, V, L⟩ : GStep)] (by kernel_rfl) (rf_Check (⟨16, A, B, Ky, V, L⟩ : GStep) (⟨16, A, B, Ky, valAt w V, l⟩ : StepP) _ (hx.fram hp2.fr)) ?_)
 rintro _ w8 ⟨rfl, hf9⟩
 refine ⟨_, rfl, ?_⟩
 have hp10 := hp2.step hf9
 refine oP 1 [1, 4] [pP g3, iI (chkI (⟨16, A, B, Ky, valAt w V, l⟩ : StepP))] fun b11 => ?_
 refine OPS.nil (thn_n (WP.seq (WP.seq (wP [1, 4, 10] [pP g3, iI (chkI (⟨16, A, B, Ky, valAt w V, l⟩ : StepP)), .bool (decide (¬ ((chkI (⟨16, A, B, Ky, valAt w V, l⟩ : StepP)) = 0)))] fun b12 => ?_))))
 refine thn_n ?_
 refine WP.test (p := ¬ ((chkI (⟨16, A, B, Ky, valAt w V, l⟩ : StepP)) = 0)) rfl Bp.dec (fun h13 => ?_) (fun h13 => ?_)
 ·refine WP.seq (wP [2, 3] [.string ⟨#[]⟩, iI (chkI (⟨16, A, B, Ky, valAt w V, l⟩ : StepP))] fun b14 => ?_)
  refine thn_n (WP.ret (thn_r ?_))
  refine bodyQ.of _ rfl [.string ⟨#[]⟩, iI (chkI (⟨16, A, B, Ky, valAt w V, l⟩ : StepP))] ⟨rfl, rfl, trivial⟩ ?_
  exact ⟨by simp only [pack]; rw [lineV_no h13], hp10.fr⟩
 ·replace h13 := Classical.not_not.1 h13
  refine WP.skip (thn_n (WP.seq (wQ {} [iI 16, .string ⟨#[114, 111, 117, 110, 100]⟩] [1, 5] [pP g3, .string ⟨#[114, 111, 117, 110, 100]⟩] (.cons (l1 3 0 (iI 16) hp10.get0) (.cons (show InB (16) (17) from ⟨by first | omega | (simp only [ByteArray.size_append]; omega), by first | omega | (simp only [ByteArray.size_append]; omega)⟩) (.cons (l1 9 16 (.string ⟨#[114, 111, 117, 110, 100]⟩) (row_at hwd hp10.fr)) .nil))) fun b15 => ?_)))
  refine thn_n (WP.seq (WP.seq (wR (oQ 2 {} [iI 16] [1, 5, 17] [pP g3, .string ⟨#[114, 111, 117, 110, 100]⟩, iI 16] (.cons (l1 3 0 (iI 16) hp10.get0) .nil) fun b16 => ?_))))
  refine OPS.cons (opStep.call (some 18) [iI 16] (by kernel_rfl) (rf_hasA 16 _) ?_)
  rintro _ w19 ⟨rfl, hf20⟩
  refine ⟨_, rfl, ?_⟩
  have hp21 := hp10.step hf20
  refine OPS.nil (thn_n (WP.condF rfl (WP.skip (thn_n (WP.seq (WP.seq (wR (oQ 2 {} [iI 16] [1, 5, 26] [pP g3, .string ⟨#[114, 111, 117, 110, 100]⟩, iI 16] (.cons (l1 3 0 (iI 16) hp21.get0) .nil) fun b22 => ?_))))))))
  refine OPS.cons (opStep.call (some 27) [iI 16] (by kernel_rfl) (rf_hasB 16 _) ?_)
  rintro _ w25 ⟨rfl, hf26⟩
  refine ⟨_, rfl, ?_⟩
  have hp27 := hp21.step hf26
  refine OPS.nil (thn_n (WP.condT rfl (wR (oQ 4 {} [iI B] [1, 29, 31] [pP g3, .string ((⟨#[114, 111, 117, 110, 100]⟩ : ByteArray) ++ (⟨#[32]⟩ : ByteArray)), iI B] (.cons (show (⟨#[114, 111, 117, 110, 100]⟩ : ByteArray).size + (⟨#[32]⟩ : ByteArray).size ≤ 9223372036854775807 from by first | omega | (simp only [ByteArray.size_append]; omega)) (.cons (l1 3 2 (iI B) hp27.get0) .nil)) fun b28 => ?_))))
  refine OPS.cons (opStep.call (some 32) [iI B] (by kernel_rfl) (rf_decimal B ⟨by omega, by omega⟩ _) ?_)
  rintro _ w31 ⟨rfl, hf32⟩
  refine ⟨_, rfl, ?_⟩
  have hp33 := hp27.step hf32
  refine oQ 2 {} [] [1, 5] [pP g3, .string (((⟨#[114, 111, 117, 110, 100]⟩ : ByteArray) ++ (⟨#[32]⟩ : ByteArray)) ++ (itoaT B))] (.cons (show ((⟨#[114, 111, 117, 110, 100]⟩ : ByteArray) ++ (⟨#[32]⟩ : ByteArray)).size + (itoaT B).size ≤ 9223372036854775807 from by first | omega | (simp only [ByteArray.size_append]; omega)) .nil) fun b34 => ?_
  refine OPS.nil (thn_n (WP.seq (WP.seq (wR (oQ 2 {} [iI 16] [1, 5, 35] [pP g3, .string (((⟨#[114, 111, 117, 110, 100]⟩ : ByteArray) ++ (⟨#[32]⟩ : ByteArray)) ++ (itoaT B)), iI 16] (.cons (l1 3 0 (iI 16) hp33.get0) .nil) fun b35 => ?_)))))
  refine OPS.cons (opStep.call (some 36) [iI 16] (by kernel_rfl) (rf_hasKey 16 _) ?_)
  rintro _ w38 ⟨rfl, hf39⟩
  refine ⟨_, rfl, ?_⟩
  have hp40 := hp33.step hf39
  refine OPS.nil (thn_n (WP.condF rfl (WP.skip (thn_n (WP.seq (WP.seq (wQ {} [iI 16] [1, 5, 46] [pP g3, .string (((⟨#[114, 111, 117, 110, 100]⟩ : ByteArray) ++ (⟨#[32]⟩ : ByteArray)) ++ (itoaT B)), bF] (.cons (l1 3 0 (iI 16) hp40.get0) .nil) fun b41 => ?_)))))))
  refine thn_n (WP.condF rfl (WP.skip (thn_n (WP.seq (WP.seq (wP [1, 5, 6] [pP g3, .string (((⟨#[114, 111, 117, 110, 100]⟩ : ByteArray) ++ (⟨#[32]⟩ : ByteArray)) ++ (itoaT B)), iI 0] fun b42 => ?_))))))
  refine thn_n (WP.block ?_)
  refine WP.loop (fun mz_ e43 w44 => ∃ (j : Nat) (tx : ByteArray), mz_ = l.length - j ∧ (j ≤ l.length ∧ tx = joinB ([⟨#[114, 111, 117, 110, 100]⟩, itoaT B] ++ (l.take j).map itoaT) ∧ tx.size ≤ 4398046512104 + 22 * j) ∧ List.map e43 [1, 5, 6] = (qc1 g3 tx j) ∧ Hp w Non [Res.row g3 [iI 16, iI A, iI B, .string Ky, .slice V.a V.n V.c, .slice L.a L.n L.c] 31] w44) (l.length - (0)) ⟨0, ((⟨#[114, 111, 117, 110, 100]⟩ : ByteArray) ++ (⟨#[32]⟩ : ByteArray)) ++ (itoaT B), rfl, ⟨Nat.zero_le _, by rw [List.take_zero, List.map_nil, List.append_nil]; exact jn2 ⟨#[114, 111, 117, 110, 100]⟩ (itoaT B), by simp only [ByteArray.size_append]; omega⟩, by kernel_rfl, hp40⟩ ?_
  rintro _ e43 w44 ⟨j, tx, rfl, hI46, hE47, hp45⟩
  obtain ⟨b48, rfl⟩ := toMk hE47
  clear hE47
  obtain ⟨pa, pb, pc⟩ := hI46
  have hlj : j < l.length → inI l[j]! := fun q => hi.2.2 _ (List.mem_of_getElem? (get_bang q))
  have hlz : j < l.length → (itoaT l[j]!).size ≤ 21 := fun q => itoa_le (hlj q)
  unfold inI at hlj
  refine WP.seq (WP.seq (wQ {} [.slice L.a L.n L.c] [1, 5, 6, 57] [pP g3, .string tx, iI (j : Int), .bool (decide ((j : Int) < ((L.n : Nat) : Int)))] (.cons (l1 29 5 (.slice L.a L.n L.c) hp45.get0) .nil) fun b49 => ?_))
  refine thn_n ?_
  refine WP.test (p := (j : Int) < ((L.n : Nat) : Int)) rfl Bp.dec (fun h50 => ?_) (fun h50 => ?_)
  ·refine WP.skip (thn_n (WP.seq (WP.block (wR ?_))))
   have hy54 : (l)[j]? = some l[j]! := get_bang (by first | (first | omega | (simp only [ByteArray.size_append]; omega)) | (simp only [List.length_append, List.length_cons, List.length_nil]; omega) | (simp only [List.length_take, List.length_append, List.length_cons, List.length_nil]; omega))
   refine oQ 7 {} [.slice L.a L.n L.c, iI (l[j]!)] [1, 6, 61, 66] [pP g3, iI (j : Int), .string (tx ++ (⟨#[32]⟩ : ByteArray)), iI (l[j]!)] (.cons (show tx.size + (⟨#[32]⟩ : ByteArray).size ≤ 9223372036854775807 from by first | omega | (simp only [ByteArray.size_append]; omega)) (.cons (l1 29 5 (.slice L.a L.n L.c) hp45.get0) (.cons (show InB ((j : Int)) (L.n) from ⟨by first | omega | (simp only [ByteArray.size_append]; omega), by first | omega | (simp only [ByteArray.size_append]; omega)⟩) (.cons ((hL.at hp45).some (by first | omega | (simp only [ByteArray.size_append]; omega))) (.cons (Ld.add0 (Ld.el1 (P := Tryd.prog) (t := 3) (hL.at hp45).rd 1 (fun _ => rfl) hy54 (o := 0) (v := iI (l[j]!)) (by kernel_rfl))) .nil))))) fun b55 => ?_
   refine OPS.cons (opStep.call (some 67) [iI (l[j]!)] (by kernel_rfl) (rf_decimal (l[j]!) ⟨by omega, by omega⟩ _) ?_)
   rintro _ w58 ⟨rfl, hf59⟩
   refine ⟨_, rfl, ?_⟩
   have hp60 := hp45.step hf59
   refine oQ 2 {} [] [1, 5, 6] [pP g3, .string ((tx ++ (⟨#[32]⟩ : ByteArray)) ++ (itoaT (l[j]!))), iI (j : Int)] (.cons (show (tx ++ (⟨#[32]⟩ : ByteArray)).size + (itoaT (l[j]!)).size ≤ 9223372036854775807 from by first | omega | (simp only [ByteArray.size_append]; omega)) .nil) fun b61 => ?_
   refine OPS.nil (blk_n (thn_n (wQ {} [] [1, 5, 6] [pP g3, .string ((tx ++ (⟨#[32]⟩ : ByteArray)) ++ (itoaT (l[j]!))), iI ((j : Int) + 1)] (.cons (show Rng .i64 ((j : Int) + 1) from Rng.i64 (by first | omega | (simp only [ByteArray.size_append]; omega))) .nil) fun b62 => ?_)))
   refine thn_n ?_
   exact ⟨l.length - (j + 1), (by omega), j + 1, (tx ++ (⟨#[32]⟩ : ByteArray)) ++ (itoaT (l[j]!)), rfl, ⟨by omega, by rw [pb, List.take_succ_eq_append_getElem (by omega), List.map_append, ← List.append_assoc, getElem!_pos l j (by omega)]; exact (join_snoc _ _ (by simp)).symm, by simp only [ByteArray.size_append]; omega⟩, by kernel_rfl, hp60⟩
  ·refine WP.exit (thn_x (thn_x (blk_hit (thn_n (WP.seq (wP [2, 3] [.string tx, iI 0] fun b63 => ?_))))))
   refine thn_n (WP.ret ?_)
   refine bodyQ.of _ rfl [.string tx, iI 0] ⟨rfl, rfl, trivial⟩ ?_
   have hck : chkI (⟨16, A, B, Ky, valAt w V, l⟩ : StepP) = 0 := by have h_ := h13; omega
   obtain rfl : j = l.length := by omega
   have hwe : tx = lineS (⟨16, A, B, Ky, valAt w V, l⟩ : StepP) := by rw [pb, List.take_of_length_le (Nat.le_refl _)]; rfl
   exact ⟨by simp only [pack]; rw [hwe, hck, lineV_ok (chk_ok hck)], hp45.fr⟩

theorem rl_kk (k : Int) (hpa : PA k) (A B : Int) (Ky : ByteArray) (V L : SlH) (l : List Int) (w : World) (hwd : (Res.row 1 wordsC 65).holds w) (hx : StR w Tr ⟨k, A, B, Ky, V, L⟩ (⟨k, A, B, Ky, valAt w V, l⟩ : StepP)) (hs : smS (⟨k, A, B, Ky, valAt w V, l⟩ : StepP)) :
  Calls Tryd.prog 13 #[GStep.val (⟨k, A, B, Ky, V, L⟩ : GStep)] w (fun r_ w' => r_ = .returned (.tuple #[.string (lineV (⟨k, A, B, Ky, valAt w V, l⟩ : StepP)), .int .i64 (chkI (⟨k, A, B, Ky, valAt w V, l⟩ : StepP))]) ∧ Fram Non w w') := by
 obtain ⟨nl, nu, n1, n2, n9, n10, n12, n14, n16⟩ := hpa.ne
 have hn := hx.ln
 have hL := hx.lr
 simp only at hn hL
 have hi := hs.1
 have hA := hi.1
 have hB := hi.2.1
 have hza := itoa_le hA
 have hzb := itoa_le hB
 unfold inI at hA hB
 have hsz1 := hs.2.1
 have hsz2 := hs.2.2.1
 have hsz3 := hs.2.2.2
 simp only at hA hB hza hzb hsz1 hsz2 hsz3
 have hzk := hexT_size Ky
 have hzv := hexT_size (valAt w V)
 have h32 : (⟨#[32]⟩ : ByteArray).size = 1 := rfl
 have hzw : (kWord k : ByteArray).size ≤ 8 := word_size k
 refine calls_of Tryd.func13 rfl 70 rfl (by simp) ?_
 have hp0 := Hp.init w
 have he0 : List.map (env0 [GStep.val (⟨k, A, B, Ky, V, L⟩ : GStep)]) [0] = [GStep.val (⟨k, A, B, Ky, V, L⟩ : GStep)] := by kernel_rfl
 obtain ⟨b0, he0⟩ := toMk he0
 rw [he0]
 clear he0
 refine WP.seq (wR ?_)
 refine OPS.cons (opStep.box hp0 [iI k, iI A, iI B, .string Ky, .slice V.a V.n V.c, .slice L.a L.n L.c] (by kernel_rfl) (fun g3 w1 hp2 => ?_))
 refine oP 2 [1] [pP g3] fun b4 => ?_
 refine OPS.nil (thn_n (WP.seq (wR (oQ 1 {} [GStep.val (⟨k, A, B, Ky, V, L⟩ : GStep)] [1, 7] [pP g3, GStep.val (⟨k, A, B, Ky, V, L⟩ : GStep)] (.cons (lN 31 0 [iI k, iI A, iI B, .string Ky, .slice V.a V.n V.c, .slice L.a L.n L.c] hp2.get0) .nil) fun b5 => ?_))))
 refine OPS.cons (opStep.call (some 8) [GStep.val (⟨k, A, B, Ky, V, L⟩ : GStep)] (by kernel_rfl) (rf_Check (⟨k, A, B, Ky, V, L⟩ : GStep) (⟨k, A, B, Ky, valAt w V, l⟩ : StepP) _ (hx.fram hp2.fr)) ?_)
 rintro _ w8 ⟨rfl, hf9⟩
 refine ⟨_, rfl, ?_⟩
 have hp10 := hp2.step hf9
 refine oP 1 [1, 4] [pP g3, iI (chkI (⟨k, A, B, Ky, valAt w V, l⟩ : StepP))] fun b11 => ?_
 refine OPS.nil (thn_n (WP.seq (WP.seq (wP [1, 4, 10] [pP g3, iI (chkI (⟨k, A, B, Ky, valAt w V, l⟩ : StepP)), .bool (decide (¬ ((chkI (⟨k, A, B, Ky, valAt w V, l⟩ : StepP)) = 0)))] fun b12 => ?_))))
 refine thn_n ?_
 refine WP.test (p := ¬ ((chkI (⟨k, A, B, Ky, valAt w V, l⟩ : StepP)) = 0)) rfl Bp.dec (fun h13 => ?_) (fun h13 => ?_)
 ·refine WP.seq (wP [2, 3] [.string ⟨#[]⟩, iI (chkI (⟨k, A, B, Ky, valAt w V, l⟩ : StepP))] fun b14 => ?_)
  refine thn_n (WP.ret (thn_r ?_))
  refine bodyQ.of _ rfl [.string ⟨#[]⟩, iI (chkI (⟨k, A, B, Ky, valAt w V, l⟩ : StepP))] ⟨rfl, rfl, trivial⟩ ?_
  exact ⟨by simp only [pack]; rw [lineV_no h13], hp10.fr⟩
 ·replace h13 := Classical.not_not.1 h13
  refine WP.skip (thn_n (WP.seq (wQ {} [iI k, .string (kWord k)] [1, 5] [pP g3, .string (kWord k)] (.cons (l1 3 0 (iI k) hp10.get0) (.cons (show InB (k) (17) from ⟨by first | omega | (simp only [ByteArray.size_append]; omega), by first | omega | (simp only [ByteArray.size_append]; omega)⟩) (.cons (wm_a hpa (row_at hwd hp10.fr)) .nil))) fun b15 => ?_)))
  refine thn_n (WP.seq (WP.seq (wR (oQ 2 {} [iI k] [1, 5, 17] [pP g3, .string (kWord k), iI k] (.cons (l1 3 0 (iI k) hp10.get0) .nil) fun b16 => ?_))))
  refine OPS.cons (opStep.call (some 18) [iI k] (by kernel_rfl) (rk_hasA hpa _) ?_)
  rintro _ w19 ⟨rfl, hf20⟩
  refine ⟨_, rfl, ?_⟩
  have hp21 := hp10.step hf20
  refine OPS.nil (thn_n (WP.condT rfl (wR (oQ 4 {} [iI A] [1, 20, 22] [pP g3, .string ((kWord k) ++ (⟨#[32]⟩ : ByteArray)), iI A] (.cons (show (kWord k).size + (⟨#[32]⟩ : ByteArray).size ≤ 9223372036854775807 from by first | omega | (simp only [ByteArray.size_append]; omega)) (.cons (l1 3 1 (iI A) hp21.get0) .nil)) fun b22 => ?_))))
  refine OPS.cons (opStep.call (some 23) [iI A] (by kernel_rfl) (rf_decimal A ⟨by omega, by omega⟩ _) ?_)
  rintro _ w25 ⟨rfl, hf26⟩
  refine ⟨_, rfl, ?_⟩
  have hp27 := hp21.step hf26
  refine oQ 2 {} [] [1, 5] [pP g3, .string (((kWord k) ++ (⟨#[32]⟩ : ByteArray)) ++ (itoaT A))] (.cons (show ((kWord k) ++ (⟨#[32]⟩ : ByteArray)).size + (itoaT A).size ≤ 9223372036854775807 from by first | omega | (simp only [ByteArray.size_append]; omega)) .nil) fun b28 => ?_
  refine OPS.nil (thn_n (WP.seq (WP.seq (wR (oQ 2 {} [iI k] [1, 5, 26] [pP g3, .string (((kWord k) ++ (⟨#[32]⟩ : ByteArray)) ++ (itoaT A)), iI k] (.cons (l1 3 0 (iI k) hp27.get0) .nil) fun b29 => ?_)))))
  refine OPS.cons (opStep.call (some 27) [iI k] (by kernel_rfl) (rk_hasB hpa _) ?_)
  rintro _ w32 ⟨rfl, hf33⟩
  refine ⟨_, rfl, ?_⟩
  have hp34 := hp27.step hf33
  refine OPS.nil (thn_n (WP.condF rfl (WP.skip (thn_n (WP.seq (WP.seq (wR (oQ 2 {} [iI k] [1, 5, 35] [pP g3, .string (((kWord k) ++ (⟨#[32]⟩ : ByteArray)) ++ (itoaT A)), iI k] (.cons (l1 3 0 (iI k) hp34.get0) .nil) fun b35 => ?_))))))))
  refine OPS.cons (opStep.call (some 36) [iI k] (by kernel_rfl) (rk_hasKey hpa _) ?_)
  rintro _ w38 ⟨rfl, hf39⟩
  refine ⟨_, rfl, ?_⟩
  have hp40 := hp34.step hf39
  refine OPS.nil (thn_n (WP.condF rfl (WP.skip (thn_n (WP.seq (WP.seq (wQ { subs := [46] } [iI k, bF] [1, 5, 46] [pP g3, .string (((kWord k) ++ (⟨#[32]⟩ : ByteArray)) ++ (itoaT A)), bF] (.cons (l1 3 0 (iI k) hp40.get0) (.cons (show (.bool (decide (k = 1)) : Go.Value) = bF from congrArg Value.bool (decide_eq_false n1)) .nil)) fun b41 => ?_)))))))
  refine thn_n (WP.condF rfl (WP.skip (thn_n (WP.seq (WP.seq (wP [1, 5, 6] [pP g3, .string (((kWord k) ++ (⟨#[32]⟩ : ByteArray)) ++ (itoaT A)), iI 0] fun b42 => ?_))))))
  refine thn_n (WP.block ?_)
  refine WP.loop (fun mz_ e43 w44 => ∃ (j : Nat) (tx : ByteArray), mz_ = l.length - j ∧ (j ≤ l.length ∧ tx = joinB ([kWord k, itoaT A] ++ (l.take j).map itoaT) ∧ tx.size ≤ 4398046512104 + 22 * j) ∧ List.map e43 [1, 5, 6] = (qc1 g3 tx j) ∧ Hp w Non [Res.row g3 [iI k, iI A, iI B, .string Ky, .slice V.a V.n V.c, .slice L.a L.n L.c] 31] w44) (l.length - (0)) ⟨0, ((kWord k) ++ (⟨#[32]⟩ : ByteArray)) ++ (itoaT A), rfl, ⟨Nat.zero_le _, by rw [List.take_zero, List.map_nil, List.append_nil]; exact jn2 (kWord k) (itoaT A), by simp only [ByteArray.size_append]; omega⟩, by kernel_rfl, hp40⟩ ?_
  rintro _ e43 w44 ⟨j, tx, rfl, hI46, hE47, hp45⟩
  obtain ⟨b48, rfl⟩ := toMk hE47
  clear hE47
  obtain ⟨pa, pb, pc⟩ := hI46
  have hlj : j < l.length → inI l[j]! := fun q => hi.2.2 _ (List.mem_of_getElem? (get_bang q))
  have hlz : j < l.length → (itoaT l[j]!).size ≤ 21 := fun q => itoa_le (hlj q)
  unfold inI at hlj
  refine WP.seq (WP.seq (wQ {} [.slice L.a L.n L.c] [1, 5, 6, 57] [pP g3, .string tx, iI (j : Int), .bool (decide ((j : Int) < ((L.n : Nat) : Int)))] (.cons (l1 29 5 (.slice L.a L.n L.c) hp45.get0) .nil) fun b49 => ?_))
  refine thn_n ?_
  refine WP.test (p := (j : Int) < ((L.n : Nat) : Int)) rfl Bp.dec (fun h50 => ?_) (fun h50 => ?_)
  ·refine WP.skip (thn_n (WP.seq (WP.block (wR ?_))))
   have hy54 : (l)[j]? = some l[j]! := get_bang (by first | (first | omega | (simp only [ByteArray.size_append]; omega)) | (simp only [List.length_append, List.length_cons, List.length_nil]; omega) | (simp only [List.length_take, List.length_append, List.length_cons, List.length_nil]; omega))
   refine oQ 7 {} [.slice L.a L.n L.c, iI (l[j]!)] [1, 6, 61, 66] [pP g3, iI (j : Int), .string (tx ++ (⟨#[32]⟩ : ByteArray)), iI (l[j]!)] (.cons (show tx.size + (⟨#[32]⟩ : ByteArray).size ≤ 9223372036854775807 from by first | omega | (simp only [ByteArray.size_append]; omega)) (.cons (l1 29 5 (.slice L.a L.n L.c) hp45.get0) (.cons (show InB ((j : Int)) (L.n) from ⟨by first | omega | (simp only [ByteArray.size_append]; omega), by first | omega | (simp only [ByteArray.size_append]; omega)⟩) (.cons ((hL.at hp45).some (by first | omega | (simp only [ByteArray.size_append]; omega))) (.cons (Ld.add0 (Ld.el1 (P := Tryd.prog) (t := 3) (hL.at hp45).rd 1 (fun _ => rfl) hy54 (o := 0) (v := iI (l[j]!)) (by kernel_rfl))) .nil))))) fun b55 => ?_
   refine OPS.cons (opStep.call (some 67) [iI (l[j]!)] (by kernel_rfl) (rf_decimal (l[j]!) ⟨by omega, by omega⟩ _) ?_)
   rintro _ w58 ⟨rfl, hf59⟩
   refine ⟨_, rfl, ?_⟩
   have hp60 := hp45.step hf59
   refine oQ 2 {} [] [1, 5, 6] [pP g3, .string ((tx ++ (⟨#[32]⟩ : ByteArray)) ++ (itoaT (l[j]!))), iI (j : Int)] (.cons (show (tx ++ (⟨#[32]⟩ : ByteArray)).size + (itoaT (l[j]!)).size ≤ 9223372036854775807 from by first | omega | (simp only [ByteArray.size_append]; omega)) .nil) fun b61 => ?_
   refine OPS.nil (blk_n (thn_n (wQ {} [] [1, 5, 6] [pP g3, .string ((tx ++ (⟨#[32]⟩ : ByteArray)) ++ (itoaT (l[j]!))), iI ((j : Int) + 1)] (.cons (show Rng .i64 ((j : Int) + 1) from Rng.i64 (by first | omega | (simp only [ByteArray.size_append]; omega))) .nil) fun b62 => ?_)))
   refine thn_n ?_
   exact ⟨l.length - (j + 1), (by omega), j + 1, (tx ++ (⟨#[32]⟩ : ByteArray)) ++ (itoaT (l[j]!)), rfl, ⟨by omega, by rw [pb, List.take_succ_eq_append_getElem (by omega), List.map_append, ← List.append_assoc, getElem!_pos l j (by omega)]; exact (join_snoc _ _ (by simp)).symm, by simp only [ByteArray.size_append]; omega⟩, by kernel_rfl, hp60⟩
  ·refine WP.exit (thn_x (thn_x (blk_hit (thn_n (WP.seq (wP [2, 3] [.string tx, iI 0] fun b63 => ?_))))))
   refine thn_n (WP.ret ?_)
   refine bodyQ.of _ rfl [.string tx, iI 0] ⟨rfl, rfl, trivial⟩ ?_
   have hck : chkI (⟨k, A, B, Ky, valAt w V, l⟩ : StepP) = 0 := by have h_ := h13; omega
   obtain rfl : j = l.length := by omega
   have hwe : tx = lineS (⟨k, A, B, Ky, valAt w V, l⟩ : StepP) := by rw [pb, List.take_of_length_le (Nat.le_refl _)]; obtain ⟨f1, f2, f3, f4, f5, f6⟩ := hpa.fl; unfold lineS wordsS; simp only [f1, f2, f3, f4]; rfl
   exact ⟨by simp only [pack]; rw [hwe, hck, lineV_ok (chk_ok hck)], hp45.fr⟩

theorem rl_kno (K : Int) (hk : ¬ (1 ≤ K ∧ K ≤ 16)) (A B : Int) (Ky : ByteArray) (V L : SlH) (l : List Int) (w : World) (hx : StR w Tr ⟨K, A, B, Ky, V, L⟩ (⟨K, A, B, Ky, valAt w V, l⟩ : StepP)) :
  Calls Tryd.prog 13 #[GStep.val (⟨K, A, B, Ky, V, L⟩ : GStep)] w (fun r_ w' => r_ = .returned (.tuple #[.string (lineV (⟨K, A, B, Ky, valAt w V, l⟩ : StepP)), .int .i64 (chkI (⟨K, A, B, Ky, valAt w V, l⟩ : StepP))]) ∧ Fram Non w w') := by
 refine calls_of Tryd.func13 rfl 70 rfl (by simp) ?_
 have hp0 := Hp.init w
 have he0 : List.map (env0 [GStep.val (⟨K, A, B, Ky, V, L⟩ : GStep)]) [0] = [GStep.val (⟨K, A, B, Ky, V, L⟩ : GStep)] := by kernel_rfl
 obtain ⟨b0, he0⟩ := toMk he0
 rw [he0]
 clear he0
 refine WP.seq (wR ?_)
 refine OPS.cons (opStep.box hp0 [iI K, iI A, iI B, .string Ky, .slice V.a V.n V.c, .slice L.a L.n L.c] (by kernel_rfl) (fun g3 w1 hp2 => ?_))
 refine oP 2 [1] [pP g3] fun b4 => ?_
 refine OPS.nil (thn_n (WP.seq (wR (oQ 1 {} [GStep.val (⟨K, A, B, Ky, V, L⟩ : GStep)] [1, 7] [pP g3, GStep.val (⟨K, A, B, Ky, V, L⟩ : GStep)] (.cons (lN 31 0 [iI K, iI A, iI B, .string Ky, .slice V.a V.n V.c, .slice L.a L.n L.c] hp2.get0) .nil) fun b5 => ?_))))
 refine OPS.cons (opStep.call (some 8) [GStep.val (⟨K, A, B, Ky, V, L⟩ : GStep)] (by kernel_rfl) (rf_Check (⟨K, A, B, Ky, V, L⟩ : GStep) (⟨K, A, B, Ky, valAt w V, l⟩ : StepP) _ (hx.fram hp2.fr)) ?_)
 rintro _ w8 ⟨rfl, hf9⟩
 refine ⟨_, rfl, ?_⟩
 have hp10 := hp2.step hf9
 refine oP 1 [1, 4] [pP g3, iI (chkI (⟨K, A, B, Ky, valAt w V, l⟩ : StepP))] fun b11 => ?_
 refine OPS.nil (thn_n (WP.seq (WP.seq (wP [1, 4, 10] [pP g3, iI (chkI (⟨K, A, B, Ky, valAt w V, l⟩ : StepP)), .bool (decide (¬ ((chkI (⟨K, A, B, Ky, valAt w V, l⟩ : StepP)) = 0)))] fun b12 => ?_))))
 refine thn_n ?_
 refine WP.test (p := ¬ ((chkI (⟨K, A, B, Ky, valAt w V, l⟩ : StepP)) = 0)) rfl Bp.dec (fun h13 => ?_) (fun h13 => ?_)
 ·refine WP.seq (wP [2, 3] [.string ⟨#[]⟩, iI (chkI (⟨K, A, B, Ky, valAt w V, l⟩ : StepP))] fun b14 => ?_)
  refine thn_n (WP.ret (thn_r ?_))
  refine bodyQ.of _ rfl [.string ⟨#[]⟩, iI (chkI (⟨K, A, B, Ky, valAt w V, l⟩ : StepP))] ⟨rfl, rfl, trivial⟩ ?_
  exact ⟨by simp only [pack]; rw [lineV_no h13], hp10.fr⟩
 ·replace h13 := Classical.not_not.1 h13
  refine WP.skip (thn_n (WP.seq ?_))
  exact absurd (chk_32 (x := (⟨K, A, B, Ky, valAt w V, l⟩ : StepP)) hk) (by have h_ := h13; omega)

theorem rf_Line (s : GStep) (x : StepP) (w : World) (hwd : (Res.row 1 wordsC 65).holds w) (hx : StR w Tr s x) (hs : smS x) : Calls Tryd.prog 13 #[GStep.val s] w (fun r_ w' => r_ = .returned (.tuple #[.string (lineV x), .int .i64 (chkI x)]) ∧ Fram Non w w') := by
  obtain ⟨K, A, B, Ky, V, L⟩ := s
  obtain ⟨K', A', B', Ky', v, l⟩ := x
  have h1 := hx.kind
  have h2 := hx.a
  have h3 := hx.b
  have h4 := hx.key
  have h5 := hx.val
  simp only at h1 h2 h3 h4 h5
  subst h1 h2 h3 h4 h5
  by_cases hk : 1 ≤ K ∧ K ≤ 16
  · rcases kcases hk with rfl | rfl | rfl | rfl | rfl | rfl | rfl | rfl | rfl | rfl | rfl | rfl | rfl | rfl | rfl | rfl
    · exact rl_k1 A B Ky V L l w hwd hx hs
    · exact rl_k2 A B Ky V L l w hwd hx hs
    · exact rl_kk 3 (by unfold PA; decide) A B Ky V L l w hwd hx hs
    · exact rl_kk 4 (by unfold PA; decide) A B Ky V L l w hwd hx hs
    · exact rl_kk 5 (by unfold PA; decide) A B Ky V L l w hwd hx hs
    · exact rl_kk 6 (by unfold PA; decide) A B Ky V L l w hwd hx hs
    · exact rl_kk 7 (by unfold PA; decide) A B Ky V L l w hwd hx hs
    · exact rl_kk 8 (by unfold PA; decide) A B Ky V L l w hwd hx hs
    · exact rl_k9 A B Ky V L l w hwd hx hs
    · exact rl_k10 A B Ky V L l w hwd hx hs
    · exact rl_kk 11 (by unfold PA; decide) A B Ky V L l w hwd hx hs
    · exact rl_k12 A B Ky V L l w hwd hx hs
    · exact rl_kk 13 (by unfold PA; decide) A B Ky V L l w hwd hx hs
    · exact rl_k14 A B Ky V L l w hwd hx hs
    · exact rl_kk 15 (by unfold PA; decide) A B Ky V L l w hwd hx hs
    · exact rl_k16 A B Ky V L l w hwd hx hs
  · exact rl_kno K hk A B Ky V L l w hx
end Go.Proofs.YtbpedjefoajegaaDoor.K
namespace Go.Proofs.YtbpedjefoajegaaDoor.K
open Go Go.Proofs Go.RowKit Go.Lib
set_option linter.unusedVariables false
theorem append_str_at {P : Program} (w : World) (T U ty E : TypeId) (i : TypeInfo) (ht : P.underlying T = some (.slice E)) (hu : P.underlying U = some .string) (hi : P.info? E = some i) (hz : i.zero = some (.int .u8 0)) (hsize : i.size = 1) (hby : i.bytes = 1)
    (v : Value) (n : Nat) (xs : List Value) (hown : w.ownsRow 0 E 1 v n xs) (s : ByteArray) (h63 : n + s.size ≤ maxLen) (hb : n + s.size ≤ 140737488355328) :
    ∃ v' w', (Builtin.append_ #[T, U] ty #[v, .string s]).run P w = .ok v' w' ∧ w'.ownsRow 0 E 1 v' (n + s.size) (xs ++ strCells s) ∧ w.grownBy w' v.ownBlock ∧ (v'.ownBlock = v.ownBlock ∨ v'.ownBlock = some w.heap.size) := by
  obtain ⟨v', w', hr, ho, hg, hn⟩ := run_append_own_string (P := P) w 0 T U ty E i ht hu hi hz hsize hby v n xs hown s h63 hb (Nat.zero_le _)
  refine ⟨v', w', hr, ho, hg, ?_⟩
  have hxl : xs.length = n := by simpa using hown.1
  have hsmall : n + s.size ≤ 9223372036854775807 := by simp only [maxLen] at h63; omega
  have key : ∀ (x : Value) (y : World), (Builtin.append_ #[T, U] ty #[v, .string s]).run P w = .ok x y → v' = x := by
    intro x y h
    rw [hr] at h
    cases h
    rfl
  rcases hown.2 with ⟨rfl, rfl⟩ | ⟨g, cap, cur, rfl, hbg, hgp, hnc, hcm, hcs, htake⟩
  · by_cases hm : s.size = 0
    · left; rw [hn.2 ⟨rfl, hm⟩]
    · right
      rw [key _ _ (run_append_nil_string (P := P) w T U ty E i (.int .u8 0) ht hu hi hz s (by omega) (by omega) (by rw [hby]; omega))]
      rfl
  · by_cases hroom : n + s.size ≤ cap
    · have hcs' : cur.size = cap := by simpa using hcs
      left
      rw [key _ _ (run_append_room_string (P := P) w T U ty E i ht hu hi hsize g n cap cur hgp s hroom (by omega))]
      rfl
    · have holds : ∀ j u, xs[j]? = some u → w.cell? ((⟨g, 0, none⟩ : Addr).add j) = some u := hown.cells (g := g) rfl
      right
      rw [key _ _ (run_append_grow_string (P := P) w T U ty E i (.int .u8 0) ht hu hi hz ⟨g, 0, none⟩ n cap xs (by rw [hsize]; simpa using hxl) holds s (by omega) (by omega) (by rw [hby]; exact growslice_fits (by omega) (by omega)))]
      rfl
theorem strCells_u8 (s : ByteArray) : strCells s = List.flatMap u8c (bytesI s) := by
  unfold strCells bytesI
  rw [List.flatMap_map]
  induction s.data.toList with
  | nil => rfl
  | cons b r ih => rw [List.map_cons, List.flatMap_cons, ih]; rfl
section
variable {P : Program} {N : Nat} {ops : Array Oper} {Q : Post} {next : Env → World → Prop} {e : Env} {w w0 : World} {M : Nat → Prop} {d : Nat} {pos : String} {af : Array Edge}
theorem opStep.appendStr {T U E ty2 : TypeId} {s x : Operand} {A B : List Res} {n c0 : Nat} {a : Option Addr} {xs : List Value} {str : ByteArray} (hp : Hp w0 M (A ++ Res.own E 1 (.slice a n c0) n xs :: B) w)
    (hT : P.underlying T = some (.slice E)) (hU : P.underlying U = some .string) (hI : (P.info? E).map (fun i => (i.zero, i.size, i.bytes)) = some (some (Value.int .u8 0), 1, 1))
    (hs : ev e s = .slice a n c0) (hx : ev e x = .string str) (hb : n + str.size ≤ 140737488355328)
    (h : ∀ a' c' w', Hp w0 M (A ++ Res.own E 1 (.slice a' (n + str.size) c') (n + str.size) (xs ++ List.flatMap u8c (bytesI str)) :: B) w' → next (upd e d (.slice a' (n + str.size) c')) w') :
    opStep P N ops Q ⟨some d, .call ⟨.builtin .append, #[s, x], #[T, U]⟩, ty2, pos, af, none⟩ next e w := by
  obtain ⟨i, hi, hiv⟩ := Option.map_eq_some_iff.1 hI
  simp only [Prod.mk.injEq] at hiv
  obtain ⟨hz, hsz, hby⟩ := hiv
  obtain ⟨v', w', hrun, hown, hgrow, hat⟩ := append_str_at (P := P) w T U ty2 E i hT hU hi hz hsz hby _ n xs hp.get str (by simp only [maxLen]; omega) hb
  rw [strCells_u8] at hown
  have hp' : Hp w0 M (A ++ Res.own E 1 v' (n + str.size) (xs ++ List.flatMap u8c (bytesI str)) :: B) w' := by
    refine hp.mod (r' := Res.own E 1 v' (n + str.size) (xs ++ List.flatMap u8c (bytesI str))) (Fram.of_grown hgrow) hown fun b hb => ?_
    have hb' : v'.ownBlock = some b := hb
    refine ⟨(hown.lt b hb').2, ?_⟩
    rcases hat with h2 | h2
    · left
      show Value.ownBlock _ = some b
      rw [← h2]; exact hb'
    · right
      rw [h2] at hb'
      have : w.heap.size = b := by simpa using hb'
      omega
  obtain ⟨a', c', rfl⟩ := own_slice hp'.get
  refine opStep.val (v := .slice a' (n + str.size) c') (w' := w') rfl ?_ (h a' c' w' hp')
  simp [execOp, resolve, invoke, builtin, hs, hx, hrun]
end
end Go.Proofs.YtbpedjefoajegaaDoor.K
namespace Go.Proofs.YtbpedjefoajegaaDoor.K
open Go Go.Proofs Go.RowKit
set_option linter.unusedVariables false
set_option linter.unusedSimpArgs false
set_option maxRecDepth 20000
set_option maxHeartbeats 4000000

theorem strOf_bytes24 (s : ByteArray) : (strOf (bytesI s)).data.toList = s.data.toList := by unfold bytesI; rw [strOf_data]
theorem rf_Text (cl : List GStep) (xs : List StepP) (a : Option Addr) (n c : Nat) (w : World) (hwd : (Res.row 1 wordsC 65).holds w) (hn : n = cl.length) (hb : cl.length ≤ 8796093022207) (hsl : SlR w a n (cl.flatMap GStep.cells)) (hst : StL w Tr cl xs) (hsm : ∀ x ∈ xs, smS x) (hT : ∀ x ∈ xs, (lineS x).size ≤ 34359738366) :
    Calls Tryd.prog 15 #[.slice a n c] w (fun r_ w' => ∃ t e, r_ = .returned (.tuple #[.string t, .int .i64 e]) ∧ TxtR xs t e ∧ Fram Non w w') := by
  have hxl := hst.1
  refine calls_of Tryd.func15 rfl 36 rfl (by simp) ?_
  have hp0 := Hp.init w
  have he0 : List.map (env0 [.slice a n c]) [0] = [.slice a n c] := by kernel_rfl
  obtain ⟨b0, he0⟩ := toMk he0
  rw [he0]
  clear he0
  refine WP.seq ?_
  refine WP.pure {} [] [0] [.slice a n c] .nil (by kernel_rfl) (fun b1 => ?_)
  refine thn_n ?_
  refine WP.seq ?_
  refine WP.seq ?_
  refine WP.pure {} [] [0, 10] [.slice a n c, .bool (decide (4096 < ((n : Nat) : Int)))] .nil (by kernel_rfl) (fun b2 => ?_)
  refine thn_n ?_
  refine WP.test (p := 4096 < ((n : Nat) : Int)) rfl Bp.dec (fun h3 => ?_) (fun h3 => ?_)
  · refine WP.seq ?_
    refine WP.pure {} [] [2, 3] [.string ⟨#[]⟩, .int .i64 2] .nil (by kernel_rfl) (fun b4 => ?_)
    refine thn_n ?_
    refine WP.ret ?_
    refine thn_r ?_
    refine bodyQ.of _ rfl [.string ⟨#[]⟩, .int .i64 2] ⟨rfl, rfl, trivial⟩ ?_
    exact ⟨_, _, rfl, .inl ⟨by have h_ := h3; omega, rfl, rfl⟩, hp0.fr⟩
  · refine WP.skip ?_
    refine thn_n ?_
    refine WP.seq ?_
    refine WP.pure {} [] [0, 4] [.slice a n c, .slice none 0 0] .nil (by kernel_rfl) (fun b5 => ?_)
    refine thn_n ?_
    refine WP.seq ?_
    refine WP.seq ?_
    refine WP.pure {} [] [0, 4, 5] [.slice a n c, .slice none 0 0, .int .i64 0] .nil (by kernel_rfl) (fun b6 => ?_)
    refine thn_n ?_
    refine WP.block ?_
    have hp7 := (show Hp w Non [Res.own 5 1 (.slice none 0 0) 0 (List.flatMap u8c ([] : List Int))] w from hp0.nilOwn 5 1)
    refine WP.loop (fun mz_ e8 w9 => ∃ (k : Nat) (ys : List Int) (ao : Option Addr) (no : Nat) (co : Nat), mz_ = n - k ∧ (k ≤ n ∧ (∀ i, i < k → chkI xs[i]! = 0) ∧ (strOf ys).data.toList = txtL (xs.take k) ∧ ys.length ≤ k * 34359738367) ∧ List.map e8 [0, 4, 5] = [.slice a n c, .slice ao no co, .int .i64 (k : Int)] ∧ Hp w Non [Res.own 5 1 (.slice ao no co) no (List.flatMap u8c ys)] w9) (n - (0)) ⟨0, [], none, 0, 0, rfl, ⟨by omega, fun i hi => by omega, rfl, by simp⟩, by kernel_rfl, hp7⟩ ?_
    rintro _ e8 w9 ⟨k, ys, ao, no, co, rfl, hI11, hE12, hp10⟩
    obtain ⟨b13, rfl⟩ := toMk hE12
    clear hE12
    obtain ⟨pa, pb2, pc, pd⟩ := hI11
    have pe := own_flat (sz := 1) (fun _ => rfl) (by decide) hp10.get0
    have hlk : k < xs.length → (lineS xs[k]!).size ≤ 34359738366 := fun q => hT _ (List.mem_of_getElem? (get_bang q))
    have hlv : k < xs.length → (lineV xs[k]!).size ≤ 34359738366 := fun q => by unfold lineV; split; exact hlk q; exact Nat.zero_le _
    have hbl := bytesI_len (lineV xs[k]!)
    refine WP.seq ?_
    refine WP.seq ?_
    refine WP.pure {} [] [0, 4, 5, 14] [.slice a n c, .slice ao no co, .int .i64 (k : Int), .bool (decide ((k : Int) < ((n : Nat) : Int)))] .nil (by kernel_rfl) (fun b14 => ?_)
    refine thn_n ?_
    refine WP.test (p := (k : Int) < ((n : Nat) : Int)) rfl Bp.dec (fun h15 => ?_) (fun h15 => ?_)
    · refine WP.skip ?_
      refine thn_n ?_
      refine WP.seq ?_
      refine WP.block ?_
      refine WP.seq ?_
      refine WP.region _ rfl (by kernel_rfl) ?_
      have hy19 : (cl)[k]? = some cl[k]! := get_bang (by first | (omega) | (simp only [List.length_append, List.length_cons, List.length_nil]; omega) | (simp only [List.length_take, List.length_append, List.length_cons, List.length_nil]; omega))
      refine OPS.batch 4 {} [GStep.val (cl[k]!)] [0, 4, 5, 21] [.slice a n c, .slice ao no co, .int .i64 (k : Int), GStep.val (cl[k]!)] (.cons (show InB ((k : Int)) (n) from ⟨by omega, by omega⟩) (.cons ((hsl.at hp10).some (by omega)) (.cons (Ld.add0 (Ld.elN (P := Tryd.prog) (t := 31) (hsl.at hp10).rd 6 (fun _ => rfl) hy19 (o := 0) (cs := [.int .i64 (cl[k]!.Kind), .int .i64 (cl[k]!.A), .int .i64 (cl[k]!.B), .string (cl[k]!.Key), .slice (cl[k]!.Value.a) (cl[k]!.Value.n) (cl[k]!.Value.c), .slice (cl[k]!.L.a) (cl[k]!.L.n) (cl[k]!.L.c)]) (by kernel_rfl))) .nil))) (by kernel_rfl) (fun b20 => ?_)
      refine OPS.cons (opStep.call (some 22) [GStep.val (cl[k]!)] (by kernel_rfl) (rf_Line cl[k]! xs[k]! _ (row_at hwd hp10.fr) ((hst.2 k (by omega)).fram hp10.fr) (hsm _ (List.mem_of_getElem? (get_bang (by omega))))) ?_)
      rintro _ w23 ⟨rfl, hf24⟩
      refine ⟨_, rfl, ?_⟩
      have hp25 := hp10.step hf24
      refine OPS.batch 5 {} [] [0, 4, 5, 6, 7] [.slice a n c, .slice ao no co, .int .i64 (k : Int), .string (lineV xs[k]!), .int .i64 (chkI xs[k]!)] .nil (by kernel_rfl) (fun b26 => ?_)
      refine OPS.nil ?_
      refine thn_n ?_
      refine WP.seq ?_
      refine WP.seq ?_
      refine WP.pure {} [] [0, 4, 5, 6, 7, 26] [.slice a n c, .slice ao no co, .int .i64 (k : Int), .string (lineV xs[k]!), .int .i64 (chkI xs[k]!), .bool (decide (¬ ((chkI xs[k]!) = 0)))] .nil (by kernel_rfl) (fun b27 => ?_)
      refine thn_n ?_
      refine WP.test (p := ¬ ((chkI xs[k]!) = 0)) rfl Bp.dec (fun h28 => ?_) (fun h28 => ?_)
      · refine WP.seq ?_
        refine WP.pure {} [] [2, 3] [.string ⟨#[]⟩, .int .i64 (chkI xs[k]!)] .nil (by kernel_rfl) (fun b29 => ?_)
        refine thn_n ?_
        refine WP.ret ?_
        refine thn_r ?_
        refine blk_r ?_
        refine thn_r ?_
        refine thn_r ?_
        refine blk_r ?_
        refine thn_r ?_
        refine bodyQ.of _ rfl [.string ⟨#[]⟩, .int .i64 (chkI xs[k]!)] ⟨rfl, rfl, trivial⟩ ?_
        exact ⟨_, _, rfl, .inr (.inl ⟨by omega, rfl, k, by omega, rfl, by have h_ := h28; omega, pb2⟩), hp25.fr⟩
      · replace h28 := Classical.not_not.1 h28
        refine WP.skip ?_
        refine thn_n ?_
        refine WP.seq ?_
        refine WP.region _ rfl (by kernel_rfl) ?_
        refine OPS.batch 2 {} [] [0, 5, 28, 29] [.slice a n c, .int .i64 (k : Int), .slice ao no co, .string (lineV xs[k]!)] .nil (by kernel_rfl) (fun b30 => ?_)
        refine OPS.cons (opStep.appendStr (A := []) hp25 (by kernel_rfl) (by kernel_rfl) (by kernel_rfl) rfl rfl (by omega) (fun a33 c34 w35 hp36 => ?_))
        rw [show List.flatMap u8c ys ++ List.flatMap u8c (bytesI (lineV xs[k]!)) = List.flatMap u8c (ys ++ bytesI (lineV xs[k]!)) from List.flatMap_append.symm] at hp36
        simp only [List.cons_append, List.nil_append] at hp36
        refine OPS.batch 1 {} [] [0, 4, 5] [.slice a n c, .slice a33 (no + (lineV xs[k]!).size) c34, .int .i64 (k : Int)] .nil (by kernel_rfl) (fun b37 => ?_)
        refine OPS.nil ?_
        refine thn_n ?_
        refine WP.region _ rfl (by kernel_rfl) ?_
        refine OPS.batch 1 {} [] [0, 5, 31] [.slice a n c, .int .i64 (k : Int), .slice a33 (no + (lineV xs[k]!).size) c34] .nil (by kernel_rfl) (fun b38 => ?_)
        refine OPS.cons (opStep.buildSlice (E := 5) hp36 [.int .u8 10] (by kernel_rfl) (fun g41 w39 hp40 => ?_))
        refine OPS.cons (opStep.append1 [.int .u8 10] hp40 1 (by kernel_rfl) rfl rfl rfl (SlR.row (n := 1) hp40.get0 rfl).rd (List.all_eq_true.1 (by kernel_rfl)) (by decide) (by omega) (by omega) (fun a44 c45 w46 hp47 hn48 => ?_))
        rw [(show List.flatMap u8c (ys ++ bytesI (lineV xs[k]!)) ++ [.int .u8 10] = List.flatMap u8c ((ys ++ bytesI (lineV xs[k]!)) ++ [10]) from (List.flatMap_append (xs := ys ++ bytesI (lineV xs[k]!)) (ys := [10])).symm)] at hp47
        refine OPS.batch 1 {} [] [0, 4, 5] [.slice a n c, .slice a44 (no + (lineV xs[k]!).size + 1) c45, .int .i64 (k : Int)] .nil (by kernel_rfl) (fun b49 => ?_)
        refine OPS.nil ?_
        refine blk_n ?_
        refine thn_n ?_
        refine WP.pure {} [] [0, 4, 5] [.slice a n c, .slice a44 (no + (lineV xs[k]!).size + 1) c45, .int .i64 ((k : Int) + 1)] (.cons (show Rng .i64 ((k : Int) + 1) from Rng.i64 (by omega)) .nil) (by kernel_rfl) (fun b50 => ?_)
        refine thn_n ?_
        have hc0 : chkI xs[k]! = 0 := by have h_ := h28; omega
        have hst_ : (strOf ((ys ++ bytesI (lineV xs[k]!)) ++ [10])).data.toList = txtL (xs.take (k + 1)) := by rw [strOf_app, strOf_app, pc, strOf_bytes24, ← txt_step (by omega) hc0]; rfl
        exact ⟨n - (k + 1), (by omega), k + 1, (ys ++ bytesI (lineV xs[k]!)) ++ [10], a44, no + (lineV xs[k]!).size + 1, c45, rfl, ⟨by omega, fun i hi => by by_cases e : i = k; subst e; exact hc0; exact pb2 i (by omega), hst_, by simp only [List.length_append, List.length_singleton]; omega⟩, by kernel_rfl, (hp47.sub (.cons _ (.cons_cons _ (.slnil))))⟩
    · refine WP.exit ?_
      refine thn_x ?_
      refine thn_x ?_
      refine blk_hit ?_
      refine thn_n ?_
      refine WP.seq ?_
      refine WP.pure {} [.string (strOf ys)] [2, 3] [.string (strOf ys), .int .i64 0] (.cons (show Bs Tryd.prog w9 (.slice ao no co) (.string (strOf ys)) from Bs.of (SlR.own hp10.get0) (own_flat (sz := 1) (fun _ => rfl) (by decide) hp10.get0)) .nil) (by kernel_rfl) (fun b51 => ?_)
      refine thn_n ?_
      refine WP.ret ?_
      refine bodyQ.of _ rfl [.string (strOf ys), .int .i64 0] ⟨rfl, rfl, trivial⟩ ?_
      have hk : k = xs.length := by omega
      rw [hk, List.take_of_length_le (Nat.le_refl _)] at pc
      exact ⟨_, _, rfl, .inr (.inr ⟨by omega, rfl, ba_ext (by rw [pc]; unfold textS txtL; rw [List.toList_toArray]), fun x hx => by obtain ⟨i, hi⟩ := List.getElem?_of_mem hx; have hil := (List.getElem?_eq_some_iff.1 hi).1; have h_ := pb2 i (by omega); rw [getElem!_pos xs i hil, (List.getElem?_eq_some_iff.1 hi).2] at h_; exact chk_ok h_⟩), hp10.fr⟩

end Go.Proofs.YtbpedjefoajegaaDoor.K
