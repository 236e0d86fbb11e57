/- Texts of this claim, merged: what the program's functions compute, and the rules that the walks use. -/
import Derived.Test.YtbpedjefoajegaaDoorProg
import Derived.Test.YtbpedjefoajegaaDoorZ1
import Derived.Test.YtbpedjefoajegaaDoorZ4
import Derived.Test.YtbpedjefoajegaaDoorZ5
import Derived.Test.YtbpedjefoajegaaDoorZ8
namespace Go.Proofs.YtbpedjefoajegaaDoor.K
open Go Go.Proofs Go.RowKit
set_option linter.unusedVariables false
set_option linter.unusedSimpArgs false
set_option maxRecDepth 20000
set_option maxHeartbeats 4000000
noncomputable abbrev qi0 := fun a0 a1 a2 a3 a4 a5 a6 a7 a8 => ([.string a0, pP a1, pP a2, .string ((wordsB a0).headD ByteArray.empty), .slice (some ⟨a3, 0, none⟩) 4 4, .string ((((((wordsB a0).headD ByteArray.empty) ++ ((⟨#[32]⟩ : ByteArray) ++ (itoaT a4))) ++ ((⟨#[32]⟩ : ByteArray) ++ (itoaT a5))) ++ ((⟨#[32]⟩ : ByteArray) ++ (itoaT a6))) ++ ((⟨#[32]⟩ : ByteArray) ++ (itoaT a7))), .bool a8] : List Go.Value)
noncomputable abbrev qi1 := fun a0 a1 => ([pP a0, .slice (some ⟨a1, 0, none⟩) 4 4, bT] : List Go.Value)
noncomputable abbrev qi2 := (.agg #[iI 0, iI 0, iI 0] : Go.Value)
noncomputable abbrev qi3 := fun a0 a1 a2 => ([iI a0, iI a1, iI a2] : List Go.Value)
noncomputable abbrev qi4 := fun a0 a1 a2 => (.agg #[iI a0, iI a1, iI a2] : Go.Value)

theorem sz32 : (⟨#[32]⟩ : ByteArray).size = 1 := rfl
theorem sc_Config (s : ByteArray) (hs : s.size ≤ 4294967280) (w : World) (hl : LibP w) :
  Calls Tryd.prog 19 #[.string s] w (fun r_ w' => ∃ (c : GConfig) (n e : Int), r_ = .returned (.tuple #[GConfig.val c, .int .i64 n, .int .i64 e]) ∧ ConfR s c n e ∧ Fram Non w w') := by
 have hsz : ∀ x ∈ wordsB s, x.size ≤ 281474976710656 := fun x hx => Nat.le_trans (words_size _ _ _ hx) (by omega)
 have hhd := head_size hsz
 have hse : ByteArray.empty.size = 0 := rfl
 refine calls_of Tryd.func19 rfl 94 rfl (by simp) ?_
 have hp0 := Hp.init w
 have he0 : List.map (env0 [.string s]) [0] = [.string s] := by kernel_rfl
 obtain ⟨b0, he0⟩ := toMk he0
 rw [he0]
 clear he0
 refine WP.seq (wR ?_)
 refine OPS.cons (opStep.alloc hp0 [iI 0, iI 0, iI 0] (by kernel_rfl) (fun g3 w1 hp2 => ?_))
 refine oP 2 [0, 2] [.string s, pP g3] fun b4 => ?_
 refine OPS.nil (thn_n (WP.seq (wR (oP 1 [0, 2, 13] [.string s, pP g3, .string s] fun b5 => ?_))))
 refine OPS.cons (opStep.call (some 14) [.string s, .string ⟨#[32]⟩] (by kernel_rfl) (split_c s hs (hl.fram hp2.fr) hp2) ?_)
 rintro _ w8 ⟨g10, n11, rfl, hp9⟩
 refine ⟨_, rfl, ?_⟩
 refine oP 1 [0, 2, 15] [.string s, pP g3, .agg #[.slice (some ⟨g10, 0, none⟩) n11 n11, bF]] fun b12 => ?_
 refine OPS.cons (opStep.box hp9 [.slice (some ⟨g10, 0, none⟩) n11 n11, bF] (by kernel_rfl) (fun g15 w13 hp14 => ?_))
 refine oP 1 [0, 2, 5] [.string s, pP g3, pP g15] fun b16 => ?_
 refine OPS.nil (thn_n (WP.seq (wR (oP 1 [0, 2, 5, 17] [.string s, pP g3, pP g15, pP g15] fun b17 => ?_))))
 have hp20 := hp14.pull1
 have hp21 := hp20.pull1
 refine OPS.cons (opStep.call (some 18) [pP g15] (by kernel_rfl) (w_next _ _ g15 g10 (⟨some ⟨g10, 0, none⟩, n11, n11⟩ : SlH) (wordsB s) false _ hp21) ?_)
 rintro _ w22 ⟨h24, rfl, hp23⟩
 refine ⟨_, rfl, ?_⟩
 refine oP 1 [0, 2, 5, 6] [.string s, pP g3, pP g15, .string ((wordsB s).headD ByteArray.empty)] fun b25 => ?_
 refine OPS.nil (thn_n (WP.seq (wR (oP 1 [0, 2, 5, 6, 19] [.string s, pP g3, pP g15, .string ((wordsB s).headD ByteArray.empty), pP g15] fun b26 => ?_))))
 have hp29 := hp23.pull1
 have hp30 := hp29.pull1
 refine OPS.cons (opStep.call (some 20) [pP g15] (by kernel_rfl) (w_number _ _ g15 g10 h24 ((wordsB s).tail) (false || (wordsB s).isEmpty) _ hl (tail_size hsz) hp30) ?_)
 rintro _ w31 ⟨h33, v34, bd35_, rfl, hn36, hp32⟩
 refine ⟨_, rfl, ?_⟩
 have hn36a := hn36.rng.1
 have hn36b := hn36.rng.2
 have hn36z := itoaT_size hn36a hn36b
 refine oP 1 [0, 2, 5, 6, 20, 21] [.string s, pP g3, pP g15, .string ((wordsB s).headD ByteArray.empty), iI v34, pP g15] fun b37 => ?_
 have hp40 := hp32.pull1
 have hp41 := hp40.pull1
 refine OPS.cons (opStep.call (some 22) [pP g15] (by kernel_rfl) (w_number _ _ g15 g10 h33 (((wordsB s).tail).tail) bd35_ _ hl (tail_size (tail_size hsz)) hp41) ?_)
 rintro _ w42 ⟨h44, v45, bd46_, rfl, hn47, hp43⟩
 refine ⟨_, rfl, ?_⟩
 have hn47a := hn47.rng.1
 have hn47b := hn47.rng.2
 have hn47z := itoaT_size hn47a hn47b
 refine oP 1 [0, 2, 5, 6, 20, 22, 23] [.string s, pP g3, pP g15, .string ((wordsB s).headD ByteArray.empty), iI v34, iI v45, pP g15] fun b48 => ?_
 have hp51 := hp43.pull1
 have hp52 := hp51.pull1
 refine OPS.cons (opStep.call (some 24) [pP g15] (by kernel_rfl) (w_number _ _ g15 g10 h44 ((((wordsB s).tail).tail).tail) bd46_ _ hl (tail_size (tail_size (tail_size hsz))) hp52) ?_)
 rintro _ w53 ⟨h55, v56, bd57_, rfl, hn58, hp54⟩
 refine ⟨_, rfl, ?_⟩
 have hn58a := hn58.rng.1
 have hn58b := hn58.rng.2
 have hn58z := itoaT_size hn58a hn58b
 refine oP 1 [0, 2, 5, 6, 20, 22, 24, 25] [.string s, pP g3, pP g15, .string ((wordsB s).headD ByteArray.empty), iI v34, iI v45, iI v56, pP g15] fun b59 => ?_
 have hp62 := hp54.pull1
 have hp63 := hp62.pull1
 refine OPS.cons (opStep.call (some 26) [pP g15] (by kernel_rfl) (w_number _ _ g15 g10 h55 (((((wordsB s).tail).tail).tail).tail) bd57_ _ hl (tail_size (tail_size (tail_size (tail_size hsz)))) hp63) ?_)
 rintro _ w64 ⟨h66, v67, bd68_, rfl, hn69, hp65⟩
 refine ⟨_, rfl, ?_⟩
 have hn69a := hn69.rng.1
 have hn69b := hn69.rng.2
 have hn69z := itoaT_size hn69a hn69b
 refine OPS.cons (opStep.buildSlice (E := 3) hp65 [iI v34, iI v45, iI v56, iI v67] (by kernel_rfl) (fun g72 w70 hp71 => ?_))
 refine oP 1 [0, 2, 5, 6, 7] [.string s, pP g3, pP g15, .string ((wordsB s).headD ByteArray.empty), .slice (some ⟨g72, 0, none⟩) 4 4] fun b73 => ?_
 refine OPS.nil (thn_n (WP.seq (wP [0, 2, 5, 6, 7, 8] [.string s, pP g3, pP g15, .string ((wordsB s).headD ByteArray.empty), .slice (some ⟨g72, 0, none⟩) 4 4, .string ((wordsB s).headD ByteArray.empty)] fun b74 => ?_)))
 refine thn_n (WP.seq (WP.seq (wP [0, 2, 5, 6, 7, 8, 29, 30, 31] [.string s, pP g3, pP g15, .string ((wordsB s).headD ByteArray.empty), .slice (some ⟨g72, 0, none⟩) 4 4, .string ((wordsB s).headD ByteArray.empty), .slice (some ⟨g72, 0, none⟩) 4 4, iI 4, iI 0] fun b75 => ?_)))
 refine thn_n (WP.block ?_)
 refine WP.rounds 5 ?_
 refine RND.step ?_
 refine WP.seq (wP [0, 2, 5, 6, 7, 8, 29, 30, 31, 32] [.string s, pP g3, pP g15, .string ((wordsB s).headD ByteArray.empty), .slice (some ⟨g72, 0, none⟩) 4 4, .string ((wordsB s).headD ByteArray.empty), .slice (some ⟨g72, 0, none⟩) 4 4, iI 4, iI 0, bT] fun b76 => ?_)
 refine thn_n (WP.seq (WP.condT rfl (WP.skip (thn_n (WP.seq (WP.block (WP.seq (wQ {} [iI v34] [0, 2, 5, 6, 7, 8, 10, 29, 30, 31] [.string s, pP g3, pP g15, .string ((wordsB s).headD ByteArray.empty), .slice (some ⟨g72, 0, none⟩) 4 4, .string ((wordsB s).headD ByteArray.empty), iI v34, .slice (some ⟨g72, 0, none⟩) 4 4, iI 4, iI 0] (.cons (show InB (0) (4) from ⟨by omega, by omega⟩) (.cons (show (some (⟨g72, 0, none⟩ : Addr)).isSome = true from rfl) (.cons (l1 3 0 (iI v34) hp71.get0) .nil))) fun b77 => ?_))))))))
 refine thn_n (wR (oP 2 [0, 2, 5, 6, 7, 29, 30, 31, 35, 36] [.string s, pP g3, pP g15, .string ((wordsB s).headD ByteArray.empty), .slice (some ⟨g72, 0, none⟩) 4 4, .slice (some ⟨g72, 0, none⟩) 4 4, iI 4, iI 0, .string ((wordsB s).headD ByteArray.empty), iI v34] fun b78 => ?_))
 refine OPS.cons (opStep.call (some 37) [iI v34] (by kernel_rfl) (itoa_c v34 (by omega) (by omega) _ (hl.fram hp71.fr)) ?_)
 rintro _ w81 ⟨rfl, hf82⟩
 refine ⟨_, rfl, ?_⟩
 have hp83 := hp71.step hf82
 refine oQ 3 {} [] [0, 2, 5, 6, 7, 8, 29, 30, 31] [.string s, pP g3, pP g15, .string ((wordsB s).headD ByteArray.empty), .slice (some ⟨g72, 0, none⟩) 4 4, .string (((wordsB s).headD ByteArray.empty) ++ ((⟨#[32]⟩ : ByteArray) ++ (itoaT v34))), .slice (some ⟨g72, 0, none⟩) 4 4, iI 4, iI 0] (.cons (show (⟨#[32]⟩ : ByteArray).size + (itoaT v34).size ≤ 9223372036854775807 from by first | omega | (simp only [ByteArray.size_append, sz32]; omega)) (.cons (show ((wordsB s).headD ByteArray.empty).size + ((⟨#[32]⟩ : ByteArray) ++ (itoaT v34)).size ≤ 9223372036854775807 from by first | omega | (simp only [ByteArray.size_append, sz32]; omega)) .nil)) fun b84 => ?_
 refine OPS.nil (blk_n (thn_n (wQ {} [] [0, 2, 5, 6, 7, 8, 29, 30, 31] [.string s, pP g3, pP g15, .string ((wordsB s).headD ByteArray.empty), .slice (some ⟨g72, 0, none⟩) 4 4, .string (((wordsB s).headD ByteArray.empty) ++ ((⟨#[32]⟩ : ByteArray) ++ (itoaT v34))), .slice (some ⟨g72, 0, none⟩) 4 4, iI 4, iI 1] (.cons (show Rng .i64 (1) from Rng.i64 (by first | omega | (simp only [ByteArray.size_append, sz32]; omega))) .nil) fun b85 => ?_)))
 refine thn_n ?_
 refine RND.step ?_
 refine WP.seq (wP [0, 2, 5, 6, 7, 8, 29, 30, 31, 32] [.string s, pP g3, pP g15, .string ((wordsB s).headD ByteArray.empty), .slice (some ⟨g72, 0, none⟩) 4 4, .string (((wordsB s).headD ByteArray.empty) ++ ((⟨#[32]⟩ : ByteArray) ++ (itoaT v34))), .slice (some ⟨g72, 0, none⟩) 4 4, iI 4, iI 1, bT] fun b86 => ?_)
 refine thn_n (WP.seq (WP.condT rfl (WP.skip (thn_n (WP.seq (WP.block (WP.seq (wQ {} [iI v45] [0, 2, 5, 6, 7, 8, 10, 29, 30, 31] [.string s, pP g3, pP g15, .string ((wordsB s).headD ByteArray.empty), .slice (some ⟨g72, 0, none⟩) 4 4, .string (((wordsB s).headD ByteArray.empty) ++ ((⟨#[32]⟩ : ByteArray) ++ (itoaT v34))), iI v45, .slice (some ⟨g72, 0, none⟩) 4 4, iI 4, iI 1] (.cons (show InB (1) (4) from ⟨by omega, by omega⟩) (.cons (show (some (⟨g72, 0, none⟩ : Addr)).isSome = true from rfl) (.cons (l1 3 1 (iI v45) hp83.get0) .nil))) fun b87 => ?_))))))))
 refine thn_n (wR (oP 2 [0, 2, 5, 6, 7, 29, 30, 31, 35, 36] [.string s, pP g3, pP g15, .string ((wordsB s).headD ByteArray.empty), .slice (some ⟨g72, 0, none⟩) 4 4, .slice (some ⟨g72, 0, none⟩) 4 4, iI 4, iI 1, .string (((wordsB s).headD ByteArray.empty) ++ ((⟨#[32]⟩ : ByteArray) ++ (itoaT v34))), iI v45] fun b88 => ?_))
 refine OPS.cons (opStep.call (some 37) [iI v45] (by kernel_rfl) (itoa_c v45 (by omega) (by omega) _ (hl.fram hp83.fr)) ?_)
 rintro _ w91 ⟨rfl, hf92⟩
 refine ⟨_, rfl, ?_⟩
 have hp93 := hp83.step hf92
 refine oQ 3 {} [] [0, 2, 5, 6, 7, 8, 29, 30, 31] [.string s, pP g3, pP g15, .string ((wordsB s).headD ByteArray.empty), .slice (some ⟨g72, 0, none⟩) 4 4, .string ((((wordsB s).headD ByteArray.empty) ++ ((⟨#[32]⟩ : ByteArray) ++ (itoaT v34))) ++ ((⟨#[32]⟩ : ByteArray) ++ (itoaT v45))), .slice (some ⟨g72, 0, none⟩) 4 4, iI 4, iI 1] (.cons (show (⟨#[32]⟩ : ByteArray).size + (itoaT v45).size ≤ 9223372036854775807 from by first | omega | (simp only [ByteArray.size_append, sz32]; omega)) (.cons (show (((wordsB s).headD ByteArray.empty) ++ ((⟨#[32]⟩ : ByteArray) ++ (itoaT v34))).size + ((⟨#[32]⟩ : ByteArray) ++ (itoaT v45)).size ≤ 9223372036854775807 from by first | omega | (simp only [ByteArray.size_append, sz32]; omega)) .nil)) fun b94 => ?_
 refine OPS.nil (blk_n (thn_n (wQ {} [] [0, 2, 5, 6, 7, 8, 29, 30, 31] [.string s, pP g3, pP g15, .string ((wordsB s).headD ByteArray.empty), .slice (some ⟨g72, 0, none⟩) 4 4, .string ((((wordsB s).headD ByteArray.empty) ++ ((⟨#[32]⟩ : ByteArray) ++ (itoaT v34))) ++ ((⟨#[32]⟩ : ByteArray) ++ (itoaT v45))), .slice (some ⟨g72, 0, none⟩) 4 4, iI 4, iI 2] (.cons (show Rng .i64 (2) from Rng.i64 (by first | omega | (simp only [ByteArray.size_append, sz32]; omega))) .nil) fun b95 => ?_)))
 refine thn_n ?_
 refine RND.step ?_
 refine WP.seq (wP [0, 2, 5, 6, 7, 8, 29, 30, 31, 32] [.string s, pP g3, pP g15, .string ((wordsB s).headD ByteArray.empty), .slice (some ⟨g72, 0, none⟩) 4 4, .string ((((wordsB s).headD ByteArray.empty) ++ ((⟨#[32]⟩ : ByteArray) ++ (itoaT v34))) ++ ((⟨#[32]⟩ : ByteArray) ++ (itoaT v45))), .slice (some ⟨g72, 0, none⟩) 4 4, iI 4, iI 2, bT] fun b96 => ?_)
 refine thn_n (WP.seq (WP.condT rfl (WP.skip (thn_n (WP.seq (WP.block (WP.seq (wQ {} [iI v56] [0, 2, 5, 6, 7, 8, 10, 29, 30, 31] [.string s, pP g3, pP g15, .string ((wordsB s).headD ByteArray.empty), .slice (some ⟨g72, 0, none⟩) 4 4, .string ((((wordsB s).headD ByteArray.empty) ++ ((⟨#[32]⟩ : ByteArray) ++ (itoaT v34))) ++ ((⟨#[32]⟩ : ByteArray) ++ (itoaT v45))), iI v56, .slice (some ⟨g72, 0, none⟩) 4 4, iI 4, iI 2] (.cons (show InB (2) (4) from ⟨by omega, by omega⟩) (.cons (show (some (⟨g72, 0, none⟩ : Addr)).isSome = true from rfl) (.cons (l1 3 2 (iI v56) hp93.get0) .nil))) fun b97 => ?_))))))))
 refine thn_n (wR (oP 2 [0, 2, 5, 6, 7, 29, 30, 31, 35, 36] [.string s, pP g3, pP g15, .string ((wordsB s).headD ByteArray.empty), .slice (some ⟨g72, 0, none⟩) 4 4, .slice (some ⟨g72, 0, none⟩) 4 4, iI 4, iI 2, .string ((((wordsB s).headD ByteArray.empty) ++ ((⟨#[32]⟩ : ByteArray) ++ (itoaT v34))) ++ ((⟨#[32]⟩ : ByteArray) ++ (itoaT v45))), iI v56] fun b98 => ?_))
 refine OPS.cons (opStep.call (some 37) [iI v56] (by kernel_rfl) (itoa_c v56 (by omega) (by omega) _ (hl.fram hp93.fr)) ?_)
 rintro _ w101 ⟨rfl, hf102⟩
 refine ⟨_, rfl, ?_⟩
 have hp103 := hp93.step hf102
 refine oQ 3 {} [] [0, 2, 5, 6, 7, 8, 29, 30, 31] [.string s, pP g3, pP g15, .string ((wordsB s).headD ByteArray.empty), .slice (some ⟨g72, 0, none⟩) 4 4, .string (((((wordsB s).headD ByteArray.empty) ++ ((⟨#[32]⟩ : ByteArray) ++ (itoaT v34))) ++ ((⟨#[32]⟩ : ByteArray) ++ (itoaT v45))) ++ ((⟨#[32]⟩ : ByteArray) ++ (itoaT v56))), .slice (some ⟨g72, 0, none⟩) 4 4, iI 4, iI 2] (.cons (show (⟨#[32]⟩ : ByteArray).size + (itoaT v56).size ≤ 9223372036854775807 from by first | omega | (simp only [ByteArray.size_append, sz32]; omega)) (.cons (show ((((wordsB s).headD ByteArray.empty) ++ ((⟨#[32]⟩ : ByteArray) ++ (itoaT v34))) ++ ((⟨#[32]⟩ : ByteArray) ++ (itoaT v45))).size + ((⟨#[32]⟩ : ByteArray) ++ (itoaT v56)).size ≤ 9223372036854775807 from by first | omega | (simp only [ByteArray.size_append, sz32]; omega)) .nil)) fun b104 => ?_
 refine OPS.nil (blk_n (thn_n (wQ {} [] [0, 2, 5, 6, 7, 8, 29, 30, 31] [.string s, pP g3, pP g15, .string ((wordsB s).headD ByteArray.empty), .slice (some ⟨g72, 0, none⟩) 4 4, .string (((((wordsB s).headD ByteArray.empty) ++ ((⟨#[32]⟩ : ByteArray) ++ (itoaT v34))) ++ ((⟨#[32]⟩ : ByteArray) ++ (itoaT v45))) ++ ((⟨#[32]⟩ : ByteArray) ++ (itoaT v56))), .slice (some ⟨g72, 0, none⟩) 4 4, iI 4, iI 3] (.cons (show Rng .i64 (3) from Rng.i64 (by first | omega | (simp only [ByteArray.size_append, sz32]; omega))) .nil) fun b105 => ?_)))
 refine thn_n ?_
 refine RND.step ?_
 refine WP.seq (wP [0, 2, 5, 6, 7, 8, 29, 30, 31, 32] [.string s, pP g3, pP g15, .string ((wordsB s).headD ByteArray.empty), .slice (some ⟨g72, 0, none⟩) 4 4, .string (((((wordsB s).headD ByteArray.empty) ++ ((⟨#[32]⟩ : ByteArray) ++ (itoaT v34))) ++ ((⟨#[32]⟩ : ByteArray) ++ (itoaT v45))) ++ ((⟨#[32]⟩ : ByteArray) ++ (itoaT v56))), .slice (some ⟨g72, 0, none⟩) 4 4, iI 4, iI 3, bT] fun b106 => ?_)
 refine thn_n (WP.seq (WP.condT rfl (WP.skip (thn_n (WP.seq (WP.block (WP.seq (wQ {} [iI v67] [0, 2, 5, 6, 7, 8, 10, 29, 30, 31] [.string s, pP g3, pP g15, .string ((wordsB s).headD ByteArray.empty), .slice (some ⟨g72, 0, none⟩) 4 4, .string (((((wordsB s).headD ByteArray.empty) ++ ((⟨#[32]⟩ : ByteArray) ++ (itoaT v34))) ++ ((⟨#[32]⟩ : ByteArray) ++ (itoaT v45))) ++ ((⟨#[32]⟩ : ByteArray) ++ (itoaT v56))), iI v67, .slice (some ⟨g72, 0, none⟩) 4 4, iI 4, iI 3] (.cons (show InB (3) (4) from ⟨by omega, by omega⟩) (.cons (show (some (⟨g72, 0, none⟩ : Addr)).isSome = true from rfl) (.cons (l1 3 3 (iI v67) hp103.get0) .nil))) fun b107 => ?_))))))))
 refine thn_n (wR (oP 2 [0, 2, 5, 6, 7, 29, 30, 31, 35, 36] [.string s, pP g3, pP g15, .string ((wordsB s).headD ByteArray.empty), .slice (some ⟨g72, 0, none⟩) 4 4, .slice (some ⟨g72, 0, none⟩) 4 4, iI 4, iI 3, .string (((((wordsB s).headD ByteArray.empty) ++ ((⟨#[32]⟩ : ByteArray) ++ (itoaT v34))) ++ ((⟨#[32]⟩ : ByteArray) ++ (itoaT v45))) ++ ((⟨#[32]⟩ : ByteArray) ++ (itoaT v56))), iI v67] fun b108 => ?_))
 refine OPS.cons (opStep.call (some 37) [iI v67] (by kernel_rfl) (itoa_c v67 (by omega) (by omega) _ (hl.fram hp103.fr)) ?_)
 rintro _ w111 ⟨rfl, hf112⟩
 refine ⟨_, rfl, ?_⟩
 have hp113 := hp103.step hf112
 refine oQ 3 {} [] [0, 2, 5, 6, 7, 8, 29, 30, 31] [.string s, pP g3, pP g15, .string ((wordsB s).headD ByteArray.empty), .slice (some ⟨g72, 0, none⟩) 4 4, .string ((((((wordsB s).headD ByteArray.empty) ++ ((⟨#[32]⟩ : ByteArray) ++ (itoaT v34))) ++ ((⟨#[32]⟩ : ByteArray) ++ (itoaT v45))) ++ ((⟨#[32]⟩ : ByteArray) ++ (itoaT v56))) ++ ((⟨#[32]⟩ : ByteArray) ++ (itoaT v67))), .slice (some ⟨g72, 0, none⟩) 4 4, iI 4, iI 3] (.cons (show (⟨#[32]⟩ : ByteArray).size + (itoaT v67).size ≤ 9223372036854775807 from by first | omega | (simp only [ByteArray.size_append, sz32]; omega)) (.cons (show (((((wordsB s).headD ByteArray.empty) ++ ((⟨#[32]⟩ : ByteArray) ++ (itoaT v34))) ++ ((⟨#[32]⟩ : ByteArray) ++ (itoaT v45))) ++ ((⟨#[32]⟩ : ByteArray) ++ (itoaT v56))).size + ((⟨#[32]⟩ : ByteArray) ++ (itoaT v67)).size ≤ 9223372036854775807 from by first | omega | (simp only [ByteArray.size_append, sz32]; omega)) .nil)) fun b114 => ?_
 refine OPS.nil (blk_n (thn_n (wQ {} [] [0, 2, 5, 6, 7, 8, 29, 30, 31] [.string s, pP g3, pP g15, .string ((wordsB s).headD ByteArray.empty), .slice (some ⟨g72, 0, none⟩) 4 4, .string ((((((wordsB s).headD ByteArray.empty) ++ ((⟨#[32]⟩ : ByteArray) ++ (itoaT v34))) ++ ((⟨#[32]⟩ : ByteArray) ++ (itoaT v45))) ++ ((⟨#[32]⟩ : ByteArray) ++ (itoaT v56))) ++ ((⟨#[32]⟩ : ByteArray) ++ (itoaT v67))), .slice (some ⟨g72, 0, none⟩) 4 4, iI 4, iI 4] (.cons (show Rng .i64 (4) from Rng.i64 (by first | omega | (simp only [ByteArray.size_append, sz32]; omega))) .nil) fun b115 => ?_)))
 refine thn_n ?_
 refine RND.step ?_
 refine WP.seq (wP [0, 2, 5, 6, 7, 8, 29, 30, 31, 32] [.string s, pP g3, pP g15, .string ((wordsB s).headD ByteArray.empty), .slice (some ⟨g72, 0, none⟩) 4 4, .string ((((((wordsB s).headD ByteArray.empty) ++ ((⟨#[32]⟩ : ByteArray) ++ (itoaT v34))) ++ ((⟨#[32]⟩ : ByteArray) ++ (itoaT v45))) ++ ((⟨#[32]⟩ : ByteArray) ++ (itoaT v56))) ++ ((⟨#[32]⟩ : ByteArray) ++ (itoaT v67))), .slice (some ⟨g72, 0, none⟩) 4 4, iI 4, iI 4, bF] fun b116 => ?_)
 refine thn_n (WP.seq (WP.condF rfl (WP.exit (thn_x (thn_x (blk_hit (thn_n (WP.seq ?_))))))))
 refine WP.cut (fun e136 w137 => ∃ (x134 : Bool), (True) ∧ Bp x134 (((bd68_ = true)) ∨ ((¬ (bd68_ = true)) ∧ (0 < ((h66.n : Nat) : Int))) ∨ ((¬ (bd68_ = true)) ∧ (¬ (0 < ((h66.n : Nat) : Int))) ∧ (¬ (((wordsB s).headD ByteArray.empty) = ⟨#[99, 111, 110, 102, 105, 103]⟩))) ∨ ((¬ (bd68_ = true)) ∧ (¬ (0 < ((h66.n : Nat) : Int))) ∧ (((wordsB s).headD ByteArray.empty) = ⟨#[99, 111, 110, 102, 105, 103]⟩) ∧ (¬ (((((((wordsB s).headD ByteArray.empty) ++ ((⟨#[32]⟩ : ByteArray) ++ (itoaT v34))) ++ ((⟨#[32]⟩ : ByteArray) ++ (itoaT v45))) ++ ((⟨#[32]⟩ : ByteArray) ++ (itoaT v56))) ++ ((⟨#[32]⟩ : ByteArray) ++ (itoaT v67))) = s)))) ∧ List.map e136 [2, 7, 61] = [pP g3, .slice (some ⟨g72, 0, none⟩) 4 4, .bool x134] ∧ Hp w Non [Res.row g72 [iI v34, iI v45, iI v56, iI v67] 3, Res.row g15 [.slice h66.a h66.n h66.c, .bool bd68_] 75, Res.lst g10 h66 ((((((wordsB s).tail).tail).tail).tail).tail), Res.row g3 [iI 0, iI 0, iI 0] 43] w137) ?_ ?_
 ·refine wR (oQ 5 {} [.bool bd68_] [0, 2, 5, 6, 7, 8, 45] (qi0 s g3 g15 g72 v34 v45 v56 v67 bd68_) (.cons (l1 4 1 (.bool bd68_) hp113.get1) .nil) fun b118 => ?_)
  by_cases h119 : bd68_ = true
  ·refine oP 0 [0, 2, 5, 6, 7, 8, 45] (qi0 s g3 g15 g72 v34 v45 v56 v67 bd68_) fun b120 => ?_
   refine OPS.re [.string s, pP g3, pP g15, .string ((wordsB s).headD ByteArray.empty), .slice (some ⟨g72, 0, none⟩) 4 4, .string ((((((wordsB s).headD ByteArray.empty) ++ ((⟨#[32]⟩ : ByteArray) ++ (itoaT v34))) ++ ((⟨#[32]⟩ : ByteArray) ++ (itoaT v45))) ++ ((⟨#[32]⟩ : ByteArray) ++ (itoaT v56))) ++ ((⟨#[32]⟩ : ByteArray) ++ (itoaT v67))), bT] (by rw [show bd68_ = true from Bp.var.tt h119]) ?_
   refine oQ 16 { wraps := [52, 56, 61] } [] [2, 7, 61] (qi1 g3 g72) .nil fun b121 => ?_
   refine OPS.nil (thn_n ?_)
   exact ⟨true, trivial, Bp.of Bp.t (by first | (simp [h119]; done) | grind | (simp_all; done)), by kernel_rfl, hp113⟩
  ·refine oP 0 [0, 2, 5, 6, 7, 8, 45] (qi0 s g3 g15 g72 v34 v45 v56 v67 bd68_) fun b122 => ?_
   refine OPS.re [.string s, pP g3, pP g15, .string ((wordsB s).headD ByteArray.empty), .slice (some ⟨g72, 0, none⟩) 4 4, .string ((((((wordsB s).headD ByteArray.empty) ++ ((⟨#[32]⟩ : ByteArray) ++ (itoaT v34))) ++ ((⟨#[32]⟩ : ByteArray) ++ (itoaT v45))) ++ ((⟨#[32]⟩ : ByteArray) ++ (itoaT v56))) ++ ((⟨#[32]⟩ : ByteArray) ++ (itoaT v67))), bF] (by rw [show bd68_ = false from Bp.var.ff h119]) ?_
   refine oQ 8 { wraps := [52] } [.slice h66.a h66.n h66.c] [0, 2, 6, 7, 8, 53] [.string s, pP g3, .string ((wordsB s).headD ByteArray.empty), .slice (some ⟨g72, 0, none⟩) 4 4, .string ((((((wordsB s).headD ByteArray.empty) ++ ((⟨#[32]⟩ : ByteArray) ++ (itoaT v34))) ++ ((⟨#[32]⟩ : ByteArray) ++ (itoaT v45))) ++ ((⟨#[32]⟩ : ByteArray) ++ (itoaT v56))) ++ ((⟨#[32]⟩ : ByteArray) ++ (itoaT v67))), .bool (decide (0 < ((h66.n : Nat) : Int)))] (.cons (l1 36 0 (.slice h66.a h66.n h66.c) hp113.get1) .nil) fun b123 => ?_
   by_cases h124 : 0 < ((h66.n : Nat) : Int)
   ·refine oP 0 [0, 2, 6, 7, 8, 53] [.string s, pP g3, .string ((wordsB s).headD ByteArray.empty), .slice (some ⟨g72, 0, none⟩) 4 4, .string ((((((wordsB s).headD ByteArray.empty) ++ ((⟨#[32]⟩ : ByteArray) ++ (itoaT v34))) ++ ((⟨#[32]⟩ : ByteArray) ++ (itoaT v45))) ++ ((⟨#[32]⟩ : ByteArray) ++ (itoaT v56))) ++ ((⟨#[32]⟩ : ByteArray) ++ (itoaT v67))), .bool (decide (0 < ((h66.n : Nat) : Int)))] fun b125 => ?_
    refine OPS.re [.string s, pP g3, .string ((wordsB s).headD ByteArray.empty), .slice (some ⟨g72, 0, none⟩) 4 4, .string ((((((wordsB s).headD ByteArray.empty) ++ ((⟨#[32]⟩ : ByteArray) ++ (itoaT v34))) ++ ((⟨#[32]⟩ : ByteArray) ++ (itoaT v45))) ++ ((⟨#[32]⟩ : ByteArray) ++ (itoaT v56))) ++ ((⟨#[32]⟩ : ByteArray) ++ (itoaT v67))), bT] (by rw [show (decide (0 < ((h66.n : Nat) : Int))) = true from Bp.dec.tt h124]) ?_
    refine oQ 8 { wraps := [56, 61] } [] [2, 7, 61] (qi1 g3 g72) .nil fun b126 => ?_
    refine OPS.nil (thn_n ?_)
    exact ⟨true, trivial, Bp.of Bp.t (by first | (simp [h119, h124]; done) | grind | (simp_all; done)), by kernel_rfl, hp113⟩
   ·refine oP 0 [0, 2, 6, 7, 8, 53] [.string s, pP g3, .string ((wordsB s).headD ByteArray.empty), .slice (some ⟨g72, 0, none⟩) 4 4, .string ((((((wordsB s).headD ByteArray.empty) ++ ((⟨#[32]⟩ : ByteArray) ++ (itoaT v34))) ++ ((⟨#[32]⟩ : ByteArray) ++ (itoaT v45))) ++ ((⟨#[32]⟩ : ByteArray) ++ (itoaT v56))) ++ ((⟨#[32]⟩ : ByteArray) ++ (itoaT v67))), .bool (decide (0 < ((h66.n : Nat) : Int)))] fun b127 => ?_
    refine OPS.re [.string s, pP g3, .string ((wordsB s).headD ByteArray.empty), .slice (some ⟨g72, 0, none⟩) 4 4, .string ((((((wordsB s).headD ByteArray.empty) ++ ((⟨#[32]⟩ : ByteArray) ++ (itoaT v34))) ++ ((⟨#[32]⟩ : ByteArray) ++ (itoaT v45))) ++ ((⟨#[32]⟩ : ByteArray) ++ (itoaT v56))) ++ ((⟨#[32]⟩ : ByteArray) ++ (itoaT v67))), bF] (by rw [show (decide (0 < ((h66.n : Nat) : Int))) = false from Bp.dec.ff h124]) ?_
    refine oQ 4 { wraps := [56] } [] [0, 2, 7, 8, 57] [.string s, pP g3, .slice (some ⟨g72, 0, none⟩) 4 4, .string ((((((wordsB s).headD ByteArray.empty) ++ ((⟨#[32]⟩ : ByteArray) ++ (itoaT v34))) ++ ((⟨#[32]⟩ : ByteArray) ++ (itoaT v45))) ++ ((⟨#[32]⟩ : ByteArray) ++ (itoaT v56))) ++ ((⟨#[32]⟩ : ByteArray) ++ (itoaT v67))), .bool (decide (¬ (((wordsB s).headD ByteArray.empty) = ⟨#[99, 111, 110, 102, 105, 103]⟩)))] .nil fun b128 => ?_
    by_cases h129 : ((wordsB s).headD ByteArray.empty) = ⟨#[99, 111, 110, 102, 105, 103]⟩
    ·refine oP 0 [0, 2, 7, 8, 57] [.string s, pP g3, .slice (some ⟨g72, 0, none⟩) 4 4, .string ((((((wordsB s).headD ByteArray.empty) ++ ((⟨#[32]⟩ : ByteArray) ++ (itoaT v34))) ++ ((⟨#[32]⟩ : ByteArray) ++ (itoaT v45))) ++ ((⟨#[32]⟩ : ByteArray) ++ (itoaT v56))) ++ ((⟨#[32]⟩ : ByteArray) ++ (itoaT v67))), .bool (decide (¬ (((wordsB s).headD ByteArray.empty) = ⟨#[99, 111, 110, 102, 105, 103]⟩)))] fun b132 => ?_
     refine OPS.re [.string s, pP g3, .slice (some ⟨g72, 0, none⟩) 4 4, .string ((((((wordsB s).headD ByteArray.empty) ++ ((⟨#[32]⟩ : ByteArray) ++ (itoaT v34))) ++ ((⟨#[32]⟩ : ByteArray) ++ (itoaT v45))) ++ ((⟨#[32]⟩ : ByteArray) ++ (itoaT v56))) ++ ((⟨#[32]⟩ : ByteArray) ++ (itoaT v67))), bF] (by rw [show (decide (¬ (((wordsB s).headD ByteArray.empty) = ⟨#[99, 111, 110, 102, 105, 103]⟩))) = false from Bp.dec.ff (fun k => k h129)]) ?_
     refine oQ 4 { wraps := [61] } [] [2, 7, 61] [pP g3, .slice (some ⟨g72, 0, none⟩) 4 4, .bool (decide (¬ (((((((wordsB s).headD ByteArray.empty) ++ ((⟨#[32]⟩ : ByteArray) ++ (itoaT v34))) ++ ((⟨#[32]⟩ : ByteArray) ++ (itoaT v45))) ++ ((⟨#[32]⟩ : ByteArray) ++ (itoaT v56))) ++ ((⟨#[32]⟩ : ByteArray) ++ (itoaT v67))) = s)))] .nil fun b133 => ?_
     refine OPS.nil (thn_n ?_)
     exact ⟨decide (¬ (((((((wordsB s).headD ByteArray.empty) ++ ((⟨#[32]⟩ : ByteArray) ++ (itoaT v34))) ++ ((⟨#[32]⟩ : ByteArray) ++ (itoaT v45))) ++ ((⟨#[32]⟩ : ByteArray) ++ (itoaT v56))) ++ ((⟨#[32]⟩ : ByteArray) ++ (itoaT v67))) = s)), trivial, Bp.of Bp.dec (by first | (simp [h119, h124, h129]; done) | grind | (simp_all; done)), by kernel_rfl, hp113⟩
    ·refine oP 0 [0, 2, 7, 8, 57] [.string s, pP g3, .slice (some ⟨g72, 0, none⟩) 4 4, .string ((((((wordsB s).headD ByteArray.empty) ++ ((⟨#[32]⟩ : ByteArray) ++ (itoaT v34))) ++ ((⟨#[32]⟩ : ByteArray) ++ (itoaT v45))) ++ ((⟨#[32]⟩ : ByteArray) ++ (itoaT v56))) ++ ((⟨#[32]⟩ : ByteArray) ++ (itoaT v67))), .bool (decide (¬ (((wordsB s).headD ByteArray.empty) = ⟨#[99, 111, 110, 102, 105, 103]⟩)))] fun b130 => ?_
     refine OPS.re [.string s, pP g3, .slice (some ⟨g72, 0, none⟩) 4 4, .string ((((((wordsB s).headD ByteArray.empty) ++ ((⟨#[32]⟩ : ByteArray) ++ (itoaT v34))) ++ ((⟨#[32]⟩ : ByteArray) ++ (itoaT v45))) ++ ((⟨#[32]⟩ : ByteArray) ++ (itoaT v56))) ++ ((⟨#[32]⟩ : ByteArray) ++ (itoaT v67))), bT] (by rw [show (decide (¬ (((wordsB s).headD ByteArray.empty) = ⟨#[99, 111, 110, 102, 105, 103]⟩))) = true from Bp.dec.tt h129]) ?_
     refine oQ 4 { wraps := [61] } [] [2, 7, 61] (qi1 g3 g72) .nil fun b131 => ?_
     refine OPS.nil (thn_n ?_)
     exact ⟨true, trivial, Bp.of Bp.t (by first | (simp [h119, h124, h129]; done) | grind | (simp_all; done)), by kernel_rfl, hp113⟩
 rintro e136 w137 ⟨x134, hd139, hb135, hE140, hp138⟩
 obtain ⟨b141, rfl⟩ := toMk hE140
 clear hE140
 clear hd139
 refine WP.test (p := ((bd68_ = true)) ∨ ((¬ (bd68_ = true)) ∧ (0 < ((h66.n : Nat) : Int))) ∨ ((¬ (bd68_ = true)) ∧ (¬ (0 < ((h66.n : Nat) : Int))) ∧ (¬ (((wordsB s).headD ByteArray.empty) = ⟨#[99, 111, 110, 102, 105, 103]⟩))) ∨ ((¬ (bd68_ = true)) ∧ (¬ (0 < ((h66.n : Nat) : Int))) ∧ (((wordsB s).headD ByteArray.empty) = ⟨#[99, 111, 110, 102, 105, 103]⟩) ∧ (¬ (((((((wordsB s).headD ByteArray.empty) ++ ((⟨#[32]⟩ : ByteArray) ++ (itoaT v34))) ++ ((⟨#[32]⟩ : ByteArray) ++ (itoaT v45))) ++ ((⟨#[32]⟩ : ByteArray) ++ (itoaT v56))) ++ ((⟨#[32]⟩ : ByteArray) ++ (itoaT v67))) = s)))) rfl hb135 (fun h142 => ?_) (fun h142 => ?_)
 ·refine WP.seq (wR (oP 1 [2, 62] [pP g3, qi2] fun b143 => ?_))
  refine OPS.cons (opStep.store3 hp138 rfl [iI 0, iI 0, iI 0] [iI 0, iI 0, iI 0] (by kernel_rfl) (fun w144 hp145 => ?_))
  refine oP 2 [2, 3, 4] [pP g3, iI 0, iI 82] fun b146 => ?_
  refine OPS.nil (thn_n (WP.ret (thn_r ?_)))
  refine bodyQ.of _ rfl [qi2, iI 0, iI 82] ⟨⟨_, rfl, (lN 43 0 [iI 0, iI 0, iI 0] hp145.get3)⟩, rfl, rfl, trivial⟩ ?_
  have hlt := (lst_len hp145.get2).1
  exact ⟨⟨0, 0, 0⟩, 0, 82, rfl, .inl ⟨conf_no (s := s) rfl hn36 hn47 hn58 hn69 (by rintro ⟨q1, q2, q3, q4⟩; rcases h142 with h | ⟨_, h⟩ | ⟨_, _, h⟩ | ⟨_, _, _, h⟩; exact absurd (q1.symm.trans h) (by decide); exact q2 (by omega); exact h q3; exact h q4), rfl, rfl, rfl⟩, hp145.fr⟩
 ·refine WP.skip (thn_n (WP.seq ?_))
  have hp147 := hp138.drew
  refine WP.held (fun w148 => Ld Tryd.prog w148 3 ⟨g72, 0, none⟩ (iI v34) ∧ Ld Tryd.prog w148 3 ⟨g72, 1, none⟩ (iI v45) ∧ Ld Tryd.prog w148 3 ⟨g72, 2, none⟩ (iI v56) ∧ True) [11] [(0, true), (1, true), (2, true), (3, true), (4, true), (5, true), (6, true), (7, true), (8, true), (9, true), (10, false), (11, false)] (np_thn np_body) (by kernel_rfl) ?_
  refine hQ 10 {} (qi3 v34 v45 v56) [2, 7, 72] [pP g3, .slice (some ⟨g72, 0, none⟩) 4 4, (qi4 v34 v45 v56)] ⟨(l1 3 0 (iI v34) hp147.get0), (l1 3 1 (iI v45) hp147.get0), (l1 3 2 (iI v56) hp147.get0), trivial⟩ (fun w149 hS150 => (.cons (show InB (0) (4) from ⟨by omega, by omega⟩) (.cons (show (some (⟨g72, 0, none⟩ : Addr)).isSome = true from rfl) (.cons (hS150.1) (.cons (show InB (1) (4) from ⟨by omega, by omega⟩) (.cons (show (some (⟨g72, 0, none⟩ : Addr)).isSome = true from rfl) (.cons (hS150.2.1) (.cons (show InB (2) (4) from ⟨by omega, by omega⟩) (.cons (show (some (⟨g72, 0, none⟩ : Addr)).isSome = true from rfl) (.cons (hS150.2.2.1) .nil)))))))))) fun b151 => ?_
  refine HOPS.eff _ rfl (opStep.alloc hp147 [iI 0, iI 0, iI 0] (by kernel_rfl) (fun g154 w152 hp153 => ?_))
  refine ⟨.inr ⟨(l1 3 0 (iI v34) hp153.get1), (l1 3 1 (iI v45) hp153.get1), (l1 3 2 (iI v56) hp153.get1), trivial⟩, ?_⟩
  refine HOPS.eff _ rfl (opStep.store0 hp153 rfl (qi3 v34 v45 v56) (qi3 v34 v45 v56) (by kernel_rfl) (fun w155 hp156 => ?_))
  refine ⟨.inl rfl, ?_⟩
  refine HOPS.nil (thn_n (WP.seq (WP.seq (wR (oQ 1 {} [(qi4 v34 v45 v56)] [2, 7, 11, 73] [pP g3, .slice (some ⟨g72, 0, none⟩) 4 4, pP g154, (qi4 v34 v45 v56)] (.cons (lN 43 0 (qi3 v34 v45 v56) hp156.get0) .nil) fun b157 => ?_)))))
  refine OPS.cons (opStep.call (some 74) [(qi4 v34 v45 v56)] (by kernel_rfl) (q_Check (⟨v34, v45, v56⟩ : GConfig) _) ?_)
  rintro _ w160 ⟨rfl, hf161⟩
  refine ⟨_, rfl, ?_⟩
  have hp162 := hp156.step hf161
  refine oP 1 [2, 7, 11, 12] [pP g3, .slice (some ⟨g72, 0, none⟩) 4 4, pP g154, iI (qChk (⟨v34, v45, v56⟩ : GConfig))] fun b163 => ?_
  refine OPS.nil (thn_n (WP.seq (wP [2, 7, 11, 12, 76] [pP g3, .slice (some ⟨g72, 0, none⟩) 4 4, pP g154, iI (qChk (⟨v34, v45, v56⟩ : GConfig)), .bool (decide (¬ ((qChk (⟨v34, v45, v56⟩ : GConfig)) = 0)))] fun b164 => ?_)))
  refine thn_n ?_
  refine WP.test (p := ¬ ((qChk (⟨v34, v45, v56⟩ : GConfig)) = 0)) rfl Bp.dec (fun h165 => ?_) (fun h165 => ?_)
  ·refine WP.seq (wR (oP 2 [2, 77, 78] [pP g3, qi2, iI (qChk (⟨v34, v45, v56⟩ : GConfig))] fun b166 => ?_))
   refine OPS.cons (opStep.store4 hp162 rfl [iI 0, iI 0, iI 0] [iI 0, iI 0, iI 0] (by kernel_rfl) (fun w167 hp168 => ?_))
   refine oP 2 [2, 3, 4] [pP g3, iI 0, iI (qChk (⟨v34, v45, v56⟩ : GConfig))] fun b169 => ?_
   refine OPS.nil (thn_n (WP.ret (thn_r ?_)))
   refine bodyQ.of _ rfl [qi2, iI 0, iI (qChk (⟨v34, v45, v56⟩ : GConfig))] ⟨⟨_, rfl, (lN 43 0 [iI 0, iI 0, iI 0] hp168.get4)⟩, rfl, rfl, trivial⟩ ?_
   have hk1 : ((wordsB s).headD ByteArray.empty) = (⟨#[99, 111, 110, 102, 105, 103]⟩ : ByteArray) := by apply Classical.byContradiction; intro q; apply h142; by_cases q1 : bd68_ = true; exact .inl q1; by_cases q2 : 0 < ((h66.n : Nat) : Int); exact .inr (.inl ⟨q1, q2⟩); exact .inr (.inr (.inl ⟨q1, q2, q⟩))
   have hk2 := fun q => h142 (by by_cases q1 : bd68_ = true; exact .inl q1; by_cases q2 : 0 < ((h66.n : Nat) : Int); exact .inr (.inl ⟨q1, q2⟩); exact .inr (.inr (.inr ⟨q1, q2, hk1, q⟩)))
   have hcf := conf_yes hk1 (Classical.byContradiction hk2)
   have hno : ¬ okCfg ⟨v34, v45, v56⟩ := fun q => h165 (qChk_ok q)
   refine ⟨⟨0, 0, 0⟩, 0, 40, by simp only [pack]; rw [qChk_no hno]; rfl, .inr ⟨v34, v45, v56, v67, ⟨hn36a, hn36b⟩, ⟨hn47a, hn47b⟩, ⟨hn58a, hn58b⟩, ⟨hn69a, hn69b⟩, hcf, .inl ⟨hno, rfl, rfl, rfl⟩⟩, hp168.fr⟩
  ·replace h165 := Classical.not_not.1 h165
   refine WP.skip (thn_n (WP.seq ?_))
   refine WP.cut (fun e179 w180 => ∃ (x177 : Bool), (True) ∧ Bp x177 (((v67 < 0)) ∨ ((¬ (v67 < 0)) ∧ (255 < v67))) ∧ List.map e179 [2, 7, 11, 88] = [pP g3, .slice (some ⟨g72, 0, none⟩) 4 4, pP g154, .bool x177] ∧ Hp w Non [Res.row g154 (qi3 v34 v45 v56) 43, Res.row g72 [iI v34, iI v45, iI v56, iI v67] 3, Res.row g15 [.slice h66.a h66.n h66.c, .bool bd68_] 75, Res.lst g10 h66 ((((((wordsB s).tail).tail).tail).tail).tail), Res.row g3 [iI 0, iI 0, iI 0] 43] w180) ?_ ?_
   ·refine wR (oQ 5 {} [iI v67] [2, 7, 11, 83] [pP g3, .slice (some ⟨g72, 0, none⟩) 4 4, pP g154, .bool (decide (v67 < 0))] (.cons (show InB (3) (4) from ⟨by omega, by omega⟩) (.cons (show (some (⟨g72, 0, none⟩ : Addr)).isSome = true from rfl) (.cons (l1 3 3 (iI v67) hp162.get1) .nil))) fun b171 => ?_)
    by_cases h172 : v67 < 0
    ·refine oP 0 [2, 7, 11, 83] [pP g3, .slice (some ⟨g72, 0, none⟩) 4 4, pP g154, .bool (decide (v67 < 0))] fun b173 => ?_
     refine OPS.re [pP g3, .slice (some ⟨g72, 0, none⟩) 4 4, pP g154, bT] (by rw [show (decide (v67 < 0)) = true from Bp.dec.tt h172]) ?_
     refine oQ 5 { wraps := [88] } [] [2, 7, 11, 88] [pP g3, .slice (some ⟨g72, 0, none⟩) 4 4, pP g154, bT] .nil fun b174 => ?_
     refine OPS.nil (thn_n ?_)
     exact ⟨true, trivial, Bp.of Bp.t (by first | (simp [h172]; done) | grind | (simp_all; done)), by kernel_rfl, hp162⟩
    ·refine oP 0 [2, 7, 11, 83] [pP g3, .slice (some ⟨g72, 0, none⟩) 4 4, pP g154, .bool (decide (v67 < 0))] fun b175 => ?_
     refine OPS.re [pP g3, .slice (some ⟨g72, 0, none⟩) 4 4, pP g154, bF] (by rw [show (decide (v67 < 0)) = false from Bp.dec.ff h172]) ?_
     refine oQ 5 { wraps := [88] } [iI v67] [2, 7, 11, 88] [pP g3, .slice (some ⟨g72, 0, none⟩) 4 4, pP g154, .bool (decide (255 < v67))] (.cons (show InB (3) (4) from ⟨by omega, by omega⟩) (.cons (show (some (⟨g72, 0, none⟩ : Addr)).isSome = true from rfl) (.cons (l1 3 3 (iI v67) hp162.get1) .nil))) fun b176 => ?_
     refine OPS.nil (thn_n ?_)
     exact ⟨decide (255 < v67), trivial, Bp.of Bp.dec (by first | (simp [h172]; done) | grind | (simp_all; done)), by kernel_rfl, hp162⟩
   rintro e179 w180 ⟨x177, hd182, hb178, hE183, hp181⟩
   obtain ⟨b184, rfl⟩ := toMk hE183
   clear hE183
   clear hd182
   refine WP.test (p := ((v67 < 0)) ∨ ((¬ (v67 < 0)) ∧ (255 < v67))) rfl hb178 (fun h185 => ?_) (fun h185 => ?_)
   ·refine WP.seq (wR (oP 1 [2, 89] [pP g3, qi2] fun b186 => ?_))
    refine OPS.cons (opStep.store4 hp181 rfl [iI 0, iI 0, iI 0] [iI 0, iI 0, iI 0] (by kernel_rfl) (fun w187 hp188 => ?_))
    refine oP 2 [2, 3, 4] [pP g3, iI 0, iI 1] fun b189 => ?_
    refine OPS.nil (thn_n (WP.ret (thn_r ?_)))
    refine bodyQ.of _ rfl [qi2, iI 0, iI 1] ⟨⟨_, rfl, (lN 43 0 [iI 0, iI 0, iI 0] hp188.get4)⟩, rfl, rfl, trivial⟩ ?_
    have hk1 : ((wordsB s).headD ByteArray.empty) = (⟨#[99, 111, 110, 102, 105, 103]⟩ : ByteArray) := by apply Classical.byContradiction; intro q; apply h142; by_cases q1 : bd68_ = true; exact .inl q1; by_cases q2 : 0 < ((h66.n : Nat) : Int); exact .inr (.inl ⟨q1, q2⟩); exact .inr (.inr (.inl ⟨q1, q2, q⟩))
    have hk2 := fun q => h142 (by by_cases q1 : bd68_ = true; exact .inl q1; by_cases q2 : 0 < ((h66.n : Nat) : Int); exact .inr (.inl ⟨q1, q2⟩); exact .inr (.inr (.inr ⟨q1, q2, hk1, q⟩)))
    have hcf := conf_yes hk1 (Classical.byContradiction hk2)
    have hok : okCfg ⟨v34, v45, v56⟩ := Classical.byContradiction fun q => absurd ((qChk_no q).symm.trans h165) (by decide)
    exact ⟨⟨0, 0, 0⟩, 0, 1, rfl, .inr ⟨v34, v45, v56, v67, ⟨hn36a, hn36b⟩, ⟨hn47a, hn47b⟩, ⟨hn58a, hn58b⟩, ⟨hn69a, hn69b⟩, hcf, .inr (.inl ⟨hok, by omega, rfl, rfl, rfl⟩)⟩, hp188.fr⟩
   ·refine WP.skip (thn_n (WP.seq ?_))
    have hp190 := hp181.drew
    refine WP.held (fun w191 => Ld Tryd.prog w191 43 ⟨g154, 0, none⟩ ((qi4 v34 v45 v56)) ∧ Ld Tryd.prog w191 3 ⟨g72, 3, none⟩ (iI v67) ∧ True) [] [(0, true), (1, true), (2, true), (3, true), (4, false), (5, true), (6, true)] (np_thn np_body) (by kernel_rfl) ?_
    refine hQ 4 {} [(qi4 v34 v45 v56), iI v67] [2, 90, 93] [pP g3, (qi4 v34 v45 v56), iI v67] ⟨(lN 43 0 (qi3 v34 v45 v56) hp190.get0), (l1 3 3 (iI v67) hp190.get1), trivial⟩ (fun w192 hS193 => (.cons (hS193.1) (.cons (show InB (3) (4) from ⟨by omega, by omega⟩) (.cons (show (some (⟨g72, 0, none⟩ : Addr)).isSome = true from rfl) (.cons (hS193.2.1) .nil))))) fun b194 => ?_
    refine HOPS.eff _ rfl (opStep.store4 hp190 rfl (qi3 v34 v45 v56) (qi3 v34 v45 v56) (by kernel_rfl) (fun w195 hp196 => ?_))
    refine ⟨.inr ⟨(lN 43 0 (qi3 v34 v45 v56) hp196.get0), (l1 3 3 (iI v67) hp196.get1), trivial⟩, ?_⟩
    refine hP 2 [2, 3, 4] [pP g3, iI v67, iI 0] ⟨(lN 43 0 (qi3 v34 v45 v56) hp196.get0), (l1 3 3 (iI v67) hp196.get1), trivial⟩ fun b199 => ?_
    refine HOPS.nil (thn_n (WP.ret ?_))
    refine bodyQ.of _ rfl [(qi4 v34 v45 v56), iI v67, iI 0] ⟨⟨_, rfl, (lN 43 0 (qi3 v34 v45 v56) hp196.get4)⟩, rfl, rfl, trivial⟩ ?_
    have hk1 : ((wordsB s).headD ByteArray.empty) = (⟨#[99, 111, 110, 102, 105, 103]⟩ : ByteArray) := by apply Classical.byContradiction; intro q; apply h142; by_cases q1 : bd68_ = true; exact .inl q1; by_cases q2 : 0 < ((h66.n : Nat) : Int); exact .inr (.inl ⟨q1, q2⟩); exact .inr (.inr (.inl ⟨q1, q2, q⟩))
    have hk2 := fun q => h142 (by by_cases q1 : bd68_ = true; exact .inl q1; by_cases q2 : 0 < ((h66.n : Nat) : Int); exact .inr (.inl ⟨q1, q2⟩); exact .inr (.inr (.inr ⟨q1, q2, hk1, q⟩)))
    have hcf := conf_yes hk1 (Classical.byContradiction hk2)
    have hok : okCfg ⟨v34, v45, v56⟩ := Classical.byContradiction fun q => absurd ((qChk_no q).symm.trans h165) (by decide)
    exact ⟨⟨v34, v45, v56⟩, v67, 0, rfl, .inr ⟨v34, v45, v56, v67, ⟨hn36a, hn36b⟩, ⟨hn47a, hn47b⟩, ⟨hn58a, hn58b⟩, ⟨hn69a, hn69b⟩, hcf, .inr (.inr ⟨hok, by omega, by omega, rfl, rfl, rfl⟩)⟩, hp196.fr⟩

end Go.Proofs.YtbpedjefoajegaaDoor.K
namespace Go.Proofs.YtbpedjefoajegaaDoor.K
open Go Go.Proofs Go.RowKit
set_option linter.unusedVariables false
set_option linter.unusedSimpArgs false
set_option maxRecDepth 20000
set_option maxHeartbeats 4000000

theorem r9_Check (c : GConfig) (w : World) :
    Calls Tryd.prog 44 #[GConfig.val c] w (fun r_ w' => r_ = .returned (.int .i64 (qChk c)) ∧ Fram Non w w') := by
  refine calls_of Tryd.func44 rfl 28 rfl (by simp) ?_
  have hp0 := Hp.init w
  have he0 : List.map (env0 [GConfig.val c]) [0] = [GConfig.val c] := by kernel_rfl
  obtain ⟨b0, he0⟩ := toMk he0
  rw [he0]
  clear he0
  refine WP.seq ?_
  refine WP.region _ rfl (by kernel_rfl) ?_
  refine OPS.cons (opStep.box hp0 [.int .i64 c.N, .int .i64 c.K, .int .i64 c.Delta] (by kernel_rfl) (fun g3 w1 hp2 => ?_))
  refine OPS.batch 1 {} [] [1] [.pointer (some ⟨g3, 0, none⟩)] .nil (by kernel_rfl) (fun b4 => ?_)
  refine OPS.nil ?_
  refine thn_n ?_
  refine WP.seq ?_
  refine WP.cut (fun e29 w30 => ∃ (x27 : Bool), (True) ∧ Bp x27 (((c.K < 1)) ∨ ((¬ (c.K < 1)) ∧ (c.N < c.K)) ∨ ((¬ (c.K < 1)) ∧ (¬ (c.N < c.K)) ∧ (255 < c.N)) ∨ ((¬ (c.K < 1)) ∧ (¬ (c.N < c.K)) ∧ (¬ (255 < c.N)) ∧ (c.Delta < 0)) ∨ ((¬ (c.K < 1)) ∧ (¬ (c.N < c.K)) ∧ (¬ (255 < c.N)) ∧ (¬ (c.Delta < 0)) ∧ (4611686018427387903 < c.Delta))) ∧ List.map e29 [27] = [.bool x27] ∧ Hp w Non [Res.row g3 [.int .i64 c.N, .int .i64 c.K, .int .i64 c.Delta] 43] w30) ?_ ?_
  · refine WP.region _ rfl (by kernel_rfl) ?_
    refine OPS.batch 4 {} [.int .i64 c.K] [1, 6] [.pointer (some ⟨g3, 0, none⟩), .bool (decide (c.K < 1))] (.cons (Ld.row1 (P := Tryd.prog) (t := 3) (o := 1) (v := .int .i64 c.K) hp2.get0 (by kernel_rfl)) .nil) (by kernel_rfl) (fun b6 => ?_)
    by_cases h7 : c.K < 1
    · refine OPS.batch 0 {} [] [1, 6] [.pointer (some ⟨g3, 0, none⟩), .bool (decide (c.K < 1))] .nil (by kernel_rfl) (fun b8 => ?_)
      refine OPS.re [.pointer (some ⟨g3, 0, none⟩), .bool true] (by rw [show (decide (c.K < 1)) = true from Bp.dec.tt h7]) ?_
      refine OPS.batch 21 { wraps := [12, 17, 22, 27] } [] [27] [.bool true] .nil (by kernel_rfl) (fun b9 => ?_)
      refine OPS.nil ?_
      refine thn_n ?_
      exact ⟨true, trivial, Bp.of Bp.t (by first | (simp only [h7, iff_false, false_iff, iff_true, true_iff, Classical.not_not, and_true, true_and, and_false, false_and, or_true, true_or, or_false, false_or, not_true_eq_false, not_false_eq_true, and_self, or_self, iff_self]; done) | (simp [h7]; done) | grind | (simp_all; done)), by kernel_rfl, hp2⟩
    · refine OPS.batch 0 {} [] [1, 6] [.pointer (some ⟨g3, 0, none⟩), .bool (decide (c.K < 1))] .nil (by kernel_rfl) (fun b10 => ?_)
      refine OPS.re [.pointer (some ⟨g3, 0, none⟩), .bool false] (by rw [show (decide (c.K < 1)) = false from Bp.dec.ff h7]) ?_
      refine OPS.batch 7 { wraps := [12] } [.int .i64 c.K, .int .i64 c.N] [1, 13] [.pointer (some ⟨g3, 0, none⟩), .bool (decide (c.N < c.K))] (.cons (Ld.row1 (P := Tryd.prog) (t := 3) (o := 1) (v := .int .i64 c.K) hp2.get0 (by kernel_rfl)) (.cons (Ld.row1 (P := Tryd.prog) (t := 3) (o := 0) (v := .int .i64 c.N) hp2.get0 (by kernel_rfl)) .nil)) (by kernel_rfl) (fun b11 => ?_)
      by_cases h12 : c.N < c.K
      · refine OPS.batch 0 {} [] [1, 13] [.pointer (some ⟨g3, 0, none⟩), .bool (decide (c.N < c.K))] .nil (by kernel_rfl) (fun b13 => ?_)
        refine OPS.re [.pointer (some ⟨g3, 0, none⟩), .bool true] (by rw [show (decide (c.N < c.K)) = true from Bp.dec.tt h12]) ?_
        refine OPS.batch 14 { wraps := [17, 22, 27] } [] [27] [.bool true] .nil (by kernel_rfl) (fun b14 => ?_)
        refine OPS.nil ?_
        refine thn_n ?_
        exact ⟨true, trivial, Bp.of Bp.t (by first | (simp only [h7, h12, iff_false, false_iff, iff_true, true_iff, Classical.not_not, and_true, true_and, and_false, false_and, or_true, true_or, or_false, false_or, not_true_eq_false, not_false_eq_true, and_self, or_self, iff_self]; done) | (simp [h7, h12]; done) | grind | (simp_all; done)), by kernel_rfl, hp2⟩
      · refine OPS.batch 0 {} [] [1, 13] [.pointer (some ⟨g3, 0, none⟩), .bool (decide (c.N < c.K))] .nil (by kernel_rfl) (fun b15 => ?_)
        refine OPS.re [.pointer (some ⟨g3, 0, none⟩), .bool false] (by rw [show (decide (c.N < c.K)) = false from Bp.dec.ff h12]) ?_
        refine OPS.batch 5 { wraps := [17] } [.int .i64 c.N] [1, 18] [.pointer (some ⟨g3, 0, none⟩), .bool (decide (255 < c.N))] (.cons (Ld.row1 (P := Tryd.prog) (t := 3) (o := 0) (v := .int .i64 c.N) hp2.get0 (by kernel_rfl)) .nil) (by kernel_rfl) (fun b16 => ?_)
        by_cases h17 : 255 < c.N
        · refine OPS.batch 0 {} [] [1, 18] [.pointer (some ⟨g3, 0, none⟩), .bool (decide (255 < c.N))] .nil (by kernel_rfl) (fun b18 => ?_)
          refine OPS.re [.pointer (some ⟨g3, 0, none⟩), .bool true] (by rw [show (decide (255 < c.N)) = true from Bp.dec.tt h17]) ?_
          refine OPS.batch 9 { wraps := [22, 27] } [] [27] [.bool true] .nil (by kernel_rfl) (fun b19 => ?_)
          refine OPS.nil ?_
          refine thn_n ?_
          exact ⟨true, trivial, Bp.of Bp.t (by first | (simp only [h7, h12, h17, iff_false, false_iff, iff_true, true_iff, Classical.not_not, and_true, true_and, and_false, false_and, or_true, true_or, or_false, false_or, not_true_eq_false, not_false_eq_true, and_self, or_self, iff_self]; done) | (simp [h7, h12, h17]; done) | grind | (simp_all; done)), by kernel_rfl, hp2⟩
        · refine OPS.batch 0 {} [] [1, 18] [.pointer (some ⟨g3, 0, none⟩), .bool (decide (255 < c.N))] .nil (by kernel_rfl) (fun b20 => ?_)
          refine OPS.re [.pointer (some ⟨g3, 0, none⟩), .bool false] (by rw [show (decide (255 < c.N)) = false from Bp.dec.ff h17]) ?_
          refine OPS.batch 5 { wraps := [22] } [.int .i64 c.Delta] [1, 23] [.pointer (some ⟨g3, 0, none⟩), .bool (decide (c.Delta < 0))] (.cons (Ld.row1 (P := Tryd.prog) (t := 3) (o := 2) (v := .int .i64 c.Delta) hp2.get0 (by kernel_rfl)) .nil) (by kernel_rfl) (fun b21 => ?_)
          by_cases h22 : c.Delta < 0
          · refine OPS.batch 0 {} [] [1, 23] [.pointer (some ⟨g3, 0, none⟩), .bool (decide (c.Delta < 0))] .nil (by kernel_rfl) (fun b23 => ?_)
            refine OPS.re [.pointer (some ⟨g3, 0, none⟩), .bool true] (by rw [show (decide (c.Delta < 0)) = true from Bp.dec.tt h22]) ?_
            refine OPS.batch 4 { wraps := [27] } [] [27] [.bool true] .nil (by kernel_rfl) (fun b24 => ?_)
            refine OPS.nil ?_
            refine thn_n ?_
            exact ⟨true, trivial, Bp.of Bp.t (by first | (simp only [h7, h12, h17, h22, iff_false, false_iff, iff_true, true_iff, Classical.not_not, and_true, true_and, and_false, false_and, or_true, true_or, or_false, false_or, not_true_eq_false, not_false_eq_true, and_self, or_self, iff_self]; done) | (simp [h7, h12, h17, h22]; done) | grind | (simp_all; done)), by kernel_rfl, hp2⟩
          · refine OPS.batch 0 {} [] [1, 23] [.pointer (some ⟨g3, 0, none⟩), .bool (decide (c.Delta < 0))] .nil (by kernel_rfl) (fun b25 => ?_)
            refine OPS.re [.pointer (some ⟨g3, 0, none⟩), .bool false] (by rw [show (decide (c.Delta < 0)) = false from Bp.dec.ff h22]) ?_
            refine OPS.batch 4 { wraps := [27] } [.int .i64 c.Delta] [27] [.bool (decide (4611686018427387903 < c.Delta))] (.cons (Ld.row1 (P := Tryd.prog) (t := 3) (o := 2) (v := .int .i64 c.Delta) hp2.get0 (by kernel_rfl)) .nil) (by kernel_rfl) (fun b26 => ?_)
            refine OPS.nil ?_
            refine thn_n ?_
            exact ⟨decide (4611686018427387903 < c.Delta), trivial, Bp.of Bp.dec (by first | (simp only [h7, h12, h17, h22, iff_false, false_iff, iff_true, true_iff, Classical.not_not, and_true, true_and, and_false, false_and, or_true, true_or, or_false, false_or, not_true_eq_false, not_false_eq_true, and_self, or_self, iff_self]; done) | (simp [h7, h12, h17, h22]; done) | grind | (simp_all; done)), by kernel_rfl, hp2⟩
  rintro e29 w30 ⟨x27, hd32, hb28, hE33, hp31⟩
  obtain ⟨b34, rfl⟩ := toMk hE33
  clear hE33
  clear hd32
  refine WP.test (p := ((c.K < 1)) ∨ ((¬ (c.K < 1)) ∧ (c.N < c.K)) ∨ ((¬ (c.K < 1)) ∧ (¬ (c.N < c.K)) ∧ (255 < c.N)) ∨ ((¬ (c.K < 1)) ∧ (¬ (c.N < c.K)) ∧ (¬ (255 < c.N)) ∧ (c.Delta < 0)) ∨ ((¬ (c.K < 1)) ∧ (¬ (c.N < c.K)) ∧ (¬ (255 < c.N)) ∧ (¬ (c.Delta < 0)) ∧ (4611686018427387903 < c.Delta))) rfl hb28 (fun h35 => ?_) (fun h35 => ?_)
  · refine WP.seq ?_
    refine WP.pure {} [] [2] [.int .i64 40] .nil (by kernel_rfl) (fun b36 => ?_)
    refine thn_n ?_
    refine WP.ret ?_
    refine thn_r ?_
    refine bodyQ.of _ rfl [.int .i64 40] ⟨rfl, trivial⟩ ?_
    exact ⟨by simp only [pack, qChk]; rw [if_neg (by unfold okCfg; omega)], hp31.fr⟩
  · refine WP.skip ?_
    refine thn_n ?_
    refine WP.seq ?_
    refine WP.pure {} [] [2] [.int .i64 0] .nil (by kernel_rfl) (fun b37 => ?_)
    refine thn_n ?_
    refine WP.ret ?_
    refine bodyQ.of _ rfl [.int .i64 0] ⟨rfl, trivial⟩ ?_
    exact ⟨by simp only [pack, qChk]; rw [if_pos (by unfold okCfg; omega)], hp31.fr⟩

end Go.Proofs.YtbpedjefoajegaaDoor.K
namespace Go.Proofs.YtbpedjefoajegaaDoor.K
open Go Go.RowKit
set_option linter.unusedVariables false
set_option linter.unusedSimpArgs false
def partsL (d : UInt8) (cur : List UInt8) : List UInt8 → List (List UInt8)
  | [] => [cur]
  | c :: r => if c = d then cur :: partsL d [] r else partsL d (cur ++ [c]) r
def partsB (d : UInt8) (s : ByteArray) : List ByteArray := (partsL d [] s.data.toList).map fun l => ⟨l.toArray⟩
theorem parts_ne (d : UInt8) : ∀ (a cur : List UInt8), partsL d cur a ≠ []
  | [], _ => by simp [partsL]
  | c :: r, cur => by
    unfold partsL
    split
    · simp
    · exact parts_ne d r _
theorem parts_run (d : UInt8) : ∀ (a cur r : List UInt8), (∀ c ∈ a, c ≠ d) → partsL d cur (a ++ r) = partsL d (cur ++ a) r
  | [], cur, r, _ => by simp
  | c :: a, cur, r, h => by
    rw [List.cons_append, partsL, if_neg (h c (by simp)), parts_run d a _ r fun x hx => h x (by simp [hx])]
    simp
/-- The lines are the parts, but for an empty last one. -/
theorem lines_parts : ∀ (a cur : List UInt8), linesL cur a = if (partsL 10 cur a).getLast (parts_ne 10 a cur) = [] then (partsL 10 cur a).dropLast else partsL 10 cur a
  | [], cur => by simp [linesL, partsL]
  | c :: r, cur => by
    by_cases h : c = 10
    · have ih := lines_parts r []
      simp only [linesL, partsL, if_pos h]
      rw [List.getLast_cons (parts_ne 10 r []), ih, List.dropLast_cons_of_ne_nil (parts_ne 10 r [])]
      split <;> rfl
    · have ih := lines_parts r (cur ++ [c])
      simp only [linesL, partsL, if_neg h]
      exact ih
/-- What is cut so far. -/
def PtI (d : UInt8) (s : ByteArray) (xs : List ByteArray) (a p : Nat) : Prop := a ≤ p ∧ p ≤ s.size ∧ partsL d [] s.data.toList = xs.map (·.data.toList) ++ partsL d ((s.data.toList.drop a).take (p - a)) (s.data.toList.drop p)
theorem PtI.start (d : UInt8) (s : ByteArray) : PtI d s [] 0 0 := ⟨Nat.le_refl _, Nat.zero_le _, by simp⟩
theorem pt_byte {d : UInt8} {s : ByteArray} {xs : List ByteArray} {a p : Nat} (h : PtI d s xs a p) (hp : p < s.size) : (byteAt s ((p : Nat) : Int) = (d.toNat : Int) → PtI d s (xs ++ [s.extract a p]) (p + 1) (p + 1)) ∧ (¬ byteAt s ((p : Nat) : Int) = (d.toNat : Int) → PtI d s xs a (p + 1)) := by
  have hq : p < s.data.toList.length := by rw [← size_list]; exact hp
  have e : s.data.toList.drop p = s.data.toList[p] :: s.data.toList.drop (p + 1) := List.drop_eq_getElem_cons hq
  have hb := byte_get hq
  obtain ⟨h1, h2, h3⟩ := h
  constructor
  · intro hc
    have he : s.data.toList[p] = d := UInt8.toNat_inj.1 (by omega)
    refine ⟨Nat.le_refl _, by omega, ?_⟩
    rw [h3, e, he, partsL, if_pos rfl, List.map_append, List.map_cons, List.map_nil, List.append_assoc, cut_list, Nat.sub_self, List.take_zero]
    rfl
  · intro hc
    have he : ¬ s.data.toList[p] = d := fun q => hc (by rw [hb, q])
    refine ⟨by omega, by omega, ?_⟩
    rw [h3, e, partsL, if_neg he]
    congr 2
    rw [show p + 1 - a = (p - a) + 1 from by omega, List.take_succ_eq_append_getElem (by rw [List.length_drop]; omega), List.getElem_drop]
    congr 2
    congr 1; omega
theorem pt_end {d : UInt8} {s : ByteArray} {xs : List ByteArray} {a p : Nat} (h : PtI d s xs a p) (hp : ¬ p < s.size) : partsB d s = xs ++ [s.extract a s.size] := by
  obtain ⟨h1, h2, h3⟩ := h
  obtain rfl : p = s.size := by omega
  unfold partsB
  rw [h3, List.map_append]
  congr 1
  · rw [List.map_map]
    exact (List.map_congr_left fun x _ => mk_list x).trans (List.map_id _)
  · rw [show s.data.toList.drop s.size = [] from List.drop_of_length_le (by rw [← size_list]; omega)]
    unfold partsL
    rw [List.map_cons, List.map_nil]
    congr 1
    apply ba_ext
    rw [cut_list]
/-- The parts of words with blanks between them are the words. -/
theorem parts_join : ∀ (ws : List ByteArray), ws ≠ [] → (∀ x ∈ ws, noSp x) → partsB 32 (joinB ws) = ws
  | [], h, _ => absurd rfl h
  | [x], _, h => by
    have hx : ∀ c ∈ x.data.toList, c ≠ 32 := fun c hc e => h x (by simp) (e ▸ hc)
    rw [joinB_one]
    unfold partsB
    have := parts_run 32 x.data.toList [] [] hx
    rw [List.append_nil, List.nil_append] at this
    rw [this, partsL, List.map_cons, List.map_nil, mk_list]
  | x :: y :: r, _, h => by
    have ih := parts_join (y :: r) (by simp) fun z hz => h z (by simp [hz])
    have hx : ∀ c ∈ x.data.toList, c ≠ 32 := fun c hc e => h x (by simp) (e ▸ hc)
    rw [joinB_cons]
    unfold partsB at *
    rw [show (x ++ (spL ++ joinB (y :: r))).data.toList = x.data.toList ++ (32 :: (joinB (y :: r)).data.toList) from by simp [spL], parts_run 32 x.data.toList [] _ hx, partsL, if_pos rfl, List.map_cons, ih, List.nil_append, mk_list]
theorem parts_line {x : StepP} (h : 1 ≤ x.Kind ∧ x.Kind ≤ 16) : partsB 32 (lineS x) = wordsS x := parts_join _ (by unfold wordsS; simp) fun y hy => plain_nosp (wordsS_plain h y hy)
/-! ### numbers -/
def rawI (l : List UInt8) : Int := l.foldl (fun a c => a * 10 + ((c.toNat : Int) - 48)) 0
theorem raw_snoc (l : List UInt8) (c : UInt8) : rawI (l ++ [c]) = rawI l * 10 + ((c.toNat : Int) - 48) := by unfold rawI; rw [List.foldl_append]; rfl
theorem raw_dec (m : Nat) : rawI (Lib.decDigits m) = m := by
  induction m using Nat.strongRecOn with
  | _ m ih =>
    by_cases h : m < 10
    · rw [Lib.decDigits, dif_pos h]
      show (0 : Int) * 10 + (((UInt8.ofNat (48 + m)).toNat : Int) - 48) = m
      rw [UInt8.toNat_ofNat', Nat.mod_eq_of_lt (by omega)]; omega
    · rw [Lib.decDigits, dif_neg h, raw_snoc, ih (m / 10) (by omega), UInt8.toNat_ofNat', Nat.mod_eq_of_lt (by omega)]; omega
def negB (w : ByteArray) : Bool := decide (w.data.toList.head? = some 45)
/-- The characters that count among the first j. -/
def preL (w : ByteArray) (j : Nat) : List UInt8 := (w.data.toList.take j).drop (if negB w then 1 else 0)
def numI (w : ByteArray) : Int := if negB w then IntKind.i64.wrap (-(IntKind.i64.wrap (rawI (w.data.toList.drop 1)))) else IntKind.i64.wrap (rawI w.data.toList)
theorem i64_wrap (x : Int) : IntKind.i64.wrap x = (x + 9223372036854775808) % 18446744073709551616 - 9223372036854775808 := by
  simp only [IntKind.wrap, IntKind.bits, IntKind.signed, Bool.true_and]
  split <;> simp_all <;> omega
theorem numI_in (w : ByteArray) : inI (numI w) := by
  unfold numI inI
  split <;> rw [i64_wrap] <;> omega
theorem num_back {n : Int} (h : inI n) : numI (itoaT n) = n := by
  obtain ⟨h0, h1⟩ := h
  unfold numI
  by_cases hn : n < 0
  · have e : (itoaT n).data.toList = 45 :: Lib.decDigits n.natAbs := by rw [itoaT_list]; unfold Lib.itoa; rw [if_pos hn]
    rw [if_pos (by unfold negB; rw [e]; rfl), e, List.drop_succ_cons, List.drop_zero, raw_dec, i64_wrap, i64_wrap]; omega
  · have e : (itoaT n).data.toList = Lib.decDigits n.toNat := by rw [itoaT_list]; unfold Lib.itoa; rw [if_neg hn]
    have hh : ¬ (negB (itoaT n)) = true := by
      unfold negB
      rw [e, decide_eq_true_eq]
      intro q
      have hm : (45 : UInt8) ∈ Lib.decDigits n.toNat := List.mem_of_mem_head? (by rw [q]; rfl)
      rw [Lib.decDigits_eq, List.mem_map] at hm
      obtain ⟨t, _, ht⟩ := hm
      unfold Lib.dg at ht
      have := congrArg UInt8.toNat ht
      rw [UInt8.toNat_ofNat', Nat.mod_eq_of_lt (by omega), show (45 : UInt8).toNat = 45 from rfl] at this
      omega
    rw [if_neg hh, e, raw_dec, i64_wrap]; omega
theorem neg_iff (w : ByteArray) : negB w = true ↔ 0 < w.size ∧ byteAt w 0 = 45 := by
  unfold negB byteAt
  rw [decide_eq_true_eq, size_list]
  cases h : w.data.toList with
  | nil => simp
  | cons c r =>
    simp only [List.head?_cons, List.length_cons, Option.some.injEq]
    constructor
    · rintro rfl; exact ⟨by omega, rfl⟩
    · rintro ⟨_, q⟩
      have q' : (c.toNat : Int) = 45 := q
      exact UInt8.toNat_inj.1 (by rw [show (45 : UInt8).toNat = 45 from rfl]; omega)
theorem num_step {w : ByteArray} {j : Nat} {v : Int} (h : v = IntKind.i64.wrap (rawI (preL w j))) (hj : j < w.size) (hc : ¬ (j = 0 ∧ byteAt w 0 = 45)) :
    IntKind.i64.wrap (IntKind.i64.wrap (IntKind.i64.wrap (v * 10) + byteAt w ((j : Nat) : Int)) - 48) = IntKind.i64.wrap (rawI (preL w (j + 1))) := by
  have hq : j < w.data.toList.length := by rw [← size_list]; exact hj
  have hb := byte_get hq
  have hp : preL w (j + 1) = preL w j ++ [w.data.toList[j]] := by
    unfold preL
    rw [List.take_succ_eq_append_getElem hq]
    by_cases hn : negB w = true
    · have hj0 : 1 ≤ j := by
        rcases Nat.eq_zero_or_pos j with q | q
        · exact absurd ⟨q, ((neg_iff w).1 hn).2⟩ hc
        · exact q
      rw [if_pos hn, List.drop_append_of_le_length (by rw [List.length_take]; omega)]
    · rw [if_neg hn, List.drop_zero, List.drop_zero]
  rw [hp, raw_snoc, h, hb]
  simp only [i64_wrap]
  omega
theorem num_zero {w : ByteArray} {j : Nat} (hj : j < w.size) (hc : j = 0 ∧ byteAt w 0 = 45) : (0 : Int) = IntKind.i64.wrap (rawI (preL w (j + 1))) := by
  have hn : negB w = true := (neg_iff w).2 ⟨by omega, hc.2⟩
  unfold preL
  rw [if_pos hn, List.drop_of_length_le (by rw [List.length_take]; omega), i64_wrap]
  rfl
theorem num_fin {w : ByteArray} {v : Int} (h : v = IntKind.i64.wrap (rawI (preL w w.size))) : (negB w = true → IntKind.i64.wrap (0 - v) = numI w) ∧ (¬ negB w = true → v = numI w) := by
  have e : w.data.toList.take w.size = w.data.toList := List.take_of_length_le (by rw [← size_list]; exact Nat.le_refl _)
  unfold preL at h
  rw [e] at h
  unfold numI
  constructor
  · intro hn
    rw [if_pos hn] at h ⊢
    rw [h, Int.zero_sub]
  · intro hn
    rw [if_neg hn] at h ⊢
    rw [h, List.drop_zero]
/-! ### bytes -/
def digI (c : Int) : Int := if 97 ≤ c then IntKind.u8.wrap (IntKind.u8.wrap (c - 97) + 10) else IntKind.u8.wrap (c - 48)
theorem dig_all : ∀ b : Nat, b < 256 → IntKind.u8.wrap (IntKind.u8.wrap (digI ((hexD (b / 16)).toNat : Int) * 16) + digI ((hexD (b % 16)).toNat : Int)) = (b : Int) := by decide +kernel
theorem hex_byte {w t : ByteArray} {j : Nat} (e : w = ⟨(hexL t.data.toList).toArray⟩) (h : 2 * j + 1 < w.size) :
    ∃ hj : j < t.data.toList.length, IntKind.u8.wrap (IntKind.u8.wrap (digI (byteAt w ((2 * j : Nat) : Int)) * 16) + digI (byteAt w (((2 * j : Nat) : Int) + 1))) = (t.data.toList[j].toNat : Int) := by
  have hl : w.data.toList = hexL t.data.toList := by rw [e]
  have hs : w.size = 2 * t.data.toList.length := by rw [size_list, hl, hexL_len]
  have hj : j < t.data.toList.length := by omega
  refine ⟨hj, ?_⟩
  have h2 := hex_at t.data.toList j hj
  have b1 : byteAt w ((2 * j : Nat) : Int) = ((hexD (t.data.toList[j].toNat / 16)).toNat : Int) := by
    unfold byteAt
    rw [hl, show ((2 * j : Nat) : Int).toNat = 2 * j from by omega, h2.1]; rfl
  have b2 : byteAt w (((2 * j : Nat) : Int) + 1) = ((hexD (t.data.toList[j].toNat % 16)).toNat : Int) := by
    unfold byteAt
    rw [hl, show (((2 * j : Nat) : Int) + 1).toNat = 2 * j + 1 from by omega, h2.2]; rfl
  rw [b1, b2]
  exact dig_all _ t.data.toList[j].toNat_lt
def ByI (w : ByteArray) (xs : List Int) (j : Nat) : Prop := (∀ y ∈ xs, 0 ≤ y ∧ y ≤ 255) ∧ xs.length = j ∧ ∀ t : ByteArray, w = ⟨(hexL t.data.toList).toArray⟩ → (strOf xs).data.toList = t.data.toList.take j
theorem ByI.start (w : ByteArray) : ByI w [] 0 := ⟨fun y h => (by cases h), rfl, fun t _ => by rw [List.take_zero]; rfl⟩
theorem u8_wrap (x : Int) : 0 ≤ IntKind.u8.wrap x ∧ IntKind.u8.wrap x ≤ 255 := by
  simp only [IntKind.wrap, IntKind.bits, IntKind.signed, Bool.false_and, Bool.false_eq_true, if_false]; omega
theorem ByI.step {w : ByteArray} {xs : List Int} {j : Nat} (h : ByI w xs j) (hj : 2 * j + 1 < w.size) : ByI w (xs ++ [IntKind.u8.wrap (IntKind.u8.wrap (digI (byteAt w ((2 * j : Nat) : Int)) * 16) + digI (byteAt w (((2 * j : Nat) : Int) + 1)))]) (j + 1) := by
  obtain ⟨h1, h2, h3⟩ := h
  refine ⟨fun y hy => ?_, by rw [List.length_append, h2]; rfl, fun t e => ?_⟩
  · rcases List.mem_append.1 hy with q | q
    · exact h1 y q
    · rw [List.mem_singleton] at q; subst q; exact u8_wrap _
  · obtain ⟨hl, hv⟩ := hex_byte e hj
    rw [hv, strOf_app, h3 t e, List.take_succ_eq_append_getElem hl]
    congr 1
    show [UInt8.ofNat _] = _
    rw [u8_back]
theorem ByI.fin {w : ByteArray} {xs : List Int} {j : Nat} (h : ByI w xs j) (hj : ¬ 2 * j + 1 < w.size) (h2 : 2 * j ≤ w.size) : xs.length ≤ w.size ∧ (∀ y ∈ xs, 0 ≤ y ∧ y ≤ 255) ∧ ∀ t : ByteArray, w = hexT t → strOf xs = t := by
  refine ⟨by have := h.2.1; omega, h.1, fun t e => ?_⟩
  unfold hexT at e
  split at e
  · rename_i q
    have hw : w.size = 1 := by rw [e]; rfl
    have hx : xs = [] := List.eq_nil_of_length_eq_zero (by have := h.2.1; omega)
    rw [hx]
    apply ba_ext
    rw [q]; rfl
  · have hs : w.size = 2 * t.data.toList.length := by rw [size_list, e, List.toList_toArray, hexL_len]
    apply ba_ext
    rw [h.2.2 t e, List.take_of_length_le (by omega)]
/-! ### the kind of a word -/
def KwI (w : ByteArray) (k : Nat) (K : Int) : Prop := 0 ≤ K ∧ K ≤ 16 ∧ ∀ j : Nat, 1 ≤ j → j < k → w = kWord (j : Int) → K = (j : Int)
theorem KwI.start (w : ByteArray) : KwI w 1 0 := ⟨by omega, by omega, fun j h1 h2 _ => by omega⟩
theorem KwI.hit {w : ByteArray} {k : Nat} {K : Int} (h : KwI w k K) (h1 : 1 ≤ k) (hk : k ≤ 16) (e : w = kWord (k : Int)) : KwI w (k + 1) (k : Int) := by
  refine ⟨by omega, by omega, fun j j1 j2 ej => ?_⟩
  have a := kOf_word (k := (k : Int)) (by omega)
  have b := kOf_word (k := (j : Int)) (by omega)
  rw [← e] at a
  rw [← ej] at b
  exact a.symm.trans b
theorem KwI.miss {w : ByteArray} {k : Nat} {K : Int} (h : KwI w k K) (e : ¬ w = kWord (k : Int)) : KwI w (k + 1) K := by
  refine ⟨h.1, h.2.1, fun j j1 j2 ej => ?_⟩
  by_cases q : j = k
  · subst q; exact absurd ej e
  · exact h.2.2 j j1 (by omega) ej
theorem partsL_len (d : UInt8) : ∀ (a cur : List UInt8), (partsL d cur a).length ≤ a.length + 1 ∧ ∀ x ∈ partsL d cur a, x.length ≤ cur.length + a.length
  | [], cur => by simp [partsL]
  | c :: r, cur => by
    unfold partsL
    split
    · have ih := partsL_len d r []
      refine ⟨by simp only [List.length_cons]; omega, fun x hx => ?_⟩
      rcases List.mem_cons.1 hx with rfl | hx
      · omega
      · have := ih.2 x hx; simp only [List.length_cons, List.length_nil] at *; omega
    · have ih := partsL_len d r (cur ++ [c])
      refine ⟨by simp only [List.length_cons]; omega, fun x hx => ?_⟩
      have := ih.2 x hx
      simp only [List.length_cons, List.length_append, List.length_nil] at *; omega
theorem partsB_len (d : UInt8) (s : ByteArray) : 0 < (partsB d s).length ∧ (partsB d s).length ≤ s.size + 1 := by
  unfold partsB
  rw [List.length_map, size_list]
  exact ⟨List.length_pos_iff.2 (parts_ne d _ _), (partsL_len d _ _).1⟩
theorem partsB_size {d : UInt8} {s x : ByteArray} (h : x ∈ partsB d s) : x.size ≤ s.size := by
  unfold partsB at h
  obtain ⟨l, hl, rfl⟩ := List.mem_map.1 h
  have := (partsL_len d _ _).2 l hl
  rw [size_list, size_list, List.toList_toArray]
  simpa using this
/-! ### what a line may be of -/
def LoL (ws : List ByteArray) (K t m : Int) (xs : List Int) : Prop := 1 ≤ t ∧ t ≤ m ∧ xs = ((ws.drop t.toNat).take (m - t).toNat).map numI ∧ (t < m → m ≤ (ws.length : Int) ∧ kL K = true)
theorem LoL.start (ws : List ByteArray) (K : Int) {t : Int} (h : 1 ≤ t) : LoL ws K t t [] := ⟨h, Int.le_refl _, by rw [show (t - t).toNat = 0 from by omega, List.take_zero]; rfl, fun q => by omega⟩
theorem LoL.len {ws : List ByteArray} {K t m : Int} {xs : List Int} (h : LoL ws K t m xs) : xs.length ≤ ws.length := by
  rw [h.2.2.1, List.length_map, List.length_take, List.length_drop]; omega
theorem LoL.step {ws : List ByteArray} {K t m : Int} {xs : List Int} (h : LoL ws K t m xs) (hm : m < (ws.length : Int)) (hk : kL K = true) : LoL ws K t (m + 1) (xs ++ [numI ws[m.toNat]!]) := by
  obtain ⟨h1, h2, h3, h4⟩ := h
  refine ⟨h1, by omega, ?_, fun _ => ⟨by omega, hk⟩⟩
  have hl : (m - t).toNat < (ws.drop t.toNat).length := by rw [List.length_drop]; omega
  rw [show (m + 1 - t).toNat = (m - t).toNat + 1 from by omega, List.take_succ_eq_append_getElem hl, List.map_append, ← h3, List.getElem_drop]
  congr 1
  rw [List.map_cons, List.map_nil, getElem!_pos ws m.toNat (by omega)]
  congr 3
  omega
structure LooR (line : ByteArray) (x : StepP) : Prop where
  ins : inS x
  key : x.Key.size ≤ line.size
  val : x.Value.size ≤ line.size
  len : x.L.length ≤ line.size + 1
  one : ∀ y, okS y → inS y → lineS y = line → x = y
theorem drop_hd {ws r : List ByteArray} {a : Int} {z : ByteArray} (ha : 1 ≤ a) (h : ws.drop a.toNat = z :: r) : a < (ws.length : Int) ∧ ws[a.toNat]! = z ∧ ws.drop (a + 1).toNat = r := by
  have hl : a.toNat < ws.length := by
    have := congrArg List.length h
    rw [List.length_drop, List.length_cons] at this; omega
  have e := List.drop_eq_getElem_cons hl
  rw [h] at e
  obtain ⟨e1, e2⟩ := List.cons.inj e
  exact ⟨by omega, by rw [getElem!_pos ws _ hl]; exact e1.symm, by rw [show (a + 1).toNat = a.toNat + 1 from by omega]; exact e2.symm⟩
theorem take_num {ws r : List ByteArray} {c : Bool} {a a' A yA : Int} (ha : 1 ≤ a) (hr : ws.drop a.toNat = (if c = true then [itoaT yA] else []) ++ r) (hy : inI yA) (h0 : c = false → yA = 0)
    (d : (a' = a + 1 ∧ A = numI ws[a.toNat]! ∧ (c = true ∧ a < (ws.length : Int)) ∧ True) ∨ (a' = a ∧ A = 0 ∧ ¬ (c = true ∧ a < (ws.length : Int)) ∧ True)) : A = yA ∧ ws.drop a'.toNat = r ∧ 1 ≤ a' := by
  cases c
  · rcases d with ⟨_, _, q, _⟩ | ⟨rfl, rfl, _, _⟩
    · exact absurd q.1 (by decide)
    · exact ⟨(h0 rfl).symm, by simpa using hr, ha⟩
  · obtain ⟨b1, b2, b3⟩ := drop_hd ha (by simpa using hr)
    rcases d with ⟨rfl, rfl, q, _⟩ | ⟨rfl, rfl, q, _⟩
    · exact ⟨by rw [b2]; exact num_back hy, b3, by omega⟩
    · exact absurd ⟨rfl, b1⟩ q
theorem take_byt {ws r : List ByteArray} {c : Bool} {a a' : Int} {v y : ByteArray} (ha : 1 ≤ a) (hr : ws.drop a.toNat = (if c = true then [hexT y] else []) ++ r) (h0 : c = false → y = ⟨#[]⟩)
    (d : ((c = true ∧ a < (ws.length : Int)) ∧ (∀ t, ws[a.toNat]! = hexT t → v = t) ∧ a' = a + 1) ∨ (¬ (c = true ∧ a < (ws.length : Int)) ∧ v = ⟨#[]⟩ ∧ a' = a)) : v = y ∧ ws.drop a'.toNat = r ∧ 1 ≤ a' := by
  cases c
  · rcases d with ⟨q, _⟩ | ⟨_, rfl, rfl⟩
    · exact absurd q.1 (by decide)
    · exact ⟨(h0 rfl).symm, by simpa using hr, ha⟩
  · obtain ⟨b1, b2, b3⟩ := drop_hd ha (by simpa using hr)
    rcases d with ⟨_, q, rfl⟩ | ⟨q, _⟩
    · exact ⟨q y b2, b3, by omega⟩
    · exact absurd ⟨rfl, b1⟩ q
theorem loo_fin {line : ByteArray} {K A B a b c t m : Int} {Ky v : ByteArray} {xs : List Int} (hk : KwI (partsB 32 line)[0]! 17 K)
    (d1 : (a = 2 ∧ A = numI (partsB 32 line)[1]! ∧ (kA K = true ∧ 1 < ((partsB 32 line).length : Int)) ∧ True) ∨ (a = 1 ∧ A = 0 ∧ ¬ (kA K = true ∧ 1 < ((partsB 32 line).length : Int)) ∧ True))
    (d2 : (b = a + 1 ∧ B = numI (partsB 32 line)[a.toNat]! ∧ (kB K = true ∧ a < ((partsB 32 line).length : Int)) ∧ True) ∨ (b = a ∧ B = 0 ∧ ¬ (kB K = true ∧ a < ((partsB 32 line).length : Int)) ∧ True))
    (d3 : ((kK K = true ∧ b < ((partsB 32 line).length : Int)) ∧ (∀ t, (partsB 32 line)[b.toNat]! = hexT t → Ky = t) ∧ c = b + 1) ∨ (¬ (kK K = true ∧ b < ((partsB 32 line).length : Int)) ∧ Ky = ⟨#[]⟩ ∧ c = b))
    (d4 : ((K = 1 ∧ c < ((partsB 32 line).length : Int)) ∧ (∀ t, (partsB 32 line)[c.toNat]! = hexT t → v = t) ∧ t = c + 1) ∨ (¬ (K = 1 ∧ c < ((partsB 32 line).length : Int)) ∧ v = ⟨#[]⟩ ∧ t = c))
    (hL : LoL (partsB 32 line) K t m xs) (he : ¬ (m < ((partsB 32 line).length : Int) ∧ kL K = true)) (s1 : Ky.size ≤ line.size) (s2 : v.size ≤ line.size) : LooR line ⟨K, A, B, Ky, v, xs⟩ := by
  have in0 : inI 0 := ⟨by decide, by decide⟩
  refine ⟨⟨?_, ?_, fun n hn => ?_⟩, s1, s2, Nat.le_trans hL.len (partsB_len 32 line).2, fun y oy iy e => ?_⟩
  · show inI A
    rcases d1 with ⟨_, rfl, _⟩ | ⟨_, rfl, _⟩
    · exact numI_in _
    · exact in0
  · show inI B
    rcases d2 with ⟨_, rfl, _⟩ | ⟨_, rfl, _⟩
    · exact numI_in _
    · exact in0
  · have hn : n ∈ xs := hn
    rw [hL.2.2.1] at hn
    obtain ⟨w, _, rfl⟩ := List.mem_map.1 hn
    exact numI_in w
  · have hw : partsB 32 line = wordsS y := by rw [← e]; exact parts_line oy.1
    have hK : K = y.Kind := by
      have h1 := hk.2.2 y.Kind.toNat (by have := oy.1; omega) (by have := oy.1; omega) (by
        rw [hw, show (y.Kind.toNat : Int) = y.Kind from by have := oy.1; omega]; rfl)
      rw [h1]; have := oy.1; omega
    obtain ⟨yK, yA, yB, yY, yV, yL⟩ := y
    simp only at hK
    subst hK
    obtain ⟨_, oA, oB, oK, oV, _, oL⟩ := oy
    obtain ⟨iA, iB, iL⟩ := iy
    simp only at oA oB oK oV oL iA iB iL
    have r0 : (partsB 32 line).drop (1 : Int).toNat = (if kA K = true then [itoaT yA] else []) ++ ((if kB K = true then [itoaT yB] else []) ++ ((if kK K = true then [hexT yY] else []) ++ ((if kV K = true then [hexT yV] else []) ++ yL.map itoaT))) := by rw [hw]; rfl
    obtain ⟨rfl, r1, h1⟩ := take_num (a := 1) (a' := a) (by decide) r0 iA oA (by rcases d1 with ⟨q, z⟩ | q; exact .inl ⟨by omega, z⟩; exact .inr q)
    obtain ⟨rfl, r2, h2⟩ := take_num h1 r1 iB oB d2
    obtain ⟨rfl, r3, h3⟩ := take_byt h2 r2 oK d3
    have hkv : (K = 1) = (kV K = true) := by unfold kV; simp
    rw [hkv] at d4
    obtain ⟨rfl, r4, h4⟩ := take_byt h3 r3 (fun q => ba_ext (by have h_ := oV q; rw [size_list] at h_; exact List.eq_nil_of_length_eq_zero h_)) d4
    obtain ⟨g1, g2, g3, g4⟩ := hL
    have hlen : (((partsB 32 line).drop t.toNat).length) = yL.length := by rw [r4, List.length_map]
    rw [List.length_drop] at hlen
    have hx : xs = yL := by
      rw [g3, r4]
      have hback : (yL.map itoaT).map numI = yL := by
        rw [List.map_map]
        exact (List.map_congr_left fun n hn => num_back (iL n hn)).trans (List.map_id _)
      by_cases q : t < m
      · obtain ⟨q1, q2⟩ := g4 q
        have hm : ¬ m < ((partsB 32 line).length : Int) := fun z => he ⟨z, q2⟩
        rw [List.take_of_length_le (by rw [List.length_map]; omega)]
        exact hback
      · have hy0 : yL = [] := by
          by_cases hkl : kL K = true
          · exact List.eq_nil_of_length_eq_zero (by have : ¬ m < ((partsB 32 line).length : Int) := fun z => he ⟨z, hkl⟩; omega)
          · exact List.eq_nil_of_length_eq_zero (oL (by simpa using hkl))
        rw [hy0]; simp
    rw [hx]
theorem lines_last {s : ByteArray} : ((partsB 10 s)[(partsB 10 s).length - 1]! = ⟨#[]⟩ → linesB s = (partsB 10 s).take ((partsB 10 s).length - 1)) ∧ (¬ (partsB 10 s)[(partsB 10 s).length - 1]! = ⟨#[]⟩ → linesB s = partsB 10 s) := by
  have hne := parts_ne 10 s.data.toList []
  have hl := lines_parts s.data.toList []
  have hlen : 0 < (partsL 10 [] s.data.toList).length := List.length_pos_iff.2 hne
  have e1 : (partsB 10 s)[(partsB 10 s).length - 1]! = ⟨((partsL 10 [] s.data.toList).getLast hne).toArray⟩ := by
    unfold partsB
    rw [List.length_map, getElem!_pos _ _ (by rw [List.length_map]; omega), List.getElem_map, List.getLast_eq_getElem]
  have e2 : ((partsB 10 s)[(partsB 10 s).length - 1]! = ⟨#[]⟩) ↔ (partsL 10 [] s.data.toList).getLast hne = [] := by
    rw [e1]
    constructor
    · intro h
      have := congrArg (fun b : ByteArray => b.data.toList) h
      simpa using this
    · intro h; rw [h]
  rw [e2]
  constructor
  · intro h
    rw [if_pos h] at hl
    unfold linesB partsB
    rw [hl, List.length_map, ← List.map_take, List.dropLast_eq_take]
  · intro h
    rw [if_neg h] at hl
    unfold linesB partsB
    rw [hl]
theorem loo_sm {l : ByteArray} {x : StepP} (h : LooR l x) (hl : l.size ≤ 1048576) : smS x := by
  have h1 := h.key
  have h2 := h.val
  have h3 := h.len
  exact ⟨h.ins, by omega, by omega, by omega⟩
theorem loo_yes {l : ByteArray} {x : StepP} (hq : LooR l x) (h : ¬ ((¬ chkI x = 0) ∨ (chkI x = 0 ∧ ¬ lineV x = l))) : okS x ∧ inS x ∧ lineS x = l := by
  have h0 : chkI x = 0 := Classical.byContradiction fun q => h (.inl q)
  have h1 : lineV x = l := Classical.byContradiction fun q => h (.inr ⟨h0, q⟩)
  exact ⟨chk_ok h0, hq.ins, (lineV_ok (chk_ok h0)).symm.trans h1⟩
theorem loo_no {l : ByteArray} {x : StepP} (hq : LooR l x) (h : (¬ chkI x = 0) ∨ (chkI x = 0 ∧ ¬ lineV x = l)) : ¬ isL l := by
  rintro ⟨y, oy, iy, e⟩
  have hx := hq.one y oy iy e
  subst hx
  rcases h with h | ⟨_, h⟩
  · exact h (chk_0 oy)
  · exact h ((lineV_ok oy).trans e)
end Go.Proofs.YtbpedjefoajegaaDoor.K
namespace Go.Proofs.YtbpedjefoajegaaDoor.K
open Go Go.RowKit
set_option linter.unusedVariables false
set_option linter.unusedSimpArgs false
theorem parts_back (s : ByteArray) : joinB (partsB 32 s) = s := by
  have key : ∀ (a cur : List UInt8), (joinB ((partsL 32 cur a).map fun l => (⟨l.toArray⟩ : ByteArray))).data.toList = cur ++ a := by
    intro a
    induction a with
    | nil => intro cur; rw [partsL, List.map_cons, List.map_nil, joinB_one]; simp
    | cons c r ih =>
      intro cur
      rw [partsL]
      split
      · rename_i h
        subst h
        have hi := ih []
        cases hp : partsL 32 [] r with
        | nil => exact absurd hp (parts_ne 32 r [])
        | cons y l =>
          rw [hp] at hi
          rw [List.map_cons, List.map_cons, joinB_cons, ByteArray.data_append, Array.toList_append, ByteArray.data_append, Array.toList_append]
          rw [List.map_cons] at hi
          rw [hi]
          simp [spL]
      · rw [ih]; simp
  apply ba_ext
  unfold partsB
  rw [key, List.nil_append]
theorem conf_join (a b g d : Int) : joinB [wCfg, itoaT a, itoaT b, itoaT g, itoaT d] = confT a b g d := by
  rw [joinB_cons, joinB_cons, joinB_cons, joinB_cons, joinB_one]
  unfold confT
  apply ba_ext
  simp
theorem conf_parts (a b g d : Int) : partsB 32 (confT a b g d) = [wCfg, itoaT a, itoaT b, itoaT g, itoaT d] := by
  rw [← conf_join]
  refine parts_join _ (by simp) fun x hx => ?_
  simp only [List.mem_cons, List.not_mem_nil, or_false] at hx
  rcases hx with rfl | rfl | rfl | rfl | rfl
  · unfold noSp wCfg; decide
  all_goals exact itoa_nosp _
/-- No line of a config, if the parts are not the words of one. -/
theorem conf_bad {s : ByteArray} (h : ¬ ((partsB 32 s).length = 5 ∧ (partsB 32 s)[0]! = wCfg ∧ ∀ i, 1 ≤ i → i < 5 → itoaT (numI (partsB 32 s)[i]!) = (partsB 32 s)[i]!)) : ¬ IsConf s := by
  rintro ⟨a, b, g, d, ra, rb, rg, rd, rfl⟩
  apply h
  rw [conf_parts]
  refine ⟨rfl, rfl, fun i h1 h2 => ?_⟩
  have hi : i = 1 ∨ i = 2 ∨ i = 3 ∨ i = 4 := by omega
  rcases hi with rfl | rfl | rfl | rfl
  · show itoaT (numI (itoaT a)) = itoaT a; rw [num_back ra]
  · show itoaT (numI (itoaT b)) = itoaT b; rw [num_back rb]
  · show itoaT (numI (itoaT g)) = itoaT g; rw [num_back rg]
  · show itoaT (numI (itoaT d)) = itoaT d; rw [num_back rd]
theorem conf_good {s : ByteArray} (h0 : (partsB 32 s).length = 5) (h1 : (partsB 32 s)[0]! = wCfg) (a1 : itoaT (numI (partsB 32 s)[1]!) = (partsB 32 s)[1]!) (a2 : itoaT (numI (partsB 32 s)[2]!) = (partsB 32 s)[2]!) (a3 : itoaT (numI (partsB 32 s)[3]!) = (partsB 32 s)[3]!) (a4 : itoaT (numI (partsB 32 s)[4]!) = (partsB 32 s)[4]!) :
    s = confT (numI (partsB 32 s)[1]!) (numI (partsB 32 s)[2]!) (numI (partsB 32 s)[3]!) (numI (partsB 32 s)[4]!) := by
  rw [← conf_join, a1, a2, a3, a4, ← h1]
  conv => lhs; rw [← parts_back s]
  congr 1
  match hp : partsB 32 s, h0 with
  | [x0, x1, x2, x3, x4], _ => rfl
end Go.Proofs.YtbpedjefoajegaaDoor.K
