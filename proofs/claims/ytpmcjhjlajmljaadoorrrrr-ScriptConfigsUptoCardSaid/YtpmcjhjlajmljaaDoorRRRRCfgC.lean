/- The walks of CfgC: what each function computes. -/
import Derived.Test.YtpmcjhjlajmljaaDoorRRRRProg
import Derived.Test.YtpmcjhjlajmljaaDoorRRRRCoreO
import Derived.Test.YtpmcjhjlajmljaaDoorRRRRCfgW
import Derived.Test.YtpmcjhjlajmljaaDoorRRRRCoreV
namespace Go.Proofs.YtpmcjhjlajmljaaDoorRRRR.K
open Go Go.Proofs Go.RowKit
set_option linter.unusedVariables false
set_option linter.unusedSimpArgs false
set_option maxRecDepth 20000
set_option maxHeartbeats 4000000

theorem sz32 : (⟨#[32]⟩ : ByteArray).size = 1 := rfl
theorem sc_Config (s : ByteArray) (hs : s.size ≤ 4294967280) (w : World) (hl : LibP w) :
    Calls Tryd.prog 25 #[.string s] w (fun r_ w' => ∃ (c : GConfig) (n e : Int), r_ = .returned (.tuple #[GConfig.val c, .int .i64 n, .int .i64 e]) ∧ ConfR s c n e ∧ Fram Non w w') := by
  have hsz : ∀ x ∈ wordsB s, x.size ≤ 281474976710656 := fun x hx => Nat.le_trans (words_size _ _ _ hx) (by omega)
  have hhd := head_size hsz
  have hse : ByteArray.empty.size = 0 := rfl
  refine calls_of Tryd.func25 rfl 94 rfl (by simp) ?_
  have hp0 := Hp.init w
  have he0 : List.map (env0 [.string s]) [0] = [.string s] := by kernel_rfl
  obtain ⟨b0, he0⟩ := toMk he0
  rw [he0]
  clear he0
  refine WP.seq ?_
  refine WP.region _ rfl (by kernel_rfl) ?_
  refine OPS.cons (opStep.alloc hp0 [.int .i64 0, .int .i64 0, .int .i64 0] (by kernel_rfl) (fun g3 w1 hp2 => ?_))
  refine OPS.batch 2 {} [] [0, 2] [.string s, .pointer (some ⟨g3, 0, none⟩)] .nil (by kernel_rfl) (fun b4 => ?_)
  refine OPS.nil ?_
  refine thn_n ?_
  refine WP.seq ?_
  refine WP.region _ rfl (by kernel_rfl) ?_
  refine OPS.batch 1 {} [] [0, 2, 13] [.string s, .pointer (some ⟨g3, 0, none⟩), .string s] .nil (by kernel_rfl) (fun b5 => ?_)
  refine OPS.cons (opStep.call (some 14) [.string s, .string ⟨#[32]⟩] (by kernel_rfl) (split_c s hs (hl.fram hp2.fr) hp2) ?_)
  rintro _ w8 ⟨g10, n11, rfl, hp9⟩
  refine ⟨_, rfl, ?_⟩
  refine OPS.batch 1 {} [] [0, 2, 15] [.string s, .pointer (some ⟨g3, 0, none⟩), .agg #[.slice (some ⟨g10, 0, none⟩) n11 n11, .bool false]] .nil (by kernel_rfl) (fun b12 => ?_)
  refine OPS.cons (opStep.box hp9 [.slice (some ⟨g10, 0, none⟩) n11 n11, .bool false] (by kernel_rfl) (fun g15 w13 hp14 => ?_))
  refine OPS.batch 1 {} [] [0, 2, 5] [.string s, .pointer (some ⟨g3, 0, none⟩), .pointer (some ⟨g15, 0, none⟩)] .nil (by kernel_rfl) (fun b16 => ?_)
  refine OPS.nil ?_
  refine thn_n ?_
  refine WP.seq ?_
  refine WP.region _ rfl (by kernel_rfl) ?_
  refine OPS.batch 1 {} [] [0, 2, 5, 17] [.string s, .pointer (some ⟨g3, 0, none⟩), .pointer (some ⟨g15, 0, none⟩), .pointer (some ⟨g15, 0, none⟩)] .nil (by kernel_rfl) (fun b17 => ?_)
  have hp20 := hp14.pull1
  have hp21 := hp20.pull1
  refine OPS.cons (opStep.call (some 18) [.pointer (some ⟨g15, 0, none⟩)] (by kernel_rfl) (w_next _ _ g15 g10 (⟨some ⟨g10, 0, none⟩, n11, n11⟩ : SlH) (wordsB s) false _ hp21) ?_)
  rintro _ w22 ⟨h24, rfl, hp23⟩
  refine ⟨_, rfl, ?_⟩
  refine OPS.batch 1 {} [] [0, 2, 5, 6] [.string s, .pointer (some ⟨g3, 0, none⟩), .pointer (some ⟨g15, 0, none⟩), .string ((wordsB s).headD ByteArray.empty)] .nil (by kernel_rfl) (fun b25 => ?_)
  refine OPS.nil ?_
  refine thn_n ?_
  refine WP.seq ?_
  refine WP.region _ rfl (by kernel_rfl) ?_
  refine OPS.batch 1 {} [] [0, 2, 5, 6, 19] [.string s, .pointer (some ⟨g3, 0, none⟩), .pointer (some ⟨g15, 0, none⟩), .string ((wordsB s).headD ByteArray.empty), .pointer (some ⟨g15, 0, none⟩)] .nil (by kernel_rfl) (fun b26 => ?_)
  have hp29 := hp23.pull1
  have hp30 := hp29.pull1
  refine OPS.cons (opStep.call (some 20) [.pointer (some ⟨g15, 0, none⟩)] (by kernel_rfl) (w_number _ _ g15 g10 h24 ((wordsB s).tail) (false || (wordsB s).isEmpty) _ hl (tail_size hsz) hp30) ?_)
  rintro _ w31 ⟨h33, v34, bd35_, rfl, hn36, hp32⟩
  refine ⟨_, rfl, ?_⟩
  have hn36a := hn36.rng.1
  have hn36b := hn36.rng.2
  have hn36z := itoaT_size hn36a hn36b
  refine OPS.batch 1 {} [] [0, 2, 5, 6, 20, 21] [.string s, .pointer (some ⟨g3, 0, none⟩), .pointer (some ⟨g15, 0, none⟩), .string ((wordsB s).headD ByteArray.empty), .int .i64 v34, .pointer (some ⟨g15, 0, none⟩)] .nil (by kernel_rfl) (fun b37 => ?_)
  have hp40 := hp32.pull1
  have hp41 := hp40.pull1
  refine OPS.cons (opStep.call (some 22) [.pointer (some ⟨g15, 0, none⟩)] (by kernel_rfl) (w_number _ _ g15 g10 h33 (((wordsB s).tail).tail) bd35_ _ hl (tail_size (tail_size hsz)) hp41) ?_)
  rintro _ w42 ⟨h44, v45, bd46_, rfl, hn47, hp43⟩
  refine ⟨_, rfl, ?_⟩
  have hn47a := hn47.rng.1
  have hn47b := hn47.rng.2
  have hn47z := itoaT_size hn47a hn47b
  refine OPS.batch 1 {} [] [0, 2, 5, 6, 20, 22, 23] [.string s, .pointer (some ⟨g3, 0, none⟩), .pointer (some ⟨g15, 0, none⟩), .string ((wordsB s).headD ByteArray.empty), .int .i64 v34, .int .i64 v45, .pointer (some ⟨g15, 0, none⟩)] .nil (by kernel_rfl) (fun b48 => ?_)
  have hp51 := hp43.pull1
  have hp52 := hp51.pull1
  refine OPS.cons (opStep.call (some 24) [.pointer (some ⟨g15, 0, none⟩)] (by kernel_rfl) (w_number _ _ g15 g10 h44 ((((wordsB s).tail).tail).tail) bd46_ _ hl (tail_size (tail_size (tail_size hsz))) hp52) ?_)
  rintro _ w53 ⟨h55, v56, bd57_, rfl, hn58, hp54⟩
  refine ⟨_, rfl, ?_⟩
  have hn58a := hn58.rng.1
  have hn58b := hn58.rng.2
  have hn58z := itoaT_size hn58a hn58b
  refine OPS.batch 1 {} [] [0, 2, 5, 6, 20, 22, 24, 25] [.string s, .pointer (some ⟨g3, 0, none⟩), .pointer (some ⟨g15, 0, none⟩), .string ((wordsB s).headD ByteArray.empty), .int .i64 v34, .int .i64 v45, .int .i64 v56, .pointer (some ⟨g15, 0, none⟩)] .nil (by kernel_rfl) (fun b59 => ?_)
  have hp62 := hp54.pull1
  have hp63 := hp62.pull1
  refine OPS.cons (opStep.call (some 26) [.pointer (some ⟨g15, 0, none⟩)] (by kernel_rfl) (w_number _ _ g15 g10 h55 (((((wordsB s).tail).tail).tail).tail) bd57_ _ hl (tail_size (tail_size (tail_size (tail_size hsz)))) hp63) ?_)
  rintro _ w64 ⟨h66, v67, bd68_, rfl, hn69, hp65⟩
  refine ⟨_, rfl, ?_⟩
  have hn69a := hn69.rng.1
  have hn69b := hn69.rng.2
  have hn69z := itoaT_size hn69a hn69b
  refine OPS.cons (opStep.buildSlice (E := 3) hp65 [.int .i64 v34, .int .i64 v45, .int .i64 v56, .int .i64 v67] (by kernel_rfl) (fun g72 w70 hp71 => ?_))
  refine OPS.batch 1 {} [] [0, 2, 5, 6, 7] [.string s, .pointer (some ⟨g3, 0, none⟩), .pointer (some ⟨g15, 0, none⟩), .string ((wordsB s).headD ByteArray.empty), .slice (some ⟨g72, 0, none⟩) 4 4] .nil (by kernel_rfl) (fun b73 => ?_)
  refine OPS.nil ?_
  refine thn_n ?_
  refine WP.seq ?_
  refine WP.pure {} [] [0, 2, 5, 6, 7, 8] [.string s, .pointer (some ⟨g3, 0, none⟩), .pointer (some ⟨g15, 0, none⟩), .string ((wordsB s).headD ByteArray.empty), .slice (some ⟨g72, 0, none⟩) 4 4, .string ((wordsB s).headD ByteArray.empty)] .nil (by kernel_rfl) (fun b74 => ?_)
  refine thn_n ?_
  refine WP.seq ?_
  refine WP.seq ?_
  refine WP.pure {} [] [0, 2, 5, 6, 7, 8, 29, 30, 31] [.string s, .pointer (some ⟨g3, 0, none⟩), .pointer (some ⟨g15, 0, none⟩), .string ((wordsB s).headD ByteArray.empty), .slice (some ⟨g72, 0, none⟩) 4 4, .string ((wordsB s).headD ByteArray.empty), .slice (some ⟨g72, 0, none⟩) 4 4, .int .i64 4, .int .i64 0] .nil (by kernel_rfl) (fun b75 => ?_)
  refine thn_n ?_
  refine WP.block ?_
  refine WP.rounds 5 ?_
  refine RND.step ?_
  refine WP.seq ?_
  refine WP.pure {} [] [0, 2, 5, 6, 7, 8, 29, 30, 31, 32] [.string s, .pointer (some ⟨g3, 0, none⟩), .pointer (some ⟨g15, 0, none⟩), .string ((wordsB s).headD ByteArray.empty), .slice (some ⟨g72, 0, none⟩) 4 4, .string ((wordsB s).headD ByteArray.empty), .slice (some ⟨g72, 0, none⟩) 4 4, .int .i64 4, .int .i64 0, .bool true] .nil (by kernel_rfl) (fun b76 => ?_)
  refine thn_n ?_
  refine WP.seq ?_
  refine WP.condT rfl ?_
  refine WP.skip ?_
  refine thn_n ?_
  refine WP.seq ?_
  refine WP.block ?_
  refine WP.seq ?_
  refine WP.pure {} [.int .i64 v34] [0, 2, 5, 6, 7, 8, 10, 29, 30, 31] [.string s, .pointer (some ⟨g3, 0, none⟩), .pointer (some ⟨g15, 0, none⟩), .string ((wordsB s).headD ByteArray.empty), .slice (some ⟨g72, 0, none⟩) 4 4, .string ((wordsB s).headD ByteArray.empty), .int .i64 v34, .slice (some ⟨g72, 0, none⟩) 4 4, .int .i64 4, .int .i64 0] (.cons (show InB (0) (4) from ⟨by omega, by omega⟩) (.cons (show (some (⟨g72, 0, none⟩ : Addr)).isSome = true from rfl) (.cons (Ld.row1 (P := Tryd.prog) (t := 3) (o := 0) (v := .int .i64 v34) hp71.get0 (by kernel_rfl)) .nil))) (by kernel_rfl) (fun b77 => ?_)
  refine thn_n ?_
  refine WP.region _ rfl (by kernel_rfl) ?_
  refine OPS.batch 2 {} [] [0, 2, 5, 6, 7, 29, 30, 31, 35, 36] [.string s, .pointer (some ⟨g3, 0, none⟩), .pointer (some ⟨g15, 0, none⟩), .string ((wordsB s).headD ByteArray.empty), .slice (some ⟨g72, 0, none⟩) 4 4, .slice (some ⟨g72, 0, none⟩) 4 4, .int .i64 4, .int .i64 0, .string ((wordsB s).headD ByteArray.empty), .int .i64 v34] .nil (by kernel_rfl) (fun b78 => ?_)
  refine OPS.cons (opStep.call (some 37) [.int .i64 v34] (by kernel_rfl) (itoa_c v34 (by omega) (by omega) _ (hl.fram hp71.fr)) ?_)
  rintro _ w81 ⟨rfl, hf82⟩
  refine ⟨_, rfl, ?_⟩
  have hp83 := hp71.step hf82
  refine OPS.batch 3 {} [] [0, 2, 5, 6, 7, 8, 29, 30, 31] [.string s, .pointer (some ⟨g3, 0, none⟩), .pointer (some ⟨g15, 0, none⟩), .string ((wordsB s).headD ByteArray.empty), .slice (some ⟨g72, 0, none⟩) 4 4, .string (((wordsB s).headD ByteArray.empty) ++ ((⟨#[32]⟩ : ByteArray) ++ (itoaT v34))), .slice (some ⟨g72, 0, none⟩) 4 4, .int .i64 4, .int .i64 0] (.cons (show (⟨#[32]⟩ : ByteArray).size + (itoaT v34).size ≤ 9223372036854775807 from by first | omega | (simp only [ByteArray.size_append, sz32]; omega)) (.cons (show ((wordsB s).headD ByteArray.empty).size + ((⟨#[32]⟩ : ByteArray) ++ (itoaT v34)).size ≤ 9223372036854775807 from by first | omega | (simp only [ByteArray.size_append, sz32]; omega)) .nil)) (by kernel_rfl) (fun b84 => ?_)
  refine OPS.nil ?_
  refine blk_n ?_
  refine thn_n ?_
  refine WP.pure {} [] [0, 2, 5, 6, 7, 8, 29, 30, 31] [.string s, .pointer (some ⟨g3, 0, none⟩), .pointer (some ⟨g15, 0, none⟩), .string ((wordsB s).headD ByteArray.empty), .slice (some ⟨g72, 0, none⟩) 4 4, .string (((wordsB s).headD ByteArray.empty) ++ ((⟨#[32]⟩ : ByteArray) ++ (itoaT v34))), .slice (some ⟨g72, 0, none⟩) 4 4, .int .i64 4, .int .i64 1] (.cons (show Rng .i64 (1) from Rng.i64 (by first | omega | (simp only [ByteArray.size_append, sz32]; omega))) .nil) (by kernel_rfl) (fun b85 => ?_)
  refine thn_n ?_
  refine RND.step ?_
  refine WP.seq ?_
  refine WP.pure {} [] [0, 2, 5, 6, 7, 8, 29, 30, 31, 32] [.string s, .pointer (some ⟨g3, 0, none⟩), .pointer (some ⟨g15, 0, none⟩), .string ((wordsB s).headD ByteArray.empty), .slice (some ⟨g72, 0, none⟩) 4 4, .string (((wordsB s).headD ByteArray.empty) ++ ((⟨#[32]⟩ : ByteArray) ++ (itoaT v34))), .slice (some ⟨g72, 0, none⟩) 4 4, .int .i64 4, .int .i64 1, .bool true] .nil (by kernel_rfl) (fun b86 => ?_)
  refine thn_n ?_
  refine WP.seq ?_
  refine WP.condT rfl ?_
  refine WP.skip ?_
  refine thn_n ?_
  refine WP.seq ?_
  refine WP.block ?_
  refine WP.seq ?_
  refine WP.pure {} [.int .i64 v45] [0, 2, 5, 6, 7, 8, 10, 29, 30, 31] [.string s, .pointer (some ⟨g3, 0, none⟩), .pointer (some ⟨g15, 0, none⟩), .string ((wordsB s).headD ByteArray.empty), .slice (some ⟨g72, 0, none⟩) 4 4, .string (((wordsB s).headD ByteArray.empty) ++ ((⟨#[32]⟩ : ByteArray) ++ (itoaT v34))), .int .i64 v45, .slice (some ⟨g72, 0, none⟩) 4 4, .int .i64 4, .int .i64 1] (.cons (show InB (1) (4) from ⟨by omega, by omega⟩) (.cons (show (some (⟨g72, 0, none⟩ : Addr)).isSome = true from rfl) (.cons (Ld.row1 (P := Tryd.prog) (t := 3) (o := 1) (v := .int .i64 v45) hp83.get0 (by kernel_rfl)) .nil))) (by kernel_rfl) (fun b87 => ?_)
  refine thn_n ?_
  refine WP.region _ rfl (by kernel_rfl) ?_
  refine OPS.batch 2 {} [] [0, 2, 5, 6, 7, 29, 30, 31, 35, 36] [.string s, .pointer (some ⟨g3, 0, none⟩), .pointer (some ⟨g15, 0, none⟩), .string ((wordsB s).headD ByteArray.empty), .slice (some ⟨g72, 0, none⟩) 4 4, .slice (some ⟨g72, 0, none⟩) 4 4, .int .i64 4, .int .i64 1, .string (((wordsB s).headD ByteArray.empty) ++ ((⟨#[32]⟩ : ByteArray) ++ (itoaT v34))), .int .i64 v45] .nil (by kernel_rfl) (fun b88 => ?_)
  refine OPS.cons (opStep.call (some 37) [.int .i64 v45] (by kernel_rfl) (itoa_c v45 (by omega) (by omega) _ (hl.fram hp83.fr)) ?_)
  rintro _ w91 ⟨rfl, hf92⟩
  refine ⟨_, rfl, ?_⟩
  have hp93 := hp83.step hf92
  refine OPS.batch 3 {} [] [0, 2, 5, 6, 7, 8, 29, 30, 31] [.string s, .pointer (some ⟨g3, 0, none⟩), .pointer (some ⟨g15, 0, none⟩), .string ((wordsB s).headD ByteArray.empty), .slice (some ⟨g72, 0, none⟩) 4 4, .string ((((wordsB s).headD ByteArray.empty) ++ ((⟨#[32]⟩ : ByteArray) ++ (itoaT v34))) ++ ((⟨#[32]⟩ : ByteArray) ++ (itoaT v45))), .slice (some ⟨g72, 0, none⟩) 4 4, .int .i64 4, .int .i64 1] (.cons (show (⟨#[32]⟩ : ByteArray).size + (itoaT v45).size ≤ 9223372036854775807 from by first | omega | (simp only [ByteArray.size_append, sz32]; omega)) (.cons (show (((wordsB s).headD ByteArray.empty) ++ ((⟨#[32]⟩ : ByteArray) ++ (itoaT v34))).size + ((⟨#[32]⟩ : ByteArray) ++ (itoaT v45)).size ≤ 9223372036854775807 from by first | omega | (simp only [ByteArray.size_append, sz32]; omega)) .nil)) (by kernel_rfl) (fun b94 => ?_)
  refine OPS.nil ?_
  refine blk_n ?_
  refine thn_n ?_
  refine WP.pure {} [] [0, 2, 5, 6, 7, 8, 29, 30, 31] [.string s, .pointer (some ⟨g3, 0, none⟩), .pointer (some ⟨g15, 0, none⟩), .string ((wordsB s).headD ByteArray.empty), .slice (some ⟨g72, 0, none⟩) 4 4, .string ((((wordsB s).headD ByteArray.empty) ++ ((⟨#[32]⟩ : ByteArray) ++ (itoaT v34))) ++ ((⟨#[32]⟩ : ByteArray) ++ (itoaT v45))), .slice (some ⟨g72, 0, none⟩) 4 4, .int .i64 4, .int .i64 2] (.cons (show Rng .i64 (2) from Rng.i64 (by first | omega | (simp only [ByteArray.size_append, sz32]; omega))) .nil) (by kernel_rfl) (fun b95 => ?_)
  refine thn_n ?_
  refine RND.step ?_
  refine WP.seq ?_
  refine WP.pure {} [] [0, 2, 5, 6, 7, 8, 29, 30, 31, 32] [.string s, .pointer (some ⟨g3, 0, none⟩), .pointer (some ⟨g15, 0, none⟩), .string ((wordsB s).headD ByteArray.empty), .slice (some ⟨g72, 0, none⟩) 4 4, .string ((((wordsB s).headD ByteArray.empty) ++ ((⟨#[32]⟩ : ByteArray) ++ (itoaT v34))) ++ ((⟨#[32]⟩ : ByteArray) ++ (itoaT v45))), .slice (some ⟨g72, 0, none⟩) 4 4, .int .i64 4, .int .i64 2, .bool true] .nil (by kernel_rfl) (fun b96 => ?_)
  refine thn_n ?_
  refine WP.seq ?_
  refine WP.condT rfl ?_
  refine WP.skip ?_
  refine thn_n ?_
  refine WP.seq ?_
  refine WP.block ?_
  refine WP.seq ?_
  refine WP.pure {} [.int .i64 v56] [0, 2, 5, 6, 7, 8, 10, 29, 30, 31] [.string s, .pointer (some ⟨g3, 0, none⟩), .pointer (some ⟨g15, 0, none⟩), .string ((wordsB s).headD ByteArray.empty), .slice (some ⟨g72, 0, none⟩) 4 4, .string ((((wordsB s).headD ByteArray.empty) ++ ((⟨#[32]⟩ : ByteArray) ++ (itoaT v34))) ++ ((⟨#[32]⟩ : ByteArray) ++ (itoaT v45))), .int .i64 v56, .slice (some ⟨g72, 0, none⟩) 4 4, .int .i64 4, .int .i64 2] (.cons (show InB (2) (4) from ⟨by omega, by omega⟩) (.cons (show (some (⟨g72, 0, none⟩ : Addr)).isSome = true from rfl) (.cons (Ld.row1 (P := Tryd.prog) (t := 3) (o := 2) (v := .int .i64 v56) hp93.get0 (by kernel_rfl)) .nil))) (by kernel_rfl) (fun b97 => ?_)
  refine thn_n ?_
  refine WP.region _ rfl (by kernel_rfl) ?_
  refine OPS.batch 2 {} [] [0, 2, 5, 6, 7, 29, 30, 31, 35, 36] [.string s, .pointer (some ⟨g3, 0, none⟩), .pointer (some ⟨g15, 0, none⟩), .string ((wordsB s).headD ByteArray.empty), .slice (some ⟨g72, 0, none⟩) 4 4, .slice (some ⟨g72, 0, none⟩) 4 4, .int .i64 4, .int .i64 2, .string ((((wordsB s).headD ByteArray.empty) ++ ((⟨#[32]⟩ : ByteArray) ++ (itoaT v34))) ++ ((⟨#[32]⟩ : ByteArray) ++ (itoaT v45))), .int .i64 v56] .nil (by kernel_rfl) (fun b98 => ?_)
  refine OPS.cons (opStep.call (some 37) [.int .i64 v56] (by kernel_rfl) (itoa_c v56 (by omega) (by omega) _ (hl.fram hp93.fr)) ?_)
  rintro _ w101 ⟨rfl, hf102⟩
  refine ⟨_, rfl, ?_⟩
  have hp103 := hp93.step hf102
  refine OPS.batch 3 {} [] [0, 2, 5, 6, 7, 8, 29, 30, 31] [.string s, .pointer (some ⟨g3, 0, none⟩), .pointer (some ⟨g15, 0, none⟩), .string ((wordsB s).headD ByteArray.empty), .slice (some ⟨g72, 0, none⟩) 4 4, .string (((((wordsB s).headD ByteArray.empty) ++ ((⟨#[32]⟩ : ByteArray) ++ (itoaT v34))) ++ ((⟨#[32]⟩ : ByteArray) ++ (itoaT v45))) ++ ((⟨#[32]⟩ : ByteArray) ++ (itoaT v56))), .slice (some ⟨g72, 0, none⟩) 4 4, .int .i64 4, .int .i64 2] (.cons (show (⟨#[32]⟩ : ByteArray).size + (itoaT v56).size ≤ 9223372036854775807 from by first | omega | (simp only [ByteArray.size_append, sz32]; omega)) (.cons (show ((((wordsB s).headD ByteArray.empty) ++ ((⟨#[32]⟩ : ByteArray) ++ (itoaT v34))) ++ ((⟨#[32]⟩ : ByteArray) ++ (itoaT v45))).size + ((⟨#[32]⟩ : ByteArray) ++ (itoaT v56)).size ≤ 9223372036854775807 from by first | omega | (simp only [ByteArray.size_append, sz32]; omega)) .nil)) (by kernel_rfl) (fun b104 => ?_)
  refine OPS.nil ?_
  refine blk_n ?_
  refine thn_n ?_
  refine WP.pure {} [] [0, 2, 5, 6, 7, 8, 29, 30, 31] [.string s, .pointer (some ⟨g3, 0, none⟩), .pointer (some ⟨g15, 0, none⟩), .string ((wordsB s).headD ByteArray.empty), .slice (some ⟨g72, 0, none⟩) 4 4, .string (((((wordsB s).headD ByteArray.empty) ++ ((⟨#[32]⟩ : ByteArray) ++ (itoaT v34))) ++ ((⟨#[32]⟩ : ByteArray) ++ (itoaT v45))) ++ ((⟨#[32]⟩ : ByteArray) ++ (itoaT v56))), .slice (some ⟨g72, 0, none⟩) 4 4, .int .i64 4, .int .i64 3] (.cons (show Rng .i64 (3) from Rng.i64 (by first | omega | (simp only [ByteArray.size_append, sz32]; omega))) .nil) (by kernel_rfl) (fun b105 => ?_)
  refine thn_n ?_
  refine RND.step ?_
  refine WP.seq ?_
  refine WP.pure {} [] [0, 2, 5, 6, 7, 8, 29, 30, 31, 32] [.string s, .pointer (some ⟨g3, 0, none⟩), .pointer (some ⟨g15, 0, none⟩), .string ((wordsB s).headD ByteArray.empty), .slice (some ⟨g72, 0, none⟩) 4 4, .string (((((wordsB s).headD ByteArray.empty) ++ ((⟨#[32]⟩ : ByteArray) ++ (itoaT v34))) ++ ((⟨#[32]⟩ : ByteArray) ++ (itoaT v45))) ++ ((⟨#[32]⟩ : ByteArray) ++ (itoaT v56))), .slice (some ⟨g72, 0, none⟩) 4 4, .int .i64 4, .int .i64 3, .bool true] .nil (by kernel_rfl) (fun b106 => ?_)
  refine thn_n ?_
  refine WP.seq ?_
  refine WP.condT rfl ?_
  refine WP.skip ?_
  refine thn_n ?_
  refine WP.seq ?_
  refine WP.block ?_
  refine WP.seq ?_
  refine WP.pure {} [.int .i64 v67] [0, 2, 5, 6, 7, 8, 10, 29, 30, 31] [.string s, .pointer (some ⟨g3, 0, none⟩), .pointer (some ⟨g15, 0, none⟩), .string ((wordsB s).headD ByteArray.empty), .slice (some ⟨g72, 0, none⟩) 4 4, .string (((((wordsB s).headD ByteArray.empty) ++ ((⟨#[32]⟩ : ByteArray) ++ (itoaT v34))) ++ ((⟨#[32]⟩ : ByteArray) ++ (itoaT v45))) ++ ((⟨#[32]⟩ : ByteArray) ++ (itoaT v56))), .int .i64 v67, .slice (some ⟨g72, 0, none⟩) 4 4, .int .i64 4, .int .i64 3] (.cons (show InB (3) (4) from ⟨by omega, by omega⟩) (.cons (show (some (⟨g72, 0, none⟩ : Addr)).isSome = true from rfl) (.cons (Ld.row1 (P := Tryd.prog) (t := 3) (o := 3) (v := .int .i64 v67) hp103.get0 (by kernel_rfl)) .nil))) (by kernel_rfl) (fun b107 => ?_)
  refine thn_n ?_
  refine WP.region _ rfl (by kernel_rfl) ?_
  refine OPS.batch 2 {} [] [0, 2, 5, 6, 7, 29, 30, 31, 35, 36] [.string s, .pointer (some ⟨g3, 0, none⟩), .pointer (some ⟨g15, 0, none⟩), .string ((wordsB s).headD ByteArray.empty), .slice (some ⟨g72, 0, none⟩) 4 4, .slice (some ⟨g72, 0, none⟩) 4 4, .int .i64 4, .int .i64 3, .string (((((wordsB s).headD ByteArray.empty) ++ ((⟨#[32]⟩ : ByteArray) ++ (itoaT v34))) ++ ((⟨#[32]⟩ : ByteArray) ++ (itoaT v45))) ++ ((⟨#[32]⟩ : ByteArray) ++ (itoaT v56))), .int .i64 v67] .nil (by kernel_rfl) (fun b108 => ?_)
  refine OPS.cons (opStep.call (some 37) [.int .i64 v67] (by kernel_rfl) (itoa_c v67 (by omega) (by omega) _ (hl.fram hp103.fr)) ?_)
  rintro _ w111 ⟨rfl, hf112⟩
  refine ⟨_, rfl, ?_⟩
  have hp113 := hp103.step hf112
  refine OPS.batch 3 {} [] [0, 2, 5, 6, 7, 8, 29, 30, 31] [.string s, .pointer (some ⟨g3, 0, none⟩), .pointer (some ⟨g15, 0, none⟩), .string ((wordsB s).headD ByteArray.empty), .slice (some ⟨g72, 0, none⟩) 4 4, .string ((((((wordsB s).headD ByteArray.empty) ++ ((⟨#[32]⟩ : ByteArray) ++ (itoaT v34))) ++ ((⟨#[32]⟩ : ByteArray) ++ (itoaT v45))) ++ ((⟨#[32]⟩ : ByteArray) ++ (itoaT v56))) ++ ((⟨#[32]⟩ : ByteArray) ++ (itoaT v67))), .slice (some ⟨g72, 0, none⟩) 4 4, .int .i64 4, .int .i64 3] (.cons (show (⟨#[32]⟩ : ByteArray).size + (itoaT v67).size ≤ 9223372036854775807 from by first | omega | (simp only [ByteArray.size_append, sz32]; omega)) (.cons (show (((((wordsB s).headD ByteArray.empty) ++ ((⟨#[32]⟩ : ByteArray) ++ (itoaT v34))) ++ ((⟨#[32]⟩ : ByteArray) ++ (itoaT v45))) ++ ((⟨#[32]⟩ : ByteArray) ++ (itoaT v56))).size + ((⟨#[32]⟩ : ByteArray) ++ (itoaT v67)).size ≤ 9223372036854775807 from by first | omega | (simp only [ByteArray.size_append, sz32]; omega)) .nil)) (by kernel_rfl) (fun b114 => ?_)
  refine OPS.nil ?_
  refine blk_n ?_
  refine thn_n ?_
  refine WP.pure {} [] [0, 2, 5, 6, 7, 8, 29, 30, 31] [.string s, .pointer (some ⟨g3, 0, none⟩), .pointer (some ⟨g15, 0, none⟩), .string ((wordsB s).headD ByteArray.empty), .slice (some ⟨g72, 0, none⟩) 4 4, .string ((((((wordsB s).headD ByteArray.empty) ++ ((⟨#[32]⟩ : ByteArray) ++ (itoaT v34))) ++ ((⟨#[32]⟩ : ByteArray) ++ (itoaT v45))) ++ ((⟨#[32]⟩ : ByteArray) ++ (itoaT v56))) ++ ((⟨#[32]⟩ : ByteArray) ++ (itoaT v67))), .slice (some ⟨g72, 0, none⟩) 4 4, .int .i64 4, .int .i64 4] (.cons (show Rng .i64 (4) from Rng.i64 (by first | omega | (simp only [ByteArray.size_append, sz32]; omega))) .nil) (by kernel_rfl) (fun b115 => ?_)
  refine thn_n ?_
  refine RND.step ?_
  refine WP.seq ?_
  refine WP.pure {} [] [0, 2, 5, 6, 7, 8, 29, 30, 31, 32] [.string s, .pointer (some ⟨g3, 0, none⟩), .pointer (some ⟨g15, 0, none⟩), .string ((wordsB s).headD ByteArray.empty), .slice (some ⟨g72, 0, none⟩) 4 4, .string ((((((wordsB s).headD ByteArray.empty) ++ ((⟨#[32]⟩ : ByteArray) ++ (itoaT v34))) ++ ((⟨#[32]⟩ : ByteArray) ++ (itoaT v45))) ++ ((⟨#[32]⟩ : ByteArray) ++ (itoaT v56))) ++ ((⟨#[32]⟩ : ByteArray) ++ (itoaT v67))), .slice (some ⟨g72, 0, none⟩) 4 4, .int .i64 4, .int .i64 4, .bool false] .nil (by kernel_rfl) (fun b116 => ?_)
  refine thn_n ?_
  refine WP.seq ?_
  refine WP.condF rfl ?_
  refine WP.exit ?_
  refine thn_x ?_
  refine thn_x ?_
  refine blk_hit ?_
  refine thn_n ?_
  refine WP.seq ?_
  refine WP.cut (fun e136 w137 => ∃ (x134 : Bool), (True) ∧ Bp x134 (((bd68_ = true)) ∨ ((¬ (bd68_ = true)) ∧ (0 < ((h66.n : Nat) : Int))) ∨ ((¬ (bd68_ = true)) ∧ (¬ (0 < ((h66.n : Nat) : Int))) ∧ (¬ (((wordsB s).headD ByteArray.empty) = ⟨#[99, 111, 110, 102, 105, 103]⟩))) ∨ ((¬ (bd68_ = true)) ∧ (¬ (0 < ((h66.n : Nat) : Int))) ∧ (((wordsB s).headD ByteArray.empty) = ⟨#[99, 111, 110, 102, 105, 103]⟩) ∧ (¬ (((((((wordsB s).headD ByteArray.empty) ++ ((⟨#[32]⟩ : ByteArray) ++ (itoaT v34))) ++ ((⟨#[32]⟩ : ByteArray) ++ (itoaT v45))) ++ ((⟨#[32]⟩ : ByteArray) ++ (itoaT v56))) ++ ((⟨#[32]⟩ : ByteArray) ++ (itoaT v67))) = s)))) ∧ List.map e136 [2, 7, 61] = [.pointer (some ⟨g3, 0, none⟩), .slice (some ⟨g72, 0, none⟩) 4 4, .bool x134] ∧ Hp w Non [Res.row g72 [.int .i64 v34, .int .i64 v45, .int .i64 v56, .int .i64 v67] 3, Res.row g15 [.slice h66.a h66.n h66.c, .bool bd68_] 77, Res.lst g10 h66 ((((((wordsB s).tail).tail).tail).tail).tail), Res.row g3 [.int .i64 0, .int .i64 0, .int .i64 0] 40] w137) ?_ ?_
  · refine WP.region _ rfl (by kernel_rfl) ?_
    refine OPS.batch 5 {} [.bool bd68_] [0, 2, 5, 6, 7, 8, 45] [.string s, .pointer (some ⟨g3, 0, none⟩), .pointer (some ⟨g15, 0, none⟩), .string ((wordsB s).headD ByteArray.empty), .slice (some ⟨g72, 0, none⟩) 4 4, .string ((((((wordsB s).headD ByteArray.empty) ++ ((⟨#[32]⟩ : ByteArray) ++ (itoaT v34))) ++ ((⟨#[32]⟩ : ByteArray) ++ (itoaT v45))) ++ ((⟨#[32]⟩ : ByteArray) ++ (itoaT v56))) ++ ((⟨#[32]⟩ : ByteArray) ++ (itoaT v67))), .bool bd68_] (.cons (Ld.row1 (P := Tryd.prog) (t := 4) (o := 1) (v := .bool bd68_) hp113.get1 (by kernel_rfl)) .nil) (by kernel_rfl) (fun b118 => ?_)
    by_cases h119 : bd68_ = true
    · refine OPS.batch 0 {} [] [0, 2, 5, 6, 7, 8, 45] [.string s, .pointer (some ⟨g3, 0, none⟩), .pointer (some ⟨g15, 0, none⟩), .string ((wordsB s).headD ByteArray.empty), .slice (some ⟨g72, 0, none⟩) 4 4, .string ((((((wordsB s).headD ByteArray.empty) ++ ((⟨#[32]⟩ : ByteArray) ++ (itoaT v34))) ++ ((⟨#[32]⟩ : ByteArray) ++ (itoaT v45))) ++ ((⟨#[32]⟩ : ByteArray) ++ (itoaT v56))) ++ ((⟨#[32]⟩ : ByteArray) ++ (itoaT v67))), .bool bd68_] .nil (by kernel_rfl) (fun b120 => ?_)
      refine OPS.re [.string s, .pointer (some ⟨g3, 0, none⟩), .pointer (some ⟨g15, 0, none⟩), .string ((wordsB s).headD ByteArray.empty), .slice (some ⟨g72, 0, none⟩) 4 4, .string ((((((wordsB s).headD ByteArray.empty) ++ ((⟨#[32]⟩ : ByteArray) ++ (itoaT v34))) ++ ((⟨#[32]⟩ : ByteArray) ++ (itoaT v45))) ++ ((⟨#[32]⟩ : ByteArray) ++ (itoaT v56))) ++ ((⟨#[32]⟩ : ByteArray) ++ (itoaT v67))), .bool true] (by rw [show bd68_ = true from Bp.var.tt h119]) ?_
      refine OPS.batch 16 { wraps := [52, 56, 61] } [] [2, 7, 61] [.pointer (some ⟨g3, 0, none⟩), .slice (some ⟨g72, 0, none⟩) 4 4, .bool true] .nil (by kernel_rfl) (fun b121 => ?_)
      refine OPS.nil ?_
      refine thn_n ?_
      exact ⟨true, trivial, Bp.of Bp.t (by first | (simp only [h119, iff_false, false_iff, iff_true, true_iff, Classical.not_not, and_true, true_and, and_false, false_and, or_true, true_or, or_false, false_or, not_true_eq_false, not_false_eq_true, and_self, or_self, iff_self]; done) | (simp [h119]; done) | simp_all), by kernel_rfl, hp113⟩
    · refine OPS.batch 0 {} [] [0, 2, 5, 6, 7, 8, 45] [.string s, .pointer (some ⟨g3, 0, none⟩), .pointer (some ⟨g15, 0, none⟩), .string ((wordsB s).headD ByteArray.empty), .slice (some ⟨g72, 0, none⟩) 4 4, .string ((((((wordsB s).headD ByteArray.empty) ++ ((⟨#[32]⟩ : ByteArray) ++ (itoaT v34))) ++ ((⟨#[32]⟩ : ByteArray) ++ (itoaT v45))) ++ ((⟨#[32]⟩ : ByteArray) ++ (itoaT v56))) ++ ((⟨#[32]⟩ : ByteArray) ++ (itoaT v67))), .bool bd68_] .nil (by kernel_rfl) (fun b122 => ?_)
      refine OPS.re [.string s, .pointer (some ⟨g3, 0, none⟩), .pointer (some ⟨g15, 0, none⟩), .string ((wordsB s).headD ByteArray.empty), .slice (some ⟨g72, 0, none⟩) 4 4, .string ((((((wordsB s).headD ByteArray.empty) ++ ((⟨#[32]⟩ : ByteArray) ++ (itoaT v34))) ++ ((⟨#[32]⟩ : ByteArray) ++ (itoaT v45))) ++ ((⟨#[32]⟩ : ByteArray) ++ (itoaT v56))) ++ ((⟨#[32]⟩ : ByteArray) ++ (itoaT v67))), .bool false] (by rw [show bd68_ = false from Bp.var.ff h119]) ?_
      refine OPS.batch 8 { wraps := [52] } [.slice h66.a h66.n h66.c] [0, 2, 6, 7, 8, 53] [.string s, .pointer (some ⟨g3, 0, none⟩), .string ((wordsB s).headD ByteArray.empty), .slice (some ⟨g72, 0, none⟩) 4 4, .string ((((((wordsB s).headD ByteArray.empty) ++ ((⟨#[32]⟩ : ByteArray) ++ (itoaT v34))) ++ ((⟨#[32]⟩ : ByteArray) ++ (itoaT v45))) ++ ((⟨#[32]⟩ : ByteArray) ++ (itoaT v56))) ++ ((⟨#[32]⟩ : ByteArray) ++ (itoaT v67))), .bool (decide (0 < ((h66.n : Nat) : Int)))] (.cons (Ld.row1 (P := Tryd.prog) (t := 59) (o := 0) (v := .slice h66.a h66.n h66.c) hp113.get1 (by kernel_rfl)) .nil) (by kernel_rfl) (fun b123 => ?_)
      by_cases h124 : 0 < ((h66.n : Nat) : Int)
      · refine OPS.batch 0 {} [] [0, 2, 6, 7, 8, 53] [.string s, .pointer (some ⟨g3, 0, none⟩), .string ((wordsB s).headD ByteArray.empty), .slice (some ⟨g72, 0, none⟩) 4 4, .string ((((((wordsB s).headD ByteArray.empty) ++ ((⟨#[32]⟩ : ByteArray) ++ (itoaT v34))) ++ ((⟨#[32]⟩ : ByteArray) ++ (itoaT v45))) ++ ((⟨#[32]⟩ : ByteArray) ++ (itoaT v56))) ++ ((⟨#[32]⟩ : ByteArray) ++ (itoaT v67))), .bool (decide (0 < ((h66.n : Nat) : Int)))] .nil (by kernel_rfl) (fun b125 => ?_)
        refine OPS.re [.string s, .pointer (some ⟨g3, 0, none⟩), .string ((wordsB s).headD ByteArray.empty), .slice (some ⟨g72, 0, none⟩) 4 4, .string ((((((wordsB s).headD ByteArray.empty) ++ ((⟨#[32]⟩ : ByteArray) ++ (itoaT v34))) ++ ((⟨#[32]⟩ : ByteArray) ++ (itoaT v45))) ++ ((⟨#[32]⟩ : ByteArray) ++ (itoaT v56))) ++ ((⟨#[32]⟩ : ByteArray) ++ (itoaT v67))), .bool true] (by rw [show (decide (0 < ((h66.n : Nat) : Int))) = true from Bp.dec.tt h124]) ?_
        refine OPS.batch 8 { wraps := [56, 61] } [] [2, 7, 61] [.pointer (some ⟨g3, 0, none⟩), .slice (some ⟨g72, 0, none⟩) 4 4, .bool true] .nil (by kernel_rfl) (fun b126 => ?_)
        refine OPS.nil ?_
        refine thn_n ?_
        exact ⟨true, trivial, Bp.of Bp.t (by first | (simp only [h119, h124, iff_false, false_iff, iff_true, true_iff, Classical.not_not, and_true, true_and, and_false, false_and, or_true, true_or, or_false, false_or, not_true_eq_false, not_false_eq_true, and_self, or_self, iff_self]; done) | (simp [h119, h124]; done) | simp_all), by kernel_rfl, hp113⟩
      · refine OPS.batch 0 {} [] [0, 2, 6, 7, 8, 53] [.string s, .pointer (some ⟨g3, 0, none⟩), .string ((wordsB s).headD ByteArray.empty), .slice (some ⟨g72, 0, none⟩) 4 4, .string ((((((wordsB s).headD ByteArray.empty) ++ ((⟨#[32]⟩ : ByteArray) ++ (itoaT v34))) ++ ((⟨#[32]⟩ : ByteArray) ++ (itoaT v45))) ++ ((⟨#[32]⟩ : ByteArray) ++ (itoaT v56))) ++ ((⟨#[32]⟩ : ByteArray) ++ (itoaT v67))), .bool (decide (0 < ((h66.n : Nat) : Int)))] .nil (by kernel_rfl) (fun b127 => ?_)
        refine OPS.re [.string s, .pointer (some ⟨g3, 0, none⟩), .string ((wordsB s).headD ByteArray.empty), .slice (some ⟨g72, 0, none⟩) 4 4, .string ((((((wordsB s).headD ByteArray.empty) ++ ((⟨#[32]⟩ : ByteArray) ++ (itoaT v34))) ++ ((⟨#[32]⟩ : ByteArray) ++ (itoaT v45))) ++ ((⟨#[32]⟩ : ByteArray) ++ (itoaT v56))) ++ ((⟨#[32]⟩ : ByteArray) ++ (itoaT v67))), .bool false] (by rw [show (decide (0 < ((h66.n : Nat) : Int))) = false from Bp.dec.ff h124]) ?_
        refine OPS.batch 4 { wraps := [56] } [] [0, 2, 7, 8, 57] [.string s, .pointer (some ⟨g3, 0, none⟩), .slice (some ⟨g72, 0, none⟩) 4 4, .string ((((((wordsB s).headD ByteArray.empty) ++ ((⟨#[32]⟩ : ByteArray) ++ (itoaT v34))) ++ ((⟨#[32]⟩ : ByteArray) ++ (itoaT v45))) ++ ((⟨#[32]⟩ : ByteArray) ++ (itoaT v56))) ++ ((⟨#[32]⟩ : ByteArray) ++ (itoaT v67))), .bool (decide (¬ (((wordsB s).headD ByteArray.empty) = ⟨#[99, 111, 110, 102, 105, 103]⟩)))] .nil (by kernel_rfl) (fun b128 => ?_)
        by_cases h129 : ((wordsB s).headD ByteArray.empty) = ⟨#[99, 111, 110, 102, 105, 103]⟩
        · refine OPS.batch 0 {} [] [0, 2, 7, 8, 57] [.string s, .pointer (some ⟨g3, 0, none⟩), .slice (some ⟨g72, 0, none⟩) 4 4, .string ((((((wordsB s).headD ByteArray.empty) ++ ((⟨#[32]⟩ : ByteArray) ++ (itoaT v34))) ++ ((⟨#[32]⟩ : ByteArray) ++ (itoaT v45))) ++ ((⟨#[32]⟩ : ByteArray) ++ (itoaT v56))) ++ ((⟨#[32]⟩ : ByteArray) ++ (itoaT v67))), .bool (decide (¬ (((wordsB s).headD ByteArray.empty) = ⟨#[99, 111, 110, 102, 105, 103]⟩)))] .nil (by kernel_rfl) (fun b132 => ?_)
          refine OPS.re [.string s, .pointer (some ⟨g3, 0, none⟩), .slice (some ⟨g72, 0, none⟩) 4 4, .string ((((((wordsB s).headD ByteArray.empty) ++ ((⟨#[32]⟩ : ByteArray) ++ (itoaT v34))) ++ ((⟨#[32]⟩ : ByteArray) ++ (itoaT v45))) ++ ((⟨#[32]⟩ : ByteArray) ++ (itoaT v56))) ++ ((⟨#[32]⟩ : ByteArray) ++ (itoaT v67))), .bool false] (by rw [show (decide (¬ (((wordsB s).headD ByteArray.empty) = ⟨#[99, 111, 110, 102, 105, 103]⟩))) = false from Bp.dec.ff (fun k => k h129)]) ?_
          refine OPS.batch 4 { wraps := [61] } [] [2, 7, 61] [.pointer (some ⟨g3, 0, none⟩), .slice (some ⟨g72, 0, none⟩) 4 4, .bool (decide (¬ (((((((wordsB s).headD ByteArray.empty) ++ ((⟨#[32]⟩ : ByteArray) ++ (itoaT v34))) ++ ((⟨#[32]⟩ : ByteArray) ++ (itoaT v45))) ++ ((⟨#[32]⟩ : ByteArray) ++ (itoaT v56))) ++ ((⟨#[32]⟩ : ByteArray) ++ (itoaT v67))) = s)))] .nil (by kernel_rfl) (fun b133 => ?_)
          refine OPS.nil ?_
          refine thn_n ?_
          exact ⟨decide (¬ (((((((wordsB s).headD ByteArray.empty) ++ ((⟨#[32]⟩ : ByteArray) ++ (itoaT v34))) ++ ((⟨#[32]⟩ : ByteArray) ++ (itoaT v45))) ++ ((⟨#[32]⟩ : ByteArray) ++ (itoaT v56))) ++ ((⟨#[32]⟩ : ByteArray) ++ (itoaT v67))) = s)), trivial, Bp.of Bp.dec (by first | (simp only [h119, h124, h129, iff_false, false_iff, iff_true, true_iff, Classical.not_not, and_true, true_and, and_false, false_and, or_true, true_or, or_false, false_or, not_true_eq_false, not_false_eq_true, and_self, or_self, iff_self]; done) | (simp [h119, h124, h129]; done) | simp_all), by kernel_rfl, hp113⟩
        · refine OPS.batch 0 {} [] [0, 2, 7, 8, 57] [.string s, .pointer (some ⟨g3, 0, none⟩), .slice (some ⟨g72, 0, none⟩) 4 4, .string ((((((wordsB s).headD ByteArray.empty) ++ ((⟨#[32]⟩ : ByteArray) ++ (itoaT v34))) ++ ((⟨#[32]⟩ : ByteArray) ++ (itoaT v45))) ++ ((⟨#[32]⟩ : ByteArray) ++ (itoaT v56))) ++ ((⟨#[32]⟩ : ByteArray) ++ (itoaT v67))), .bool (decide (¬ (((wordsB s).headD ByteArray.empty) = ⟨#[99, 111, 110, 102, 105, 103]⟩)))] .nil (by kernel_rfl) (fun b130 => ?_)
          refine OPS.re [.string s, .pointer (some ⟨g3, 0, none⟩), .slice (some ⟨g72, 0, none⟩) 4 4, .string ((((((wordsB s).headD ByteArray.empty) ++ ((⟨#[32]⟩ : ByteArray) ++ (itoaT v34))) ++ ((⟨#[32]⟩ : ByteArray) ++ (itoaT v45))) ++ ((⟨#[32]⟩ : ByteArray) ++ (itoaT v56))) ++ ((⟨#[32]⟩ : ByteArray) ++ (itoaT v67))), .bool true] (by rw [show (decide (¬ (((wordsB s).headD ByteArray.empty) = ⟨#[99, 111, 110, 102, 105, 103]⟩))) = true from Bp.dec.tt h129]) ?_
          refine OPS.batch 4 { wraps := [61] } [] [2, 7, 61] [.pointer (some ⟨g3, 0, none⟩), .slice (some ⟨g72, 0, none⟩) 4 4, .bool true] .nil (by kernel_rfl) (fun b131 => ?_)
          refine OPS.nil ?_
          refine thn_n ?_
          exact ⟨true, trivial, Bp.of Bp.t (by first | (simp only [h119, h124, h129, iff_false, false_iff, iff_true, true_iff, Classical.not_not, and_true, true_and, and_false, false_and, or_true, true_or, or_false, false_or, not_true_eq_false, not_false_eq_true, and_self, or_self, iff_self]; done) | (simp [h119, h124, h129]; done) | simp_all), by kernel_rfl, hp113⟩
  rintro e136 w137 ⟨x134, hd139, hb135, hE140, hp138⟩
  obtain ⟨b141, rfl⟩ := toMk hE140
  clear hE140
  clear hd139
  refine WP.test (p := ((bd68_ = true)) ∨ ((¬ (bd68_ = true)) ∧ (0 < ((h66.n : Nat) : Int))) ∨ ((¬ (bd68_ = true)) ∧ (¬ (0 < ((h66.n : Nat) : Int))) ∧ (¬ (((wordsB s).headD ByteArray.empty) = ⟨#[99, 111, 110, 102, 105, 103]⟩))) ∨ ((¬ (bd68_ = true)) ∧ (¬ (0 < ((h66.n : Nat) : Int))) ∧ (((wordsB s).headD ByteArray.empty) = ⟨#[99, 111, 110, 102, 105, 103]⟩) ∧ (¬ (((((((wordsB s).headD ByteArray.empty) ++ ((⟨#[32]⟩ : ByteArray) ++ (itoaT v34))) ++ ((⟨#[32]⟩ : ByteArray) ++ (itoaT v45))) ++ ((⟨#[32]⟩ : ByteArray) ++ (itoaT v56))) ++ ((⟨#[32]⟩ : ByteArray) ++ (itoaT v67))) = s)))) rfl hb135 (fun h142 => ?_) (fun h142 => ?_)
  · refine WP.seq ?_
    refine WP.region _ rfl (by kernel_rfl) ?_
    refine OPS.batch 1 {} [] [2, 62] [.pointer (some ⟨g3, 0, none⟩), .agg #[.int .i64 0, .int .i64 0, .int .i64 0]] .nil (by kernel_rfl) (fun b143 => ?_)
    refine OPS.cons (opStep.store3 hp138 rfl [.int .i64 0, .int .i64 0, .int .i64 0] [.int .i64 0, .int .i64 0, .int .i64 0] (by kernel_rfl) (fun w144 hp145 => ?_))
    refine OPS.batch 2 {} [] [2, 3, 4] [.pointer (some ⟨g3, 0, none⟩), .int .i64 0, .int .i64 82] .nil (by kernel_rfl) (fun b146 => ?_)
    refine OPS.nil ?_
    refine thn_n ?_
    refine WP.ret ?_
    refine thn_r ?_
    refine bodyQ.of _ rfl [.agg #[.int .i64 0, .int .i64 0, .int .i64 0], .int .i64 0, .int .i64 82] ⟨⟨_, rfl, (show Ld Tryd.prog w144 40 ⟨g3, 0, none⟩ (.agg #[.int .i64 0, .int .i64 0, .int .i64 0]) from Ld.rowN (cs := [.int .i64 0, .int .i64 0, .int .i64 0]) hp145.get3 (by kernel_rfl))⟩, rfl, rfl, trivial⟩ ?_
    have hlt := (lst_len hp145.get2).1
    exact ⟨⟨0, 0, 0⟩, 0, 82, rfl, .inl ⟨conf_no (s := s) rfl hn36 hn47 hn58 hn69 (by rintro ⟨q1, q2, q3, q4⟩; rcases h142 with h | ⟨_, h⟩ | ⟨_, _, h⟩ | ⟨_, _, _, h⟩; exact absurd (q1.symm.trans h) (by decide); exact q2 (by omega); exact h q3; exact h q4), rfl, rfl, rfl⟩, hp145.fr⟩
  · refine WP.skip ?_
    refine thn_n ?_
    refine WP.seq ?_
    have hp147 := hp138.drew
    refine WP.held (fun w148 => Ld Tryd.prog w148 3 ⟨g72, 0, none⟩ (.int .i64 v34) ∧ Ld Tryd.prog w148 3 ⟨g72, 1, none⟩ (.int .i64 v45) ∧ Ld Tryd.prog w148 3 ⟨g72, 2, none⟩ (.int .i64 v56) ∧ True) [11] [(0, true), (1, true), (2, true), (3, true), (4, true), (5, true), (6, true), (7, true), (8, true), (9, true), (10, false), (11, false)] (np_thn np_body) (by kernel_rfl) ?_
    refine HOPS.take 10 {} [.int .i64 v34, .int .i64 v45, .int .i64 v56] [2, 7, 72] [.pointer (some ⟨g3, 0, none⟩), .slice (some ⟨g72, 0, none⟩) 4 4, .agg #[.int .i64 v34, .int .i64 v45, .int .i64 v56]] (by kernel_rfl) ⟨(show Ld Tryd.prog w137.drew 3 ⟨g72, 0, none⟩ (.int .i64 v34) from (Ld.row1 (P := Tryd.prog) (t := 3) (o := 0) (v := .int .i64 v34) hp147.get0 (by kernel_rfl))), (show Ld Tryd.prog w137.drew 3 ⟨g72, 1, none⟩ (.int .i64 v45) from (Ld.row1 (P := Tryd.prog) (t := 3) (o := 1) (v := .int .i64 v45) hp147.get0 (by kernel_rfl))), (show Ld Tryd.prog w137.drew 3 ⟨g72, 2, none⟩ (.int .i64 v56) from (Ld.row1 (P := Tryd.prog) (t := 3) (o := 2) (v := .int .i64 v56) hp147.get0 (by kernel_rfl))), trivial⟩ (fun w149 hS150 => QB.mk (.cons (show InB (0) (4) from ⟨by omega, by omega⟩) (.cons (show (some (⟨g72, 0, none⟩ : Addr)).isSome = true from rfl) (.cons (hS150.1) (.cons (show InB (1) (4) from ⟨by omega, by omega⟩) (.cons (show (some (⟨g72, 0, none⟩ : Addr)).isSome = true from rfl) (.cons (hS150.2.1) (.cons (show InB (2) (4) from ⟨by omega, by omega⟩) (.cons (show (some (⟨g72, 0, none⟩ : Addr)).isSome = true from rfl) (.cons (hS150.2.2.1) .nil))))))))) (by kernel_rfl)) (fun b151 => ?_)
    refine HOPS.eff _ rfl (opStep.alloc hp147 [.int .i64 0, .int .i64 0, .int .i64 0] (by kernel_rfl) (fun g154 w152 hp153 => ?_))
    refine ⟨.inr ⟨(show Ld Tryd.prog w152 3 ⟨g72, 0, none⟩ (.int .i64 v34) from (Ld.row1 (P := Tryd.prog) (t := 3) (o := 0) (v := .int .i64 v34) hp153.get1 (by kernel_rfl))), (show Ld Tryd.prog w152 3 ⟨g72, 1, none⟩ (.int .i64 v45) from (Ld.row1 (P := Tryd.prog) (t := 3) (o := 1) (v := .int .i64 v45) hp153.get1 (by kernel_rfl))), (show Ld Tryd.prog w152 3 ⟨g72, 2, none⟩ (.int .i64 v56) from (Ld.row1 (P := Tryd.prog) (t := 3) (o := 2) (v := .int .i64 v56) hp153.get1 (by kernel_rfl))), trivial⟩, ?_⟩
    refine HOPS.eff _ rfl (opStep.store0 hp153 rfl [.int .i64 v34, .int .i64 v45, .int .i64 v56] [.int .i64 v34, .int .i64 v45, .int .i64 v56] (by kernel_rfl) (fun w155 hp156 => ?_))
    refine ⟨.inl rfl, ?_⟩
    refine HOPS.nil ?_
    refine thn_n ?_
    refine WP.seq ?_
    refine WP.seq ?_
    refine WP.region _ rfl (by kernel_rfl) ?_
    refine OPS.batch 1 {} [.agg #[.int .i64 v34, .int .i64 v45, .int .i64 v56]] [2, 7, 11, 73] [.pointer (some ⟨g3, 0, none⟩), .slice (some ⟨g72, 0, none⟩) 4 4, .pointer (some ⟨g154, 0, none⟩), .agg #[.int .i64 v34, .int .i64 v45, .int .i64 v56]] (.cons (show Ld Tryd.prog w155 40 ⟨g154, 0, none⟩ (.agg #[.int .i64 v34, .int .i64 v45, .int .i64 v56]) from Ld.rowN (cs := [.int .i64 v34, .int .i64 v45, .int .i64 v56]) hp156.get0 (by kernel_rfl)) .nil) (by kernel_rfl) (fun b157 => ?_)
    refine OPS.cons (opStep.call (some 74) [.agg #[.int .i64 v34, .int .i64 v45, .int .i64 v56]] (by kernel_rfl) (q_Check (⟨v34, v45, v56⟩ : GConfig) _) ?_)
    rintro _ w160 ⟨rfl, hf161⟩
    refine ⟨_, rfl, ?_⟩
    have hp162 := hp156.step hf161
    refine OPS.batch 1 {} [] [2, 7, 11, 12] [.pointer (some ⟨g3, 0, none⟩), .slice (some ⟨g72, 0, none⟩) 4 4, .pointer (some ⟨g154, 0, none⟩), .int .i64 (qChk (⟨v34, v45, v56⟩ : GConfig))] .nil (by kernel_rfl) (fun b163 => ?_)
    refine OPS.nil ?_
    refine thn_n ?_
    refine WP.seq ?_
    refine WP.pure {} [] [2, 7, 11, 12, 76] [.pointer (some ⟨g3, 0, none⟩), .slice (some ⟨g72, 0, none⟩) 4 4, .pointer (some ⟨g154, 0, none⟩), .int .i64 (qChk (⟨v34, v45, v56⟩ : GConfig)), .bool (decide (¬ ((qChk (⟨v34, v45, v56⟩ : GConfig)) = 0)))] .nil (by kernel_rfl) (fun b164 => ?_)
    refine thn_n ?_
    refine WP.test (p := ¬ ((qChk (⟨v34, v45, v56⟩ : GConfig)) = 0)) rfl Bp.dec (fun h165 => ?_) (fun h165 => ?_)
    · refine WP.seq ?_
      refine WP.region _ rfl (by kernel_rfl) ?_
      refine OPS.batch 2 {} [] [2, 77, 78] [.pointer (some ⟨g3, 0, none⟩), .agg #[.int .i64 0, .int .i64 0, .int .i64 0], .int .i64 (qChk (⟨v34, v45, v56⟩ : GConfig))] .nil (by kernel_rfl) (fun b166 => ?_)
      refine OPS.cons (opStep.store4 hp162 rfl [.int .i64 0, .int .i64 0, .int .i64 0] [.int .i64 0, .int .i64 0, .int .i64 0] (by kernel_rfl) (fun w167 hp168 => ?_))
      refine OPS.batch 2 {} [] [2, 3, 4] [.pointer (some ⟨g3, 0, none⟩), .int .i64 0, .int .i64 (qChk (⟨v34, v45, v56⟩ : GConfig))] .nil (by kernel_rfl) (fun b169 => ?_)
      refine OPS.nil ?_
      refine thn_n ?_
      refine WP.ret ?_
      refine thn_r ?_
      refine bodyQ.of _ rfl [.agg #[.int .i64 0, .int .i64 0, .int .i64 0], .int .i64 0, .int .i64 (qChk (⟨v34, v45, v56⟩ : GConfig))] ⟨⟨_, rfl, (show Ld Tryd.prog w167 40 ⟨g3, 0, none⟩ (.agg #[.int .i64 0, .int .i64 0, .int .i64 0]) from Ld.rowN (cs := [.int .i64 0, .int .i64 0, .int .i64 0]) hp168.get4 (by kernel_rfl))⟩, rfl, rfl, trivial⟩ ?_
      have hk1 : ((wordsB s).headD ByteArray.empty) = (⟨#[99, 111, 110, 102, 105, 103]⟩ : ByteArray) := by apply Classical.byContradiction; intro q; apply h142; by_cases q1 : bd68_ = true; exact .inl q1; by_cases q2 : 0 < ((h66.n : Nat) : Int); exact .inr (.inl ⟨q1, q2⟩); exact .inr (.inr (.inl ⟨q1, q2, q⟩))
      have hk2 := fun q => h142 (by by_cases q1 : bd68_ = true; exact .inl q1; by_cases q2 : 0 < ((h66.n : Nat) : Int); exact .inr (.inl ⟨q1, q2⟩); exact .inr (.inr (.inr ⟨q1, q2, hk1, q⟩)))
      have hcf := conf_yes hk1 (Classical.byContradiction hk2)
      have hno : ¬ okCfg ⟨v34, v45, v56⟩ := fun q => h165 (qChk_ok q)
      refine ⟨⟨0, 0, 0⟩, 0, 40, by simp only [pack]; rw [qChk_no hno]; rfl, .inr ⟨v34, v45, v56, v67, ⟨hn36a, hn36b⟩, ⟨hn47a, hn47b⟩, ⟨hn58a, hn58b⟩, ⟨hn69a, hn69b⟩, hcf, .inl ⟨hno, rfl, rfl, rfl⟩⟩, hp168.fr⟩
    · replace h165 := Classical.not_not.1 h165
      refine WP.skip ?_
      refine thn_n ?_
      refine WP.seq ?_
      refine WP.cut (fun e179 w180 => ∃ (x177 : Bool), (True) ∧ Bp x177 (((v67 < 0)) ∨ ((¬ (v67 < 0)) ∧ (255 < v67))) ∧ List.map e179 [2, 7, 11, 88] = [.pointer (some ⟨g3, 0, none⟩), .slice (some ⟨g72, 0, none⟩) 4 4, .pointer (some ⟨g154, 0, none⟩), .bool x177] ∧ Hp w Non [Res.row g154 [.int .i64 v34, .int .i64 v45, .int .i64 v56] 40, Res.row g72 [.int .i64 v34, .int .i64 v45, .int .i64 v56, .int .i64 v67] 3, Res.row g15 [.slice h66.a h66.n h66.c, .bool bd68_] 77, Res.lst g10 h66 ((((((wordsB s).tail).tail).tail).tail).tail), Res.row g3 [.int .i64 0, .int .i64 0, .int .i64 0] 40] w180) ?_ ?_
      · refine WP.region _ rfl (by kernel_rfl) ?_
        refine OPS.batch 5 {} [.int .i64 v67] [2, 7, 11, 83] [.pointer (some ⟨g3, 0, none⟩), .slice (some ⟨g72, 0, none⟩) 4 4, .pointer (some ⟨g154, 0, none⟩), .bool (decide (v67 < 0))] (.cons (show InB (3) (4) from ⟨by omega, by omega⟩) (.cons (show (some (⟨g72, 0, none⟩ : Addr)).isSome = true from rfl) (.cons (Ld.row1 (P := Tryd.prog) (t := 3) (o := 3) (v := .int .i64 v67) hp162.get1 (by kernel_rfl)) .nil))) (by kernel_rfl) (fun b171 => ?_)
        by_cases h172 : v67 < 0
        · refine OPS.batch 0 {} [] [2, 7, 11, 83] [.pointer (some ⟨g3, 0, none⟩), .slice (some ⟨g72, 0, none⟩) 4 4, .pointer (some ⟨g154, 0, none⟩), .bool (decide (v67 < 0))] .nil (by kernel_rfl) (fun b173 => ?_)
          refine OPS.re [.pointer (some ⟨g3, 0, none⟩), .slice (some ⟨g72, 0, none⟩) 4 4, .pointer (some ⟨g154, 0, none⟩), .bool true] (by rw [show (decide (v67 < 0)) = true from Bp.dec.tt h172]) ?_
          refine OPS.batch 5 { wraps := [88] } [] [2, 7, 11, 88] [.pointer (some ⟨g3, 0, none⟩), .slice (some ⟨g72, 0, none⟩) 4 4, .pointer (some ⟨g154, 0, none⟩), .bool true] .nil (by kernel_rfl) (fun b174 => ?_)
          refine OPS.nil ?_
          refine thn_n ?_
          exact ⟨true, trivial, Bp.of Bp.t (by first | (simp only [h172, iff_false, false_iff, iff_true, true_iff, Classical.not_not, and_true, true_and, and_false, false_and, or_true, true_or, or_false, false_or, not_true_eq_false, not_false_eq_true, and_self, or_self, iff_self]; done) | (simp [h172]; done) | simp_all), by kernel_rfl, hp162⟩
        · refine OPS.batch 0 {} [] [2, 7, 11, 83] [.pointer (some ⟨g3, 0, none⟩), .slice (some ⟨g72, 0, none⟩) 4 4, .pointer (some ⟨g154, 0, none⟩), .bool (decide (v67 < 0))] .nil (by kernel_rfl) (fun b175 => ?_)
          refine OPS.re [.pointer (some ⟨g3, 0, none⟩), .slice (some ⟨g72, 0, none⟩) 4 4, .pointer (some ⟨g154, 0, none⟩), .bool false] (by rw [show (decide (v67 < 0)) = false from Bp.dec.ff h172]) ?_
          refine OPS.batch 5 { wraps := [88] } [.int .i64 v67] [2, 7, 11, 88] [.pointer (some ⟨g3, 0, none⟩), .slice (some ⟨g72, 0, none⟩) 4 4, .pointer (some ⟨g154, 0, none⟩), .bool (decide (255 < v67))] (.cons (show InB (3) (4) from ⟨by omega, by omega⟩) (.cons (show (some (⟨g72, 0, none⟩ : Addr)).isSome = true from rfl) (.cons (Ld.row1 (P := Tryd.prog) (t := 3) (o := 3) (v := .int .i64 v67) hp162.get1 (by kernel_rfl)) .nil))) (by kernel_rfl) (fun b176 => ?_)
          refine OPS.nil ?_
          refine thn_n ?_
          exact ⟨decide (255 < v67), trivial, Bp.of Bp.dec (by first | (simp only [h172, iff_false, false_iff, iff_true, true_iff, Classical.not_not, and_true, true_and, and_false, false_and, or_true, true_or, or_false, false_or, not_true_eq_false, not_false_eq_true, and_self, or_self, iff_self]; done) | (simp [h172]; done) | simp_all), by kernel_rfl, hp162⟩
      rintro e179 w180 ⟨x177, hd182, hb178, hE183, hp181⟩
      obtain ⟨b184, rfl⟩ := toMk hE183
      clear hE183
      clear hd182
      refine WP.test (p := ((v67 < 0)) ∨ ((¬ (v67 < 0)) ∧ (255 < v67))) rfl hb178 (fun h185 => ?_) (fun h185 => ?_)
      · refine WP.seq ?_
        refine WP.region _ rfl (by kernel_rfl) ?_
        refine OPS.batch 1 {} [] [2, 89] [.pointer (some ⟨g3, 0, none⟩), .agg #[.int .i64 0, .int .i64 0, .int .i64 0]] .nil (by kernel_rfl) (fun b186 => ?_)
        refine OPS.cons (opStep.store4 hp181 rfl [.int .i64 0, .int .i64 0, .int .i64 0] [.int .i64 0, .int .i64 0, .int .i64 0] (by kernel_rfl) (fun w187 hp188 => ?_))
        refine OPS.batch 2 {} [] [2, 3, 4] [.pointer (some ⟨g3, 0, none⟩), .int .i64 0, .int .i64 1] .nil (by kernel_rfl) (fun b189 => ?_)
        refine OPS.nil ?_
        refine thn_n ?_
        refine WP.ret ?_
        refine thn_r ?_
        refine bodyQ.of _ rfl [.agg #[.int .i64 0, .int .i64 0, .int .i64 0], .int .i64 0, .int .i64 1] ⟨⟨_, rfl, (show Ld Tryd.prog w187 40 ⟨g3, 0, none⟩ (.agg #[.int .i64 0, .int .i64 0, .int .i64 0]) from Ld.rowN (cs := [.int .i64 0, .int .i64 0, .int .i64 0]) hp188.get4 (by kernel_rfl))⟩, rfl, rfl, trivial⟩ ?_
        have hk1 : ((wordsB s).headD ByteArray.empty) = (⟨#[99, 111, 110, 102, 105, 103]⟩ : ByteArray) := by apply Classical.byContradiction; intro q; apply h142; by_cases q1 : bd68_ = true; exact .inl q1; by_cases q2 : 0 < ((h66.n : Nat) : Int); exact .inr (.inl ⟨q1, q2⟩); exact .inr (.inr (.inl ⟨q1, q2, q⟩))
        have hk2 := fun q => h142 (by by_cases q1 : bd68_ = true; exact .inl q1; by_cases q2 : 0 < ((h66.n : Nat) : Int); exact .inr (.inl ⟨q1, q2⟩); exact .inr (.inr (.inr ⟨q1, q2, hk1, q⟩)))
        have hcf := conf_yes hk1 (Classical.byContradiction hk2)
        have hok : okCfg ⟨v34, v45, v56⟩ := Classical.byContradiction fun q => absurd ((qChk_no q).symm.trans h165) (by decide)
        exact ⟨⟨0, 0, 0⟩, 0, 1, rfl, .inr ⟨v34, v45, v56, v67, ⟨hn36a, hn36b⟩, ⟨hn47a, hn47b⟩, ⟨hn58a, hn58b⟩, ⟨hn69a, hn69b⟩, hcf, .inr (.inl ⟨hok, by omega, rfl, rfl, rfl⟩)⟩, hp188.fr⟩
      · refine WP.skip ?_
        refine thn_n ?_
        refine WP.seq ?_
        have hp190 := hp181.drew
        refine WP.held (fun w191 => Ld Tryd.prog w191 40 ⟨g154, 0, none⟩ (.agg #[.int .i64 v34, .int .i64 v45, .int .i64 v56]) ∧ Ld Tryd.prog w191 3 ⟨g72, 3, none⟩ (.int .i64 v67) ∧ True) [] [(0, true), (1, true), (2, true), (3, true), (4, false), (5, true), (6, true)] (np_thn np_body) (by kernel_rfl) ?_
        refine HOPS.take 4 {} [.agg #[.int .i64 v34, .int .i64 v45, .int .i64 v56], .int .i64 v67] [2, 90, 93] [.pointer (some ⟨g3, 0, none⟩), .agg #[.int .i64 v34, .int .i64 v45, .int .i64 v56], .int .i64 v67] (by kernel_rfl) ⟨(show Ld Tryd.prog w180.drew 40 ⟨g154, 0, none⟩ (.agg #[.int .i64 v34, .int .i64 v45, .int .i64 v56]) from (show Ld Tryd.prog w180.drew 40 ⟨g154, 0, none⟩ (.agg #[.int .i64 v34, .int .i64 v45, .int .i64 v56]) from Ld.rowN (cs := [.int .i64 v34, .int .i64 v45, .int .i64 v56]) hp190.get0 (by kernel_rfl))), (show Ld Tryd.prog w180.drew 3 ⟨g72, 3, none⟩ (.int .i64 v67) from (Ld.row1 (P := Tryd.prog) (t := 3) (o := 3) (v := .int .i64 v67) hp190.get1 (by kernel_rfl))), trivial⟩ (fun w192 hS193 => QB.mk (.cons (hS193.1) (.cons (show InB (3) (4) from ⟨by omega, by omega⟩) (.cons (show (some (⟨g72, 0, none⟩ : Addr)).isSome = true from rfl) (.cons (hS193.2.1) .nil)))) (by kernel_rfl)) (fun b194 => ?_)
        refine HOPS.eff _ rfl (opStep.store4 hp190 rfl [.int .i64 v34, .int .i64 v45, .int .i64 v56] [.int .i64 v34, .int .i64 v45, .int .i64 v56] (by kernel_rfl) (fun w195 hp196 => ?_))
        refine ⟨.inr ⟨(show Ld Tryd.prog w195 40 ⟨g154, 0, none⟩ (.agg #[.int .i64 v34, .int .i64 v45, .int .i64 v56]) from (show Ld Tryd.prog w195 40 ⟨g154, 0, none⟩ (.agg #[.int .i64 v34, .int .i64 v45, .int .i64 v56]) from Ld.rowN (cs := [.int .i64 v34, .int .i64 v45, .int .i64 v56]) hp196.get0 (by kernel_rfl))), (show Ld Tryd.prog w195 3 ⟨g72, 3, none⟩ (.int .i64 v67) from (Ld.row1 (P := Tryd.prog) (t := 3) (o := 3) (v := .int .i64 v67) hp196.get1 (by kernel_rfl))), trivial⟩, ?_⟩
        refine HOPS.take 2 {} [] [2, 3, 4] [.pointer (some ⟨g3, 0, none⟩), .int .i64 v67, .int .i64 0] (by kernel_rfl) ⟨(show Ld Tryd.prog w195 40 ⟨g154, 0, none⟩ (.agg #[.int .i64 v34, .int .i64 v45, .int .i64 v56]) from (show Ld Tryd.prog w195 40 ⟨g154, 0, none⟩ (.agg #[.int .i64 v34, .int .i64 v45, .int .i64 v56]) from Ld.rowN (cs := [.int .i64 v34, .int .i64 v45, .int .i64 v56]) hp196.get0 (by kernel_rfl))), (show Ld Tryd.prog w195 3 ⟨g72, 3, none⟩ (.int .i64 v67) from (Ld.row1 (P := Tryd.prog) (t := 3) (o := 3) (v := .int .i64 v67) hp196.get1 (by kernel_rfl))), trivial⟩ (fun w197 hS198 => QB.mk .nil (by kernel_rfl)) (fun b199 => ?_)
        refine HOPS.nil ?_
        refine thn_n ?_
        refine WP.ret ?_
        refine bodyQ.of _ rfl [.agg #[.int .i64 v34, .int .i64 v45, .int .i64 v56], .int .i64 v67, .int .i64 0] ⟨⟨_, rfl, (show Ld Tryd.prog w195 40 ⟨g3, 0, none⟩ (.agg #[.int .i64 v34, .int .i64 v45, .int .i64 v56]) from Ld.rowN (cs := [.int .i64 v34, .int .i64 v45, .int .i64 v56]) hp196.get4 (by kernel_rfl))⟩, rfl, rfl, trivial⟩ ?_
        have hk1 : ((wordsB s).headD ByteArray.empty) = (⟨#[99, 111, 110, 102, 105, 103]⟩ : ByteArray) := by apply Classical.byContradiction; intro q; apply h142; by_cases q1 : bd68_ = true; exact .inl q1; by_cases q2 : 0 < ((h66.n : Nat) : Int); exact .inr (.inl ⟨q1, q2⟩); exact .inr (.inr (.inl ⟨q1, q2, q⟩))
        have hk2 := fun q => h142 (by by_cases q1 : bd68_ = true; exact .inl q1; by_cases q2 : 0 < ((h66.n : Nat) : Int); exact .inr (.inl ⟨q1, q2⟩); exact .inr (.inr (.inr ⟨q1, q2, hk1, q⟩)))
        have hcf := conf_yes hk1 (Classical.byContradiction hk2)
        have hok : okCfg ⟨v34, v45, v56⟩ := Classical.byContradiction fun q => absurd ((qChk_no q).symm.trans h165) (by decide)
        exact ⟨⟨v34, v45, v56⟩, v67, 0, rfl, .inr ⟨v34, v45, v56, v67, ⟨hn36a, hn36b⟩, ⟨hn47a, hn47b⟩, ⟨hn58a, hn58b⟩, ⟨hn69a, hn69b⟩, hcf, .inr (.inr ⟨hok, by omega, by omega, rfl, rfl, rfl⟩)⟩, hp196.fr⟩

end Go.Proofs.YtpmcjhjlajmljaaDoorRRRR.K
