/- Texts of this claim, merged: what the program's functions compute, and the rules that the walks use. -/
import Derived.Test.YtbpedjefoajegaaDoorProg
import Derived.Test.YtbpedjefoajegaaDoorZ1
import Derived.Test.YtbpedjefoajegaaDoorZ5
namespace Go.Proofs.YtbpedjefoajegaaDoor.K
open Go Go.Proofs Go.RowKit
set_option linter.unusedVariables false
set_option linter.unusedSimpArgs false
set_option maxRecDepth 20000
set_option maxHeartbeats 4000000
noncomputable abbrev qh0 := (.agg #[.string ⟨#[]⟩, bF, bF, bF, bF, bF, bF] : Go.Value)
noncomputable abbrev qh1 := (.agg #[.string ⟨#[112, 117, 116]⟩, bT, bF, bT, bT, bF, bF] : Go.Value)
noncomputable abbrev qh2 := (.agg #[.string ⟨#[103, 101, 116]⟩, bT, bF, bT, bF, bF, bF] : Go.Value)
noncomputable abbrev qh3 := (.agg #[.string ⟨#[99, 97, 110, 99, 101, 108]⟩, bT, bF, bF, bF, bF, bF] : Go.Value)
noncomputable abbrev qh4 := (.agg #[.string ⟨#[116, 105, 99, 107]⟩, bT, bF, bF, bF, bF, bF] : Go.Value)
noncomputable abbrev qh5 := (.agg #[.string ⟨#[115, 116, 111, 112]⟩, bT, bF, bF, bF, bF, bF] : Go.Value)
noncomputable abbrev qh6 := (.agg #[.string ⟨#[100, 101, 108, 105, 118, 101, 114]⟩, bT, bF, bF, bF, bF, bF] : Go.Value)
noncomputable abbrev qh7 := (.agg #[.string ⟨#[100, 114, 111, 112]⟩, bT, bF, bF, bF, bF, bF] : Go.Value)
noncomputable abbrev qh8 := (.agg #[.string ⟨#[100, 111, 117, 98, 108, 101]⟩, bT, bF, bF, bF, bF, bF] : Go.Value)
noncomputable abbrev qh9 := (.agg #[.string ⟨#[98, 117, 114, 115, 116]⟩, bT, bT, bF, bF, bT, bF] : Go.Value)
noncomputable abbrev qh10 := (.agg #[.string ⟨#[99, 117, 116]⟩, bT, bT, bF, bF, bF, bF] : Go.Value)
noncomputable abbrev qh11 := (.agg #[.string ⟨#[108, 111, 115, 101]⟩, bT, bF, bF, bF, bF, bF] : Go.Value)
noncomputable abbrev qh12 := (.agg #[.string ⟨#[99, 114, 97, 115, 104]⟩, bT, bF, bF, bF, bF, bT] : Go.Value)
noncomputable abbrev qh13 := (.agg #[.string ⟨#[115, 116, 97, 114, 116]⟩, bT, bF, bF, bF, bF, bF] : Go.Value)
noncomputable abbrev qh14 := (.agg #[.string ⟨#[100, 105, 101]⟩, bT, bT, bF, bF, bF, bT] : Go.Value)
noncomputable abbrev qh15 := (.agg #[.string ⟨#[99, 111, 109, 112, 97, 99, 116]⟩, bT, bF, bF, bF, bF, bF] : Go.Value)
noncomputable abbrev qh16 := (.agg #[.string ⟨#[114, 111, 117, 110, 100]⟩, bF, bT, bF, bF, bF, bT] : Go.Value)

theorem sc_test (f : Gscript_form) (word : ByteArray) (b : Nat) (w : World) (hb : (Res.row b [.string word] 9).holds w) :
  Calls Tryd.prog 47 #[Gscript_form.val f, .pointer (some ⟨b, 0, none⟩)] w (fun r_ w' => ∃ f_, r_ = .returned (.bool f_) ∧ Bp f_ (f.word = word) ∧ Fram Non w w') := by
 refine calls_of Tryd.func47 rfl 8 rfl (by simp) ?_
 have hp0 := Hp.init w
 have he0 : List.map (env0 [Gscript_form.val f, pP b]) [0, 1] = [Gscript_form.val f, pP b] := by kernel_rfl
 obtain ⟨b0, he0⟩ := toMk he0
 rw [he0]
 clear he0
 refine WP.seq (wR ?_)
 refine OPS.cons (opStep.box hp0 [.string f.word, .bool f.a, .bool f.b, .bool f.key, .bool f.value, .bool f.pattern, .bool f.list] (by kernel_rfl) (fun g3 w1 hp2 => ?_))
 refine oP 1 [1, 2] [pP b, pP g3] fun b4 => ?_
 refine OPS.nil (thn_n (WP.seq (wQ {} [.string f.word, .string word] [3] [.bool (decide (f.word = word))] (.cons (l1 9 0 (.string f.word) hp2.get0) (.cons (l1 9 0 (.string word) (row_at hb hp2.fr)) .nil)) fun b5 => ?_)))
 refine thn_n (WP.ret ?_)
 refine bodyQ.of _ rfl [.bool (decide (f.word = word))] ⟨rfl, trivial⟩ ?_
 exact ⟨_, rfl, Bp.of Bp.dec (by first | rfl | simp), hp2.fr⟩

theorem sc_index (word : ByteArray) (b : Nat) (w : World) (hl : LibS w) (hb : (Res.row b [.string word] 9).holds w) :
  Calls Tryd.prog 46 #[.slice (some ⟨0, 0, none⟩) 17 17, .func (.func 47) #[] #[.pointer (some ⟨b, 0, none⟩)]] w (fun r_ w' => r_ = .returned (.int .i64 (kOf word)) ∧ Fram Non w w') := by
 refine calls_of Tryd.func46 rfl 19 rfl (by simp) ?_
 have hp0 := Hp.init w
 have he0 : List.map (env0 [.slice (some ⟨0, 0, none⟩) 17 17, .func (.func 47) #[] #[pP b]]) [0, 1] = [.slice (some ⟨0, 0, none⟩) 17 17, .func (.func 47) #[] #[pP b]] := by kernel_rfl
 obtain ⟨b0, he0⟩ := toMk he0
 rw [he0]
 clear he0
 refine WP.seq (wP [0, 1] [.slice (some ⟨0, 0, none⟩) 17 17, .func (.func 47) #[] #[pP b]] fun b1 => ?_)
 refine thn_n (WP.seq (WP.seq (wP [0, 1, 7, 8] [.slice (some ⟨0, 0, none⟩) 17 17, .func (.func 47) #[] #[pP b], iI 17, iI 0] fun b2 => ?_)))
 refine thn_n (WP.block ?_)
 refine WP.rounds 18 ?_
 refine RND.step ?_
 refine WP.seq (wP [0, 1, 7, 8, 9] [.slice (some ⟨0, 0, none⟩) 17 17, .func (.func 47) #[] #[pP b], iI 17, iI 0, bT] fun b3 => ?_)
 refine thn_n (WP.seq (WP.condT rfl (WP.skip (thn_n (WP.seq (WP.block (WP.seq (wP [0, 1, 5, 7, 8] [.slice (some ⟨0, 0, none⟩) 17 17, .func (.func 47) #[] #[pP b], iI 0, iI 17, iI 0] fun b4 => ?_))))))))
 refine thn_n (WP.seq (wR (oQ 5 {} [qh0] [0, 1, 5, 7, 8, 11, 15] [.slice (some ⟨0, 0, none⟩) 17 17, .func (.func 47) #[] #[pP b], iI 0, iI 17, iI 0, .func (.func 47) #[] #[pP b], qh0] (.cons (show InB (0) (17) from ⟨by omega, by omega⟩) (.cons (show (some (⟨0, 0, none⟩ : Addr)).isSome = true from rfl) (.cons (lN 56 0 [.string ⟨#[]⟩, bF, bF, bF, bF, bF, bF] (row_at hl.tab hp0.fr)) .nil))) fun b5 => ?_)))
 refine OPS.cons (opStep.callV (some 16) [qh0, pP b] rfl (by kernel_rfl) (sc_test (⟨⟨#[]⟩, false, false, false, false, false, false⟩ : Gscript_form) word b _ (row_at hb hp0.fr)) ?_)
 rintro _ w8 ⟨b11, rfl, hb12, hf9⟩
 refine ⟨_, rfl, ?_⟩
 have hp10 := hp0.step hf9
 refine OPS.nil (thn_n ?_)
 refine WP.test (p := (⟨#[]⟩ : ByteArray) = word) rfl hb12 (fun h13 => ?_) (fun h13 => ?_)
 ·refine WP.seq (wP [4] [iI 0] fun b14 => ?_)
  refine thn_n (WP.ret ?_)
  refine blk_r ?_
  refine thn_r (thn_r ?_)
  refine blk_r ?_
  refine thn_r ?_
  refine bodyQ.of _ rfl [iI 0] ⟨rfl, trivial⟩ ?_
  exact ⟨by simp only [pack]; rw [show kOf word = 0 from by have e := h13; rw [← e]; decide +kernel], hp10.fr⟩
 ·refine WP.skip (blk_n (thn_n (wQ {} [] [0, 1, 7, 8] [.slice (some ⟨0, 0, none⟩) 17 17, .func (.func 47) #[] #[pP b], iI 17, iI 1] (.cons (show Rng .i64 (1) from Rng.i64 (by omega)) .nil) fun b15 => ?_)))
  refine thn_n ?_
  refine RND.step ?_
  refine WP.seq (wP [0, 1, 7, 8, 9] [.slice (some ⟨0, 0, none⟩) 17 17, .func (.func 47) #[] #[pP b], iI 17, iI 1, bT] fun b16 => ?_)
  refine thn_n (WP.seq (WP.condT rfl (WP.skip (thn_n (WP.seq (WP.block (WP.seq (wP [0, 1, 5, 7, 8] [.slice (some ⟨0, 0, none⟩) 17 17, .func (.func 47) #[] #[pP b], iI 1, iI 17, iI 1] fun b17 => ?_))))))))
  refine thn_n (WP.seq (wR (oQ 5 {} [qh1] [0, 1, 5, 7, 8, 11, 15] [.slice (some ⟨0, 0, none⟩) 17 17, .func (.func 47) #[] #[pP b], iI 1, iI 17, iI 1, .func (.func 47) #[] #[pP b], qh1] (.cons (show InB (1) (17) from ⟨by omega, by omega⟩) (.cons (show (some (⟨0, 0, none⟩ : Addr)).isSome = true from rfl) (.cons (lN 56 7 [.string ⟨#[112, 117, 116]⟩, bT, bF, bT, bT, bF, bF] (row_at hl.tab hp10.fr)) .nil))) fun b18 => ?_)))
  refine OPS.cons (opStep.callV (some 16) [qh1, pP b] rfl (by kernel_rfl) (sc_test (⟨⟨#[112, 117, 116]⟩, true, false, true, true, false, false⟩ : Gscript_form) word b _ (row_at hb hp10.fr)) ?_)
  rintro _ w21 ⟨b24, rfl, hb25, hf22⟩
  refine ⟨_, rfl, ?_⟩
  have hp23 := hp10.step hf22
  refine OPS.nil (thn_n ?_)
  refine WP.test (p := (⟨#[112, 117, 116]⟩ : ByteArray) = word) rfl hb25 (fun h26 => ?_) (fun h26 => ?_)
  ·refine WP.seq (wP [4] [iI 1] fun b27 => ?_)
   refine thn_n (WP.ret ?_)
   refine blk_r ?_
   refine thn_r (thn_r ?_)
   refine blk_r ?_
   refine thn_r ?_
   refine bodyQ.of _ rfl [iI 1] ⟨rfl, trivial⟩ ?_
   exact ⟨by simp only [pack]; rw [show kOf word = 1 from by have e := h26; rw [← e]; decide +kernel], hp23.fr⟩
  ·refine WP.skip (blk_n (thn_n (wQ {} [] [0, 1, 7, 8] [.slice (some ⟨0, 0, none⟩) 17 17, .func (.func 47) #[] #[pP b], iI 17, iI 2] (.cons (show Rng .i64 (2) from Rng.i64 (by omega)) .nil) fun b28 => ?_)))
   refine thn_n ?_
   refine RND.step ?_
   refine WP.seq (wP [0, 1, 7, 8, 9] [.slice (some ⟨0, 0, none⟩) 17 17, .func (.func 47) #[] #[pP b], iI 17, iI 2, bT] fun b29 => ?_)
   refine thn_n (WP.seq (WP.condT rfl (WP.skip (thn_n (WP.seq (WP.block (WP.seq (wP [0, 1, 5, 7, 8] [.slice (some ⟨0, 0, none⟩) 17 17, .func (.func 47) #[] #[pP b], iI 2, iI 17, iI 2] fun b30 => ?_))))))))
   refine thn_n (WP.seq (wR (oQ 5 {} [qh2] [0, 1, 5, 7, 8, 11, 15] [.slice (some ⟨0, 0, none⟩) 17 17, .func (.func 47) #[] #[pP b], iI 2, iI 17, iI 2, .func (.func 47) #[] #[pP b], qh2] (.cons (show InB (2) (17) from ⟨by omega, by omega⟩) (.cons (show (some (⟨0, 0, none⟩ : Addr)).isSome = true from rfl) (.cons (lN 56 14 [.string ⟨#[103, 101, 116]⟩, bT, bF, bT, bF, bF, bF] (row_at hl.tab hp23.fr)) .nil))) fun b31 => ?_)))
   refine OPS.cons (opStep.callV (some 16) [qh2, pP b] rfl (by kernel_rfl) (sc_test (⟨⟨#[103, 101, 116]⟩, true, false, true, false, false, false⟩ : Gscript_form) word b _ (row_at hb hp23.fr)) ?_)
   rintro _ w34 ⟨b37, rfl, hb38, hf35⟩
   refine ⟨_, rfl, ?_⟩
   have hp36 := hp23.step hf35
   refine OPS.nil (thn_n ?_)
   refine WP.test (p := (⟨#[103, 101, 116]⟩ : ByteArray) = word) rfl hb38 (fun h39 => ?_) (fun h39 => ?_)
   ·refine WP.seq (wP [4] [iI 2] fun b40 => ?_)
    refine thn_n (WP.ret ?_)
    refine blk_r ?_
    refine thn_r (thn_r ?_)
    refine blk_r ?_
    refine thn_r ?_
    refine bodyQ.of _ rfl [iI 2] ⟨rfl, trivial⟩ ?_
    exact ⟨by simp only [pack]; rw [show kOf word = 2 from by have e := h39; rw [← e]; decide +kernel], hp36.fr⟩
   ·refine WP.skip (blk_n (thn_n (wQ {} [] [0, 1, 7, 8] [.slice (some ⟨0, 0, none⟩) 17 17, .func (.func 47) #[] #[pP b], iI 17, iI 3] (.cons (show Rng .i64 (3) from Rng.i64 (by omega)) .nil) fun b41 => ?_)))
    refine thn_n ?_
    refine RND.step ?_
    refine WP.seq (wP [0, 1, 7, 8, 9] [.slice (some ⟨0, 0, none⟩) 17 17, .func (.func 47) #[] #[pP b], iI 17, iI 3, bT] fun b42 => ?_)
    refine thn_n (WP.seq (WP.condT rfl (WP.skip (thn_n (WP.seq (WP.block (WP.seq (wP [0, 1, 5, 7, 8] [.slice (some ⟨0, 0, none⟩) 17 17, .func (.func 47) #[] #[pP b], iI 3, iI 17, iI 3] fun b43 => ?_))))))))
    refine thn_n (WP.seq (wR (oQ 5 {} [qh3] [0, 1, 5, 7, 8, 11, 15] [.slice (some ⟨0, 0, none⟩) 17 17, .func (.func 47) #[] #[pP b], iI 3, iI 17, iI 3, .func (.func 47) #[] #[pP b], qh3] (.cons (show InB (3) (17) from ⟨by omega, by omega⟩) (.cons (show (some (⟨0, 0, none⟩ : Addr)).isSome = true from rfl) (.cons (lN 56 21 [.string ⟨#[99, 97, 110, 99, 101, 108]⟩, bT, bF, bF, bF, bF, bF] (row_at hl.tab hp36.fr)) .nil))) fun b44 => ?_)))
    refine OPS.cons (opStep.callV (some 16) [qh3, pP b] rfl (by kernel_rfl) (sc_test (⟨⟨#[99, 97, 110, 99, 101, 108]⟩, true, false, false, false, false, false⟩ : Gscript_form) word b _ (row_at hb hp36.fr)) ?_)
    rintro _ w47 ⟨b50, rfl, hb51, hf48⟩
    refine ⟨_, rfl, ?_⟩
    have hp49 := hp36.step hf48
    refine OPS.nil (thn_n ?_)
    refine WP.test (p := (⟨#[99, 97, 110, 99, 101, 108]⟩ : ByteArray) = word) rfl hb51 (fun h52 => ?_) (fun h52 => ?_)
    ·refine WP.seq (wP [4] [iI 3] fun b53 => ?_)
     refine thn_n (WP.ret ?_)
     refine blk_r ?_
     refine thn_r (thn_r ?_)
     refine blk_r ?_
     refine thn_r ?_
     refine bodyQ.of _ rfl [iI 3] ⟨rfl, trivial⟩ ?_
     exact ⟨by simp only [pack]; rw [show kOf word = 3 from by have e := h52; rw [← e]; decide +kernel], hp49.fr⟩
    ·refine WP.skip (blk_n (thn_n (wQ {} [] [0, 1, 7, 8] [.slice (some ⟨0, 0, none⟩) 17 17, .func (.func 47) #[] #[pP b], iI 17, iI 4] (.cons (show Rng .i64 (4) from Rng.i64 (by omega)) .nil) fun b54 => ?_)))
     refine thn_n ?_
     refine RND.step ?_
     refine WP.seq (wP [0, 1, 7, 8, 9] [.slice (some ⟨0, 0, none⟩) 17 17, .func (.func 47) #[] #[pP b], iI 17, iI 4, bT] fun b55 => ?_)
     refine thn_n (WP.seq (WP.condT rfl (WP.skip (thn_n (WP.seq (WP.block (WP.seq (wP [0, 1, 5, 7, 8] [.slice (some ⟨0, 0, none⟩) 17 17, .func (.func 47) #[] #[pP b], iI 4, iI 17, iI 4] fun b56 => ?_))))))))
     refine thn_n (WP.seq (wR (oQ 5 {} [qh4] [0, 1, 5, 7, 8, 11, 15] [.slice (some ⟨0, 0, none⟩) 17 17, .func (.func 47) #[] #[pP b], iI 4, iI 17, iI 4, .func (.func 47) #[] #[pP b], qh4] (.cons (show InB (4) (17) from ⟨by omega, by omega⟩) (.cons (show (some (⟨0, 0, none⟩ : Addr)).isSome = true from rfl) (.cons (lN 56 28 [.string ⟨#[116, 105, 99, 107]⟩, bT, bF, bF, bF, bF, bF] (row_at hl.tab hp49.fr)) .nil))) fun b57 => ?_)))
     refine OPS.cons (opStep.callV (some 16) [qh4, pP b] rfl (by kernel_rfl) (sc_test (⟨⟨#[116, 105, 99, 107]⟩, true, false, false, false, false, false⟩ : Gscript_form) word b _ (row_at hb hp49.fr)) ?_)
     rintro _ w60 ⟨b63, rfl, hb64, hf61⟩
     refine ⟨_, rfl, ?_⟩
     have hp62 := hp49.step hf61
     refine OPS.nil (thn_n ?_)
     refine WP.test (p := (⟨#[116, 105, 99, 107]⟩ : ByteArray) = word) rfl hb64 (fun h65 => ?_) (fun h65 => ?_)
     ·refine WP.seq (wP [4] [iI 4] fun b66 => ?_)
      refine thn_n (WP.ret ?_)
      refine blk_r ?_
      refine thn_r (thn_r ?_)
      refine blk_r ?_
      refine thn_r ?_
      refine bodyQ.of _ rfl [iI 4] ⟨rfl, trivial⟩ ?_
      exact ⟨by simp only [pack]; rw [show kOf word = 4 from by have e := h65; rw [← e]; decide +kernel], hp62.fr⟩
     ·refine WP.skip (blk_n (thn_n (wQ {} [] [0, 1, 7, 8] [.slice (some ⟨0, 0, none⟩) 17 17, .func (.func 47) #[] #[pP b], iI 17, iI 5] (.cons (show Rng .i64 (5) from Rng.i64 (by omega)) .nil) fun b67 => ?_)))
      refine thn_n ?_
      refine RND.step ?_
      refine WP.seq (wP [0, 1, 7, 8, 9] [.slice (some ⟨0, 0, none⟩) 17 17, .func (.func 47) #[] #[pP b], iI 17, iI 5, bT] fun b68 => ?_)
      refine thn_n (WP.seq (WP.condT rfl (WP.skip (thn_n (WP.seq (WP.block (WP.seq (wP [0, 1, 5, 7, 8] [.slice (some ⟨0, 0, none⟩) 17 17, .func (.func 47) #[] #[pP b], iI 5, iI 17, iI 5] fun b69 => ?_))))))))
      refine thn_n (WP.seq (wR (oQ 5 {} [qh5] [0, 1, 5, 7, 8, 11, 15] [.slice (some ⟨0, 0, none⟩) 17 17, .func (.func 47) #[] #[pP b], iI 5, iI 17, iI 5, .func (.func 47) #[] #[pP b], qh5] (.cons (show InB (5) (17) from ⟨by omega, by omega⟩) (.cons (show (some (⟨0, 0, none⟩ : Addr)).isSome = true from rfl) (.cons (lN 56 35 [.string ⟨#[115, 116, 111, 112]⟩, bT, bF, bF, bF, bF, bF] (row_at hl.tab hp62.fr)) .nil))) fun b70 => ?_)))
      refine OPS.cons (opStep.callV (some 16) [qh5, pP b] rfl (by kernel_rfl) (sc_test (⟨⟨#[115, 116, 111, 112]⟩, true, false, false, false, false, false⟩ : Gscript_form) word b _ (row_at hb hp62.fr)) ?_)
      rintro _ w73 ⟨b76, rfl, hb77, hf74⟩
      refine ⟨_, rfl, ?_⟩
      have hp75 := hp62.step hf74
      refine OPS.nil (thn_n ?_)
      refine WP.test (p := (⟨#[115, 116, 111, 112]⟩ : ByteArray) = word) rfl hb77 (fun h78 => ?_) (fun h78 => ?_)
      ·refine WP.seq (wP [4] [iI 5] fun b79 => ?_)
       refine thn_n (WP.ret ?_)
       refine blk_r ?_
       refine thn_r (thn_r ?_)
       refine blk_r ?_
       refine thn_r ?_
       refine bodyQ.of _ rfl [iI 5] ⟨rfl, trivial⟩ ?_
       exact ⟨by simp only [pack]; rw [show kOf word = 5 from by have e := h78; rw [← e]; decide +kernel], hp75.fr⟩
      ·refine WP.skip (blk_n (thn_n (wQ {} [] [0, 1, 7, 8] [.slice (some ⟨0, 0, none⟩) 17 17, .func (.func 47) #[] #[pP b], iI 17, iI 6] (.cons (show Rng .i64 (6) from Rng.i64 (by omega)) .nil) fun b80 => ?_)))
       refine thn_n ?_
       refine RND.step ?_
       refine WP.seq (wP [0, 1, 7, 8, 9] [.slice (some ⟨0, 0, none⟩) 17 17, .func (.func 47) #[] #[pP b], iI 17, iI 6, bT] fun b81 => ?_)
       refine thn_n (WP.seq (WP.condT rfl (WP.skip (thn_n (WP.seq (WP.block (WP.seq (wP [0, 1, 5, 7, 8] [.slice (some ⟨0, 0, none⟩) 17 17, .func (.func 47) #[] #[pP b], iI 6, iI 17, iI 6] fun b82 => ?_))))))))
       refine thn_n (WP.seq (wR (oQ 5 {} [qh6] [0, 1, 5, 7, 8, 11, 15] [.slice (some ⟨0, 0, none⟩) 17 17, .func (.func 47) #[] #[pP b], iI 6, iI 17, iI 6, .func (.func 47) #[] #[pP b], qh6] (.cons (show InB (6) (17) from ⟨by omega, by omega⟩) (.cons (show (some (⟨0, 0, none⟩ : Addr)).isSome = true from rfl) (.cons (lN 56 42 [.string ⟨#[100, 101, 108, 105, 118, 101, 114]⟩, bT, bF, bF, bF, bF, bF] (row_at hl.tab hp75.fr)) .nil))) fun b83 => ?_)))
       refine OPS.cons (opStep.callV (some 16) [qh6, pP b] rfl (by kernel_rfl) (sc_test (⟨⟨#[100, 101, 108, 105, 118, 101, 114]⟩, true, false, false, false, false, false⟩ : Gscript_form) word b _ (row_at hb hp75.fr)) ?_)
       rintro _ w86 ⟨b89, rfl, hb90, hf87⟩
       refine ⟨_, rfl, ?_⟩
       have hp88 := hp75.step hf87
       refine OPS.nil (thn_n ?_)
       refine WP.test (p := (⟨#[100, 101, 108, 105, 118, 101, 114]⟩ : ByteArray) = word) rfl hb90 (fun h91 => ?_) (fun h91 => ?_)
       ·refine WP.seq (wP [4] [iI 6] fun b92 => ?_)
        refine thn_n (WP.ret ?_)
        refine blk_r ?_
        refine thn_r (thn_r ?_)
        refine blk_r ?_
        refine thn_r ?_
        refine bodyQ.of _ rfl [iI 6] ⟨rfl, trivial⟩ ?_
        exact ⟨by simp only [pack]; rw [show kOf word = 6 from by have e := h91; rw [← e]; decide +kernel], hp88.fr⟩
       ·refine WP.skip (blk_n (thn_n (wQ {} [] [0, 1, 7, 8] [.slice (some ⟨0, 0, none⟩) 17 17, .func (.func 47) #[] #[pP b], iI 17, iI 7] (.cons (show Rng .i64 (7) from Rng.i64 (by omega)) .nil) fun b93 => ?_)))
        refine thn_n ?_
        refine RND.step ?_
        refine WP.seq (wP [0, 1, 7, 8, 9] [.slice (some ⟨0, 0, none⟩) 17 17, .func (.func 47) #[] #[pP b], iI 17, iI 7, bT] fun b94 => ?_)
        refine thn_n (WP.seq (WP.condT rfl (WP.skip (thn_n (WP.seq (WP.block (WP.seq (wP [0, 1, 5, 7, 8] [.slice (some ⟨0, 0, none⟩) 17 17, .func (.func 47) #[] #[pP b], iI 7, iI 17, iI 7] fun b95 => ?_))))))))
        refine thn_n (WP.seq (wR (oQ 5 {} [qh7] [0, 1, 5, 7, 8, 11, 15] [.slice (some ⟨0, 0, none⟩) 17 17, .func (.func 47) #[] #[pP b], iI 7, iI 17, iI 7, .func (.func 47) #[] #[pP b], qh7] (.cons (show InB (7) (17) from ⟨by omega, by omega⟩) (.cons (show (some (⟨0, 0, none⟩ : Addr)).isSome = true from rfl) (.cons (lN 56 49 [.string ⟨#[100, 114, 111, 112]⟩, bT, bF, bF, bF, bF, bF] (row_at hl.tab hp88.fr)) .nil))) fun b96 => ?_)))
        refine OPS.cons (opStep.callV (some 16) [qh7, pP b] rfl (by kernel_rfl) (sc_test (⟨⟨#[100, 114, 111, 112]⟩, true, false, false, false, false, false⟩ : Gscript_form) word b _ (row_at hb hp88.fr)) ?_)
        rintro _ w99 ⟨b102, rfl, hb103, hf100⟩
        refine ⟨_, rfl, ?_⟩
        have hp101 := hp88.step hf100
        refine OPS.nil (thn_n ?_)
        refine WP.test (p := (⟨#[100, 114, 111, 112]⟩ : ByteArray) = word) rfl hb103 (fun h104 => ?_) (fun h104 => ?_)
        ·refine WP.seq (wP [4] [iI 7] fun b105 => ?_)
         refine thn_n (WP.ret ?_)
         refine blk_r ?_
         refine thn_r (thn_r ?_)
         refine blk_r ?_
         refine thn_r ?_
         refine bodyQ.of _ rfl [iI 7] ⟨rfl, trivial⟩ ?_
         exact ⟨by simp only [pack]; rw [show kOf word = 7 from by have e := h104; rw [← e]; decide +kernel], hp101.fr⟩
        ·refine WP.skip (blk_n (thn_n (wQ {} [] [0, 1, 7, 8] [.slice (some ⟨0, 0, none⟩) 17 17, .func (.func 47) #[] #[pP b], iI 17, iI 8] (.cons (show Rng .i64 (8) from Rng.i64 (by omega)) .nil) fun b106 => ?_)))
         refine thn_n ?_
         refine RND.step ?_
         refine WP.seq (wP [0, 1, 7, 8, 9] [.slice (some ⟨0, 0, none⟩) 17 17, .func (.func 47) #[] #[pP b], iI 17, iI 8, bT] fun b107 => ?_)
         refine thn_n (WP.seq (WP.condT rfl (WP.skip (thn_n (WP.seq (WP.block (WP.seq (wP [0, 1, 5, 7, 8] [.slice (some ⟨0, 0, none⟩) 17 17, .func (.func 47) #[] #[pP b], iI 8, iI 17, iI 8] fun b108 => ?_))))))))
         refine thn_n (WP.seq (wR (oQ 5 {} [qh8] [0, 1, 5, 7, 8, 11, 15] [.slice (some ⟨0, 0, none⟩) 17 17, .func (.func 47) #[] #[pP b], iI 8, iI 17, iI 8, .func (.func 47) #[] #[pP b], qh8] (.cons (show InB (8) (17) from ⟨by omega, by omega⟩) (.cons (show (some (⟨0, 0, none⟩ : Addr)).isSome = true from rfl) (.cons (lN 56 56 [.string ⟨#[100, 111, 117, 98, 108, 101]⟩, bT, bF, bF, bF, bF, bF] (row_at hl.tab hp101.fr)) .nil))) fun b109 => ?_)))
         refine OPS.cons (opStep.callV (some 16) [qh8, pP b] rfl (by kernel_rfl) (sc_test (⟨⟨#[100, 111, 117, 98, 108, 101]⟩, true, false, false, false, false, false⟩ : Gscript_form) word b _ (row_at hb hp101.fr)) ?_)
         rintro _ w112 ⟨b115, rfl, hb116, hf113⟩
         refine ⟨_, rfl, ?_⟩
         have hp114 := hp101.step hf113
         refine OPS.nil (thn_n ?_)
         refine WP.test (p := (⟨#[100, 111, 117, 98, 108, 101]⟩ : ByteArray) = word) rfl hb116 (fun h117 => ?_) (fun h117 => ?_)
         ·refine WP.seq (wP [4] [iI 8] fun b118 => ?_)
          refine thn_n (WP.ret ?_)
          refine blk_r ?_
          refine thn_r (thn_r ?_)
          refine blk_r ?_
          refine thn_r ?_
          refine bodyQ.of _ rfl [iI 8] ⟨rfl, trivial⟩ ?_
          exact ⟨by simp only [pack]; rw [show kOf word = 8 from by have e := h117; rw [← e]; decide +kernel], hp114.fr⟩
         ·refine WP.skip (blk_n (thn_n (wQ {} [] [0, 1, 7, 8] [.slice (some ⟨0, 0, none⟩) 17 17, .func (.func 47) #[] #[pP b], iI 17, iI 9] (.cons (show Rng .i64 (9) from Rng.i64 (by omega)) .nil) fun b119 => ?_)))
          refine thn_n ?_
          refine RND.step ?_
          refine WP.seq (wP [0, 1, 7, 8, 9] [.slice (some ⟨0, 0, none⟩) 17 17, .func (.func 47) #[] #[pP b], iI 17, iI 9, bT] fun b120 => ?_)
          refine thn_n (WP.seq (WP.condT rfl (WP.skip (thn_n (WP.seq (WP.block (WP.seq (wP [0, 1, 5, 7, 8] [.slice (some ⟨0, 0, none⟩) 17 17, .func (.func 47) #[] #[pP b], iI 9, iI 17, iI 9] fun b121 => ?_))))))))
          refine thn_n (WP.seq (wR (oQ 5 {} [qh9] [0, 1, 5, 7, 8, 11, 15] [.slice (some ⟨0, 0, none⟩) 17 17, .func (.func 47) #[] #[pP b], iI 9, iI 17, iI 9, .func (.func 47) #[] #[pP b], qh9] (.cons (show InB (9) (17) from ⟨by omega, by omega⟩) (.cons (show (some (⟨0, 0, none⟩ : Addr)).isSome = true from rfl) (.cons (lN 56 63 [.string ⟨#[98, 117, 114, 115, 116]⟩, bT, bT, bF, bF, bT, bF] (row_at hl.tab hp114.fr)) .nil))) fun b122 => ?_)))
          refine OPS.cons (opStep.callV (some 16) [qh9, pP b] rfl (by kernel_rfl) (sc_test (⟨⟨#[98, 117, 114, 115, 116]⟩, true, true, false, false, true, false⟩ : Gscript_form) word b _ (row_at hb hp114.fr)) ?_)
          rintro _ w125 ⟨b128, rfl, hb129, hf126⟩
          refine ⟨_, rfl, ?_⟩
          have hp127 := hp114.step hf126
          refine OPS.nil (thn_n ?_)
          refine WP.test (p := (⟨#[98, 117, 114, 115, 116]⟩ : ByteArray) = word) rfl hb129 (fun h130 => ?_) (fun h130 => ?_)
          ·refine WP.seq (wP [4] [iI 9] fun b131 => ?_)
           refine thn_n (WP.ret ?_)
           refine blk_r ?_
           refine thn_r (thn_r ?_)
           refine blk_r ?_
           refine thn_r ?_
           refine bodyQ.of _ rfl [iI 9] ⟨rfl, trivial⟩ ?_
           exact ⟨by simp only [pack]; rw [show kOf word = 9 from by have e := h130; rw [← e]; decide +kernel], hp127.fr⟩
          ·refine WP.skip (blk_n (thn_n (wQ {} [] [0, 1, 7, 8] [.slice (some ⟨0, 0, none⟩) 17 17, .func (.func 47) #[] #[pP b], iI 17, iI 10] (.cons (show Rng .i64 (10) from Rng.i64 (by omega)) .nil) fun b132 => ?_)))
           refine thn_n ?_
           refine RND.step ?_
           refine WP.seq (wP [0, 1, 7, 8, 9] [.slice (some ⟨0, 0, none⟩) 17 17, .func (.func 47) #[] #[pP b], iI 17, iI 10, bT] fun b133 => ?_)
           refine thn_n (WP.seq (WP.condT rfl (WP.skip (thn_n (WP.seq (WP.block (WP.seq (wP [0, 1, 5, 7, 8] [.slice (some ⟨0, 0, none⟩) 17 17, .func (.func 47) #[] #[pP b], iI 10, iI 17, iI 10] fun b134 => ?_))))))))
           refine thn_n (WP.seq (wR (oQ 5 {} [qh10] [0, 1, 5, 7, 8, 11, 15] [.slice (some ⟨0, 0, none⟩) 17 17, .func (.func 47) #[] #[pP b], iI 10, iI 17, iI 10, .func (.func 47) #[] #[pP b], qh10] (.cons (show InB (10) (17) from ⟨by omega, by omega⟩) (.cons (show (some (⟨0, 0, none⟩ : Addr)).isSome = true from rfl) (.cons (lN 56 70 [.string ⟨#[99, 117, 116]⟩, bT, bT, bF, bF, bF, bF] (row_at hl.tab hp127.fr)) .nil))) fun b135 => ?_)))
           refine OPS.cons (opStep.callV (some 16) [qh10, pP b] rfl (by kernel_rfl) (sc_test (⟨⟨#[99, 117, 116]⟩, true, true, false, false, false, false⟩ : Gscript_form) word b _ (row_at hb hp127.fr)) ?_)
           rintro _ w138 ⟨b141, rfl, hb142, hf139⟩
           refine ⟨_, rfl, ?_⟩
           have hp140 := hp127.step hf139
           refine OPS.nil (thn_n ?_)
           refine WP.test (p := (⟨#[99, 117, 116]⟩ : ByteArray) = word) rfl hb142 (fun h143 => ?_) (fun h143 => ?_)
           ·refine WP.seq (wP [4] [iI 10] fun b144 => ?_)
            refine thn_n (WP.ret ?_)
            refine blk_r ?_
            refine thn_r (thn_r ?_)
            refine blk_r ?_
            refine thn_r ?_
            refine bodyQ.of _ rfl [iI 10] ⟨rfl, trivial⟩ ?_
            exact ⟨by simp only [pack]; rw [show kOf word = 10 from by have e := h143; rw [← e]; decide +kernel], hp140.fr⟩
           ·refine WP.skip (blk_n (thn_n (wQ {} [] [0, 1, 7, 8] [.slice (some ⟨0, 0, none⟩) 17 17, .func (.func 47) #[] #[pP b], iI 17, iI 11] (.cons (show Rng .i64 (11) from Rng.i64 (by omega)) .nil) fun b145 => ?_)))
            refine thn_n ?_
            refine RND.step ?_
            refine WP.seq (wP [0, 1, 7, 8, 9] [.slice (some ⟨0, 0, none⟩) 17 17, .func (.func 47) #[] #[pP b], iI 17, iI 11, bT] fun b146 => ?_)
            refine thn_n (WP.seq (WP.condT rfl (WP.skip (thn_n (WP.seq (WP.block (WP.seq (wP [0, 1, 5, 7, 8] [.slice (some ⟨0, 0, none⟩) 17 17, .func (.func 47) #[] #[pP b], iI 11, iI 17, iI 11] fun b147 => ?_))))))))
            refine thn_n (WP.seq (wR (oQ 5 {} [qh11] [0, 1, 5, 7, 8, 11, 15] [.slice (some ⟨0, 0, none⟩) 17 17, .func (.func 47) #[] #[pP b], iI 11, iI 17, iI 11, .func (.func 47) #[] #[pP b], qh11] (.cons (show InB (11) (17) from ⟨by omega, by omega⟩) (.cons (show (some (⟨0, 0, none⟩ : Addr)).isSome = true from rfl) (.cons (lN 56 77 [.string ⟨#[108, 111, 115, 101]⟩, bT, bF, bF, bF, bF, bF] (row_at hl.tab hp140.fr)) .nil))) fun b148 => ?_)))
            refine OPS.cons (opStep.callV (some 16) [qh11, pP b] rfl (by kernel_rfl) (sc_test (⟨⟨#[108, 111, 115, 101]⟩, true, false, false, false, false, false⟩ : Gscript_form) word b _ (row_at hb hp140.fr)) ?_)
            rintro _ w151 ⟨b154, rfl, hb155, hf152⟩
            refine ⟨_, rfl, ?_⟩
            have hp153 := hp140.step hf152
            refine OPS.nil (thn_n ?_)
            refine WP.test (p := (⟨#[108, 111, 115, 101]⟩ : ByteArray) = word) rfl hb155 (fun h156 => ?_) (fun h156 => ?_)
            ·refine WP.seq (wP [4] [iI 11] fun b157 => ?_)
             refine thn_n (WP.ret ?_)
             refine blk_r ?_
             refine thn_r (thn_r ?_)
             refine blk_r ?_
             refine thn_r ?_
             refine bodyQ.of _ rfl [iI 11] ⟨rfl, trivial⟩ ?_
             exact ⟨by simp only [pack]; rw [show kOf word = 11 from by have e := h156; rw [← e]; decide +kernel], hp153.fr⟩
            ·refine WP.skip (blk_n (thn_n (wQ {} [] [0, 1, 7, 8] [.slice (some ⟨0, 0, none⟩) 17 17, .func (.func 47) #[] #[pP b], iI 17, iI 12] (.cons (show Rng .i64 (12) from Rng.i64 (by omega)) .nil) fun b158 => ?_)))
             refine thn_n ?_
             refine RND.step ?_
             refine WP.seq (wP [0, 1, 7, 8, 9] [.slice (some ⟨0, 0, none⟩) 17 17, .func (.func 47) #[] #[pP b], iI 17, iI 12, bT] fun b159 => ?_)
             refine thn_n (WP.seq (WP.condT rfl (WP.skip (thn_n (WP.seq (WP.block (WP.seq (wP [0, 1, 5, 7, 8] [.slice (some ⟨0, 0, none⟩) 17 17, .func (.func 47) #[] #[pP b], iI 12, iI 17, iI 12] fun b160 => ?_))))))))
             refine thn_n (WP.seq (wR (oQ 5 {} [qh12] [0, 1, 5, 7, 8, 11, 15] [.slice (some ⟨0, 0, none⟩) 17 17, .func (.func 47) #[] #[pP b], iI 12, iI 17, iI 12, .func (.func 47) #[] #[pP b], qh12] (.cons (show InB (12) (17) from ⟨by omega, by omega⟩) (.cons (show (some (⟨0, 0, none⟩ : Addr)).isSome = true from rfl) (.cons (lN 56 84 [.string ⟨#[99, 114, 97, 115, 104]⟩, bT, bF, bF, bF, bF, bT] (row_at hl.tab hp153.fr)) .nil))) fun b161 => ?_)))
             refine OPS.cons (opStep.callV (some 16) [qh12, pP b] rfl (by kernel_rfl) (sc_test (⟨⟨#[99, 114, 97, 115, 104]⟩, true, false, false, false, false, true⟩ : Gscript_form) word b _ (row_at hb hp153.fr)) ?_)
             rintro _ w164 ⟨b167, rfl, hb168, hf165⟩
             refine ⟨_, rfl, ?_⟩
             have hp166 := hp153.step hf165
             refine OPS.nil (thn_n ?_)
             refine WP.test (p := (⟨#[99, 114, 97, 115, 104]⟩ : ByteArray) = word) rfl hb168 (fun h169 => ?_) (fun h169 => ?_)
             ·refine WP.seq (wP [4] [iI 12] fun b170 => ?_)
              refine thn_n (WP.ret ?_)
              refine blk_r ?_
              refine thn_r (thn_r ?_)
              refine blk_r ?_
              refine thn_r ?_
              refine bodyQ.of _ rfl [iI 12] ⟨rfl, trivial⟩ ?_
              exact ⟨by simp only [pack]; rw [show kOf word = 12 from by have e := h169; rw [← e]; decide +kernel], hp166.fr⟩
             ·refine WP.skip (blk_n (thn_n (wQ {} [] [0, 1, 7, 8] [.slice (some ⟨0, 0, none⟩) 17 17, .func (.func 47) #[] #[pP b], iI 17, iI 13] (.cons (show Rng .i64 (13) from Rng.i64 (by omega)) .nil) fun b171 => ?_)))
              refine thn_n ?_
              refine RND.step ?_
              refine WP.seq (wP [0, 1, 7, 8, 9] [.slice (some ⟨0, 0, none⟩) 17 17, .func (.func 47) #[] #[pP b], iI 17, iI 13, bT] fun b172 => ?_)
              refine thn_n (WP.seq (WP.condT rfl (WP.skip (thn_n (WP.seq (WP.block (WP.seq (wP [0, 1, 5, 7, 8] [.slice (some ⟨0, 0, none⟩) 17 17, .func (.func 47) #[] #[pP b], iI 13, iI 17, iI 13] fun b173 => ?_))))))))
              refine thn_n (WP.seq (wR (oQ 5 {} [qh13] [0, 1, 5, 7, 8, 11, 15] [.slice (some ⟨0, 0, none⟩) 17 17, .func (.func 47) #[] #[pP b], iI 13, iI 17, iI 13, .func (.func 47) #[] #[pP b], qh13] (.cons (show InB (13) (17) from ⟨by omega, by omega⟩) (.cons (show (some (⟨0, 0, none⟩ : Addr)).isSome = true from rfl) (.cons (lN 56 91 [.string ⟨#[115, 116, 97, 114, 116]⟩, bT, bF, bF, bF, bF, bF] (row_at hl.tab hp166.fr)) .nil))) fun b174 => ?_)))
              refine OPS.cons (opStep.callV (some 16) [qh13, pP b] rfl (by kernel_rfl) (sc_test (⟨⟨#[115, 116, 97, 114, 116]⟩, true, false, false, false, false, false⟩ : Gscript_form) word b _ (row_at hb hp166.fr)) ?_)
              rintro _ w177 ⟨b180, rfl, hb181, hf178⟩
              refine ⟨_, rfl, ?_⟩
              have hp179 := hp166.step hf178
              refine OPS.nil (thn_n ?_)
              refine WP.test (p := (⟨#[115, 116, 97, 114, 116]⟩ : ByteArray) = word) rfl hb181 (fun h182 => ?_) (fun h182 => ?_)
              ·refine WP.seq (wP [4] [iI 13] fun b183 => ?_)
               refine thn_n (WP.ret ?_)
               refine blk_r ?_
               refine thn_r (thn_r ?_)
               refine blk_r ?_
               refine thn_r ?_
               refine bodyQ.of _ rfl [iI 13] ⟨rfl, trivial⟩ ?_
               exact ⟨by simp only [pack]; rw [show kOf word = 13 from by have e := h182; rw [← e]; decide +kernel], hp179.fr⟩
              ·refine WP.skip (blk_n (thn_n (wQ {} [] [0, 1, 7, 8] [.slice (some ⟨0, 0, none⟩) 17 17, .func (.func 47) #[] #[pP b], iI 17, iI 14] (.cons (show Rng .i64 (14) from Rng.i64 (by omega)) .nil) fun b184 => ?_)))
               refine thn_n ?_
               refine RND.step ?_
               refine WP.seq (wP [0, 1, 7, 8, 9] [.slice (some ⟨0, 0, none⟩) 17 17, .func (.func 47) #[] #[pP b], iI 17, iI 14, bT] fun b185 => ?_)
               refine thn_n (WP.seq (WP.condT rfl (WP.skip (thn_n (WP.seq (WP.block (WP.seq (wP [0, 1, 5, 7, 8] [.slice (some ⟨0, 0, none⟩) 17 17, .func (.func 47) #[] #[pP b], iI 14, iI 17, iI 14] fun b186 => ?_))))))))
               refine thn_n (WP.seq (wR (oQ 5 {} [qh14] [0, 1, 5, 7, 8, 11, 15] [.slice (some ⟨0, 0, none⟩) 17 17, .func (.func 47) #[] #[pP b], iI 14, iI 17, iI 14, .func (.func 47) #[] #[pP b], qh14] (.cons (show InB (14) (17) from ⟨by omega, by omega⟩) (.cons (show (some (⟨0, 0, none⟩ : Addr)).isSome = true from rfl) (.cons (lN 56 98 [.string ⟨#[100, 105, 101]⟩, bT, bT, bF, bF, bF, bT] (row_at hl.tab hp179.fr)) .nil))) fun b187 => ?_)))
               refine OPS.cons (opStep.callV (some 16) [qh14, pP b] rfl (by kernel_rfl) (sc_test (⟨⟨#[100, 105, 101]⟩, true, true, false, false, false, true⟩ : Gscript_form) word b _ (row_at hb hp179.fr)) ?_)
               rintro _ w190 ⟨b193, rfl, hb194, hf191⟩
               refine ⟨_, rfl, ?_⟩
               have hp192 := hp179.step hf191
               refine OPS.nil (thn_n ?_)
               refine WP.test (p := (⟨#[100, 105, 101]⟩ : ByteArray) = word) rfl hb194 (fun h195 => ?_) (fun h195 => ?_)
               ·refine WP.seq (wP [4] [iI 14] fun b196 => ?_)
                refine thn_n (WP.ret ?_)
                refine blk_r ?_
                refine thn_r (thn_r ?_)
                refine blk_r ?_
                refine thn_r ?_
                refine bodyQ.of _ rfl [iI 14] ⟨rfl, trivial⟩ ?_
                exact ⟨by simp only [pack]; rw [show kOf word = 14 from by have e := h195; rw [← e]; decide +kernel], hp192.fr⟩
               ·refine WP.skip (blk_n (thn_n (wQ {} [] [0, 1, 7, 8] [.slice (some ⟨0, 0, none⟩) 17 17, .func (.func 47) #[] #[pP b], iI 17, iI 15] (.cons (show Rng .i64 (15) from Rng.i64 (by omega)) .nil) fun b197 => ?_)))
                refine thn_n ?_
                refine RND.step ?_
                refine WP.seq (wP [0, 1, 7, 8, 9] [.slice (some ⟨0, 0, none⟩) 17 17, .func (.func 47) #[] #[pP b], iI 17, iI 15, bT] fun b198 => ?_)
                refine thn_n (WP.seq (WP.condT rfl (WP.skip (thn_n (WP.seq (WP.block (WP.seq (wP [0, 1, 5, 7, 8] [.slice (some ⟨0, 0, none⟩) 17 17, .func (.func 47) #[] #[pP b], iI 15, iI 17, iI 15] fun b199 => ?_))))))))
                refine thn_n (WP.seq (wR (oQ 5 {} [qh15] [0, 1, 5, 7, 8, 11, 15] [.slice (some ⟨0, 0, none⟩) 17 17, .func (.func 47) #[] #[pP b], iI 15, iI 17, iI 15, .func (.func 47) #[] #[pP b], qh15] (.cons (show InB (15) (17) from ⟨by omega, by omega⟩) (.cons (show (some (⟨0, 0, none⟩ : Addr)).isSome = true from rfl) (.cons (lN 56 105 [.string ⟨#[99, 111, 109, 112, 97, 99, 116]⟩, bT, bF, bF, bF, bF, bF] (row_at hl.tab hp192.fr)) .nil))) fun b200 => ?_)))
                refine OPS.cons (opStep.callV (some 16) [qh15, pP b] rfl (by kernel_rfl) (sc_test (⟨⟨#[99, 111, 109, 112, 97, 99, 116]⟩, true, false, false, false, false, false⟩ : Gscript_form) word b _ (row_at hb hp192.fr)) ?_)
                rintro _ w203 ⟨b206, rfl, hb207, hf204⟩
                refine ⟨_, rfl, ?_⟩
                have hp205 := hp192.step hf204
                refine OPS.nil (thn_n ?_)
                refine WP.test (p := (⟨#[99, 111, 109, 112, 97, 99, 116]⟩ : ByteArray) = word) rfl hb207 (fun h208 => ?_) (fun h208 => ?_)
                ·refine WP.seq (wP [4] [iI 15] fun b209 => ?_)
                 refine thn_n (WP.ret ?_)
                 refine blk_r ?_
                 refine thn_r (thn_r ?_)
                 refine blk_r ?_
                 refine thn_r ?_
                 refine bodyQ.of _ rfl [iI 15] ⟨rfl, trivial⟩ ?_
                 exact ⟨by simp only [pack]; rw [show kOf word = 15 from by have e := h208; rw [← e]; decide +kernel], hp205.fr⟩
                ·refine WP.skip (blk_n (thn_n (wQ {} [] [0, 1, 7, 8] [.slice (some ⟨0, 0, none⟩) 17 17, .func (.func 47) #[] #[pP b], iI 17, iI 16] (.cons (show Rng .i64 (16) from Rng.i64 (by omega)) .nil) fun b210 => ?_)))
                 refine thn_n ?_
                 refine RND.step ?_
                 refine WP.seq (wP [0, 1, 7, 8, 9] [.slice (some ⟨0, 0, none⟩) 17 17, .func (.func 47) #[] #[pP b], iI 17, iI 16, bT] fun b211 => ?_)
                 refine thn_n (WP.seq (WP.condT rfl (WP.skip (thn_n (WP.seq (WP.block (WP.seq (wP [0, 1, 5, 7, 8] [.slice (some ⟨0, 0, none⟩) 17 17, .func (.func 47) #[] #[pP b], iI 16, iI 17, iI 16] fun b212 => ?_))))))))
                 refine thn_n (WP.seq (wR (oQ 5 {} [qh16] [0, 1, 5, 7, 8, 11, 15] [.slice (some ⟨0, 0, none⟩) 17 17, .func (.func 47) #[] #[pP b], iI 16, iI 17, iI 16, .func (.func 47) #[] #[pP b], qh16] (.cons (show InB (16) (17) from ⟨by omega, by omega⟩) (.cons (show (some (⟨0, 0, none⟩ : Addr)).isSome = true from rfl) (.cons (lN 56 112 [.string ⟨#[114, 111, 117, 110, 100]⟩, bF, bT, bF, bF, bF, bT] (row_at hl.tab hp205.fr)) .nil))) fun b213 => ?_)))
                 refine OPS.cons (opStep.callV (some 16) [qh16, pP b] rfl (by kernel_rfl) (sc_test (⟨⟨#[114, 111, 117, 110, 100]⟩, false, true, false, false, false, true⟩ : Gscript_form) word b _ (row_at hb hp205.fr)) ?_)
                 rintro _ w216 ⟨b219, rfl, hb220, hf217⟩
                 refine ⟨_, rfl, ?_⟩
                 have hp218 := hp205.step hf217
                 refine OPS.nil (thn_n ?_)
                 refine WP.test (p := (⟨#[114, 111, 117, 110, 100]⟩ : ByteArray) = word) rfl hb220 (fun h221 => ?_) (fun h221 => ?_)
                 ·refine WP.seq (wP [4] [iI 16] fun b222 => ?_)
                  refine thn_n (WP.ret ?_)
                  refine blk_r ?_
                  refine thn_r (thn_r ?_)
                  refine blk_r ?_
                  refine thn_r ?_
                  refine bodyQ.of _ rfl [iI 16] ⟨rfl, trivial⟩ ?_
                  exact ⟨by simp only [pack]; rw [show kOf word = 16 from by have e := h221; rw [← e]; decide +kernel], hp218.fr⟩
                 ·refine WP.skip (blk_n (thn_n (wQ {} [] [0, 1, 7, 8] [.slice (some ⟨0, 0, none⟩) 17 17, .func (.func 47) #[] #[pP b], iI 17, iI 17] (.cons (show Rng .i64 (17) from Rng.i64 (by omega)) .nil) fun b223 => ?_)))
                  refine thn_n ?_
                  refine RND.step ?_
                  refine WP.seq (wP [0, 1, 7, 8, 9] [.slice (some ⟨0, 0, none⟩) 17 17, .func (.func 47) #[] #[pP b], iI 17, iI 17, bF] fun b224 => ?_)
                  refine thn_n (WP.seq (WP.condF rfl (WP.exit (thn_x (thn_x (blk_hit (thn_n (WP.seq (wP [4] [iI (-1)] fun b225 => ?_)))))))))
                  refine thn_n (WP.ret ?_)
                  refine bodyQ.of _ rfl [iI (-1)] ⟨rfl, trivial⟩ ?_
                  exact ⟨by simp only [pack]; rw [show kOf word = -1 from by unfold kOf; rw [if_neg (fun q => h13 q.symm), if_neg (fun q => h26 q.symm), if_neg (fun q => h39 q.symm), if_neg (fun q => h52 q.symm), if_neg (fun q => h65 q.symm), if_neg (fun q => h78 q.symm), if_neg (fun q => h91 q.symm), if_neg (fun q => h104 q.symm), if_neg (fun q => h117 q.symm), if_neg (fun q => h130 q.symm), if_neg (fun q => h143 q.symm), if_neg (fun q => h156 q.symm), if_neg (fun q => h169 q.symm), if_neg (fun q => h182 q.symm), if_neg (fun q => h195 q.symm), if_neg (fun q => h208 q.symm), if_neg (fun q => h221 q.symm)]], hp218.fr⟩

theorem lines_start (s : ByteArray) : linesL [] s.data.toList = ([] : List ByteArray).map (·.data.toList) ++ linesL ((s.data.toList.drop 0).take (0 - 0)) (s.data.toList.drop 0) := by simp
theorem cut_list (s : ByteArray) (a b : Nat) : (s.extract a b).data.toList = (s.data.toList.drop a).take (b - a) := by
  rw [ByteArray.data_extract, Array.toList_extract, List.extract_eq_take_drop]
/-- What is cut so far. -/
def LnI (s : ByteArray) (xs : List ByteArray) (a p : Nat) : Prop := a ≤ p ∧ p ≤ s.size ∧ linesL [] s.data.toList = xs.map (·.data.toList) ++ linesL ((s.data.toList.drop a).take (p - a)) (s.data.toList.drop p)
theorem ln_cut {s : ByteArray} {xs : List ByteArray} {a p wd : Nat} {c : Int} (h : LnI s xs a p) (hr : RuneAt s p c wd) (hc : c = 10) : LnI s (xs ++ [s.extract a p]) (p + 1) (p + wd) := by
  obtain ⟨h1, h2, h3⟩ := h
  obtain ⟨w1, w2⟩ := hr.low (by omega)
  subst w1
  have hle := hr.le
  have hp : p < s.data.toList.length := by rw [← size_list]; omega
  have e : s.data.toList.drop p = 10 :: s.data.toList.drop (p + 1) := by
    rw [List.drop_eq_getElem_cons hp]
    congr 1
    rw [byte_get hp] at w2
    exact UInt8.toNat_inj.1 (by have : (10 : UInt8).toNat = 10 := rfl; omega)
  refine ⟨by omega, by omega, ?_⟩
  rw [h3, e, linesL, if_pos rfl, List.map_append, List.map_cons, List.map_nil, List.append_assoc, cut_list, Nat.sub_self, List.take_zero]
  rfl
theorem ln_on {s : ByteArray} {xs : List ByteArray} {a p wd : Nat} {c : Int} (h : LnI s xs a p) (hr : RuneAt s p c wd) (hc : ¬ c = 10) : LnI s xs a (p + wd) := by
  obtain ⟨h1, h2, h3⟩ := h
  have hle := hr.le
  have key : ∀ j, j < wd → ∃ hj : p + j < s.data.toList.length, s.data.toList[p + j] ≠ 10 := fun j hj => by
    have hq : p + j < s.data.toList.length := by rw [← size_list]; omega
    refine ⟨hq, fun e => ?_⟩
    have hb := byte_get hq
    rw [e] at hb
    have h10 : (((10 : UInt8).toNat : Nat) : Int) = 10 := rfl
    rcases Int.lt_or_le c 128 with hlt | hge
    · obtain ⟨w1, w2⟩ := hr.low hlt
      obtain rfl : j = 0 := by omega
      rw [Nat.add_zero] at hb
      omega
    · have := hr.high hge j hj
      omega
  refine ⟨by omega, by omega, ?_⟩
  rw [h3]
  congr 1
  have e : s.data.toList.drop p = (s.data.toList.drop p).take wd ++ s.data.toList.drop (p + wd) := by
    rw [← List.drop_drop, List.take_append_drop]
  rw [e, lines_run _ _ _ (fun x hx => ?_)]
  · congr 1
    rw [show s.data.toList.drop p = (s.data.toList.drop a).drop (p - a) from by rw [List.drop_drop]; congr 1; omega, ← List.take_add]
    congr 1; omega
  · obtain ⟨j, hj⟩ := List.getElem?_of_mem hx
    have hjl := (List.getElem?_eq_some_iff.1 hj).1
    rw [List.length_take, List.length_drop] at hjl
    rw [List.getElem?_take_of_lt (by omega), List.getElem?_drop] at hj
    obtain ⟨q1, q2⟩ := key j (by omega)
    rw [List.getElem?_eq_getElem q1] at hj
    rw [← Option.some.inj hj]; exact q2
theorem ln_end {s : ByteArray} {xs : List ByteArray} {a p : Nat} (h : LnI s xs a p) (hp : ¬ p < s.size) : linesB s = xs ++ if a < s.size then [s.extract a s.size] else [] := by
  obtain ⟨h1, h2, h3⟩ := h
  obtain rfl : p = s.size := by omega
  unfold linesB
  rw [h3, List.map_append]
  congr 1
  · rw [List.map_map]
    exact (List.map_congr_left fun x _ => mk_list x).trans (List.map_id _)
  · have hl : s.data.toList.length = s.size := (size_list s).symm
    rw [show s.data.toList.drop s.size = [] from List.drop_of_length_le (by omega)]
    unfold linesL
    split
    · rename_i q
      rw [if_neg]
      · rfl
      · intro hlt
        have := congrArg List.length q
        rw [List.length_take, List.length_drop] at this
        simp at this; omega
    · rename_i q
      rw [if_pos]
      · rw [List.map_cons, List.map_nil, ← cut_list, mk_list]
      · apply Classical.byContradiction
        intro hge
        exact q (by rw [show s.data.toList.drop a = [] from List.drop_of_length_le (by omega)]; simp)
theorem sc_lines (s : ByteArray) (hs : s.size ≤ 8796093022200) (w : World) :
  Calls Tryd.prog 24 #[.string s] w (fun r_ w' => ∃ a n c, r_ = .returned (.slice a n c) ∧ Hp w Non [Res.own 9 1 (.slice a n c) n (List.flatMap strc (linesB s))] w') := by
 refine calls_of Tryd.func24 rfl 35 rfl (by simp) ?_
 have hp0 := Hp.init w
 have he0 : List.map (env0 [.string s]) [0] = [.string s] := by kernel_rfl
 obtain ⟨b0, he0⟩ := toMk he0
 rw [he0]
 clear he0
 refine WP.seq (wP [0] [.string s] fun b1 => ?_)
 refine thn_n (WP.seq (wP [0, 3] [.string s, nS] fun b2 => ?_))
 refine thn_n (WP.seq (wP [0, 3, 4] [.string s, nS, iI 0] fun b3 => ?_))
 refine thn_n (WP.seq (WP.seq (wR (oP 1 [0, 3, 4, 7] [.string s, nS, iI 0, .string s] fun b4 => ?_))))
 refine OPS.cons (opStep.rangeS (s := s) (by exact Tryd.underlying9) hp0 (by kernel_rfl) (fun it7 w5 hp6 => ?_))
 refine OPS.nil (thn_n (WP.block ?_))
 have hp8 := (show Hp w Non [Res.own 9 1 (nS) 0 (List.flatMap strc ([] : List ByteArray)), Res.sit it7 s 0] w5 from hp6.nilOwn 9 1)
 refine WP.loop (fun mz_ e9 w10 => ∃ (p : Nat) (a : Nat) (xs : List ByteArray) (ao : Option Addr) (no : Nat) (co : Nat), mz_ = s.size - p ∧ (LnI s xs a p ∧ xs.length ≤ p) ∧ List.map e9 [0, 3, 4, 8] = [.string s, .slice ao no co, iI ((a : Nat) : Int), pP it7] ∧ Hp w Non [Res.own 9 1 (.slice ao no co) no (List.flatMap strc xs), Res.sit it7 s p] w10) (s.size - (0)) ⟨0, 0, [], none, 0, 0, rfl, ⟨⟨Nat.le_refl _, Nat.zero_le _, lines_start s⟩, by simp⟩, by kernel_rfl, hp8⟩ ?_
 rintro _ e9 w10 ⟨p, a, xs, ao, no, co, rfl, hI12, hE13, hp11⟩
 obtain ⟨b14, rfl⟩ := toMk hE13
 clear hE13
 obtain ⟨pa, pz⟩ := hI12
 have pe := own_flat (sz := 1) (fun _ => rfl) (by decide) hp11.get0
 have pb := pa.1
 have pc := pa.2.1
 refine WP.seq (wR ?_)
 have hp17 := hp11.pull1
 refine OPS.cons (opStep.nextS hp17 (by kernel_rfl) (fun hn18 => ?_) (fun c19 wd20 w15 hlt21 hr22 hp16 => ?_))
 ·refine oP 1 [0, 3, 4, 8, 9, 10] [.string s, .slice ao no co, iI ((a : Nat) : Int), pP it7, .tuple #[bF], bF] fun b23 => ?_
  refine OPS.nil (thn_n (WP.seq (WP.condF rfl (WP.exit (thn_x (thn_x (blk_hit (thn_n (WP.seq (WP.seq (wP [0, 3, 4, 27] [.string s, .slice ao no co, iI ((a : Nat) : Int), .bool (decide (((a : Nat) : Int) < (s.size : Int)))] fun b24 => ?_)))))))))))
  refine thn_n ?_
  refine WP.test (p := ((a : Nat) : Int) < (s.size : Int)) rfl Bp.dec (fun h25 => ?_) (fun h25 => ?_)
  ·refine wR (oQ 4 {} [] [28, 31] [.slice ao no co, .string (s.extract (a) s.size)] (.cons (show (0 : Int) ≤ ((a : Nat) : Int) ∧ ((a : Nat) : Int) ≤ (s.size : Int) from ⟨by omega, by omega⟩) .nil) fun b26 => ?_)
   refine OPS.cons (opStep.buildSlice (E := 9) hp17 [.string (s.extract (a) s.size)] (by kernel_rfl) (fun g29 w27 hp28 => ?_))
   refine OPS.cons (opStep.append2 [.string (s.extract (a) s.size)] hp28 16 (by kernel_rfl) rfl rfl rfl (SlR.row (n := 1) hp28.get0 rfl).rd (List.all_eq_true.1 (by kernel_rfl)) (by decide) (by omega) (by omega) (fun a32 c33 w34 hp35 hn36 => ?_))
   rw [(show List.flatMap strc xs ++ [.string (s.extract (a) s.size)] = List.flatMap strc (xs ++ [s.extract (a) s.size]) from (List.flatMap_append (xs := xs) (ys := [s.extract (a) s.size])).symm)] at hp35
   refine oP 1 [3] [.slice a32 (no + 1) c33] fun b37 => ?_
   refine OPS.nil (thn_n (WP.seq (wP [2] [.slice a32 (no + 1) c33] fun b38 => ?_)))
   refine thn_n (WP.ret ?_)
   refine bodyQ.of _ rfl [.slice a32 (no + 1) c33] ⟨rfl, trivial⟩ ?_
   have hle := ln_end pa hn18
   rw [if_pos (by omega)] at hle
   exact ⟨_, _, _, rfl, by rw [hle]; exact (hp35.sub (.cons _ (.cons _ (.cons_cons _ (.slnil)))))⟩
  ·refine WP.skip (thn_n (WP.seq (wP [2] [.slice ao no co] fun b39 => ?_)))
   refine thn_n (WP.ret ?_)
   refine bodyQ.of _ rfl [.slice ao no co] ⟨rfl, trivial⟩ ?_
   have hle := ln_end pa hn18
   rw [if_neg (by omega)] at hle
   rw [List.append_nil] at hle
   exact ⟨_, _, _, rfl, by rw [hle]; exact (hp17.sub (.cons _ (.cons_cons _ (.slnil))))⟩
 ·refine oP 1 [0, 3, 4, 8, 9, 10] [.string s, .slice ao no co, iI ((a : Nat) : Int), pP it7, .tuple #[bT, iI ((p : Nat) : Int), .int .i32 c19], bT] fun b40 => ?_
  refine OPS.nil (thn_n (WP.seq (WP.condT rfl (WP.skip (thn_n (WP.block (WP.seq (wP [0, 3, 4, 5, 6, 8] [.string s, .slice ao no co, iI ((a : Nat) : Int), iI ((p : Nat) : Int), .int .i32 c19, pP it7] fun b41 => ?_))))))))
  refine thn_n (WP.seq (wP [0, 3, 4, 5, 8, 14] [.string s, .slice ao no co, iI ((a : Nat) : Int), iI ((p : Nat) : Int), pP it7, .bool (decide (c19 = 10))] fun b42 => ?_))
  refine thn_n ?_
  refine WP.test (p := c19 = 10) rfl Bp.dec (fun h43 => ?_) (fun h43 => ?_)
  ·refine WP.seq (wR (oQ 5 {} [] [0, 5, 8, 15, 19] [.string s, iI ((p : Nat) : Int), pP it7, .slice ao no co, .string (s.extract (a) (p))] (.cons (show (0 : Int) ≤ ((a : Nat) : Int) ∧ ((a : Nat) : Int) ≤ ((p : Nat) : Int) ∧ ((p : Nat) : Int) ≤ (s.size : Int) from ⟨by omega, by omega, by omega⟩) .nil) fun b44 => ?_))
   refine OPS.cons (opStep.buildSlice (E := 9) hp16 [.string (s.extract (a) (p))] (by kernel_rfl) (fun g47 w45 hp46 => ?_))
   refine OPS.cons (opStep.append2 [.string (s.extract (a) (p))] hp46 16 (by kernel_rfl) rfl rfl rfl (SlR.row (n := 1) hp46.get0 rfl).rd (List.all_eq_true.1 (by kernel_rfl)) (by decide) (by omega) (by omega) (fun a50 c51 w52 hp53 hn54 => ?_))
   rw [(show List.flatMap strc xs ++ [.string (s.extract (a) (p))] = List.flatMap strc (xs ++ [s.extract (a) (p)]) from (List.flatMap_append (xs := xs) (ys := [s.extract (a) (p)])).symm)] at hp53
   refine oP 1 [0, 3, 5, 8] [.string s, .slice a50 (no + 1) c51, iI ((p : Nat) : Int), pP it7] fun b55 => ?_
   refine OPS.nil (thn_n (wQ { subs := [23] } [iI ((p + 1 : Nat) : Int)] [0, 3, 4, 8] [.string s, .slice a50 (no + 1) c51, iI ((p + 1 : Nat) : Int), pP it7] (.cons (show Rng .i64 (((p : Nat) : Int) + 1) from Rng.i64 (by omega)) (.cons (show (iI (((p : Nat) : Int) + 1) : Go.Value) = iI ((p + 1 : Nat) : Int) from congrArg (Value.int .i64) ((show ((p : Nat) : Int) + 1 = ((p + 1 : Nat) : Int) from rfl))) .nil)) fun b56 => ?_))
   refine blk_n (thn_n ?_)
   have hone := hr22.one
   have hle := hr22.le
   exact ⟨s.size - (p + wd20), (by have h_ := RuneAt.one ‹RuneAt s p _ _›; omega), p + wd20, p + 1, xs ++ [s.extract (a) (p)], a50, no + 1, c51, rfl, ⟨ln_cut pa hr22 h43, by first | omega | (simp only [List.length_append, List.length_cons, List.length_nil]; omega)⟩, by kernel_rfl, (((hp53.pull1).pull2).sub (.cons_cons _ (.cons_cons _ (.cons _ (.slnil)))))⟩
  ·refine WP.skip (blk_n (thn_n ?_))
   have hone := hr22.one
   have hle := hr22.le
   exact ⟨s.size - (p + wd20), (by have h_ := RuneAt.one ‹RuneAt s p _ _›; omega), p + wd20, a, xs, ao, no, co, rfl, ⟨ln_on pa hr22 h43, by first | omega | (simp only [List.length_append, List.length_cons, List.length_nil]; omega)⟩, by kernel_rfl, (((hp16.pull0).pull1).sub (.cons_cons _ (.cons_cons _ (.slnil))))⟩

end Go.Proofs.YtbpedjefoajegaaDoor.K
