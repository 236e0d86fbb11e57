/- Texts of this claim, merged: what the program's functions compute, and the rules that the walks use. -/
import Derived.Test.YtbpedjefoajegaaDoorProg
import Derived.Test.YtbpedjefoajegaaDoorZ1
import Derived.Test.YtbpedjefoajegaaDoorZ2
import Derived.Test.YtbpedjefoajegaaDoorZ3
import Derived.Test.YtbpedjefoajegaaDoorZ6
namespace Go.Proofs.YtbpedjefoajegaaDoor.K
open Go Go.Proofs Go.RowKit
set_option linter.unusedVariables false
set_option linter.unusedSimpArgs false
set_option maxRecDepth 20000
set_option maxHeartbeats 4000000
noncomputable abbrev qa0 := fun a0 => ([iI 0, iI 0, iI 0, .string a0, nS, nS] : List Go.Value)
noncomputable abbrev qa1 := fun a0 a1 => ([.string ((wordsB a0).headD a1)] : List Go.Value)
noncomputable abbrev qa2 := fun a0 a1 => ([pP a0, .agg #[iI 0, iI 0, iI 0, .string a1, nS, nS]] : List Go.Value)
noncomputable abbrev qa3 := fun a0 => ([.agg #[iI 0, iI 0, iI 0, .string a0, nS, nS], bF] : List Go.Value)
noncomputable abbrev qa4 := (.agg #[.string ⟨#[112, 117, 116]⟩, bT, bF, bT, bT, bF, bF] : Go.Value)
noncomputable abbrev qa5 := ([.string ⟨#[112, 117, 116]⟩, bT, bF, bT, bT, bF, bF] : List Go.Value)
noncomputable abbrev qa6 := fun a0 => ([.string a0, bF, bF, bF, bF, bF, bF] : List Go.Value)
noncomputable abbrev qa7 := fun a0 a1 a2 a3 a4 => ([.string a0, pP a1, pP a2, pP a3, pP a4, bT] : List Go.Value)
noncomputable abbrev qa8 := fun a0 a1 a2 a3 a4 => ([.string a0, pP a1, pP a2, pP a3, pP a4, pP a2] : List Go.Value)
noncomputable abbrev qa9 := fun a0 a1 a2 a3 a4 a5 => ([.string a0, pP a1, pP a2, pP a3, pP a4, iI a5, .pointer (some ⟨a4, 1, none⟩)] : List Go.Value)
noncomputable abbrev qa10 := fun a0 a1 a2 a3 a4 => ([.string a0, pP a1, pP a2, pP a3, pP a4, bF] : List Go.Value)
noncomputable abbrev qa11 := fun a0 a1 a2 a3 => ([.string a0, pP a1, pP a2, pP a3] : List Go.Value)
noncomputable abbrev qa12 := fun a0 a1 a2 a3 a4 => ([.string a0, pP a1, pP a2, pP a3, .string (lineV a4), iI (chkI a4)] : List Go.Value)
noncomputable abbrev qa13 := (.agg #[.string ⟨#[103, 101, 116]⟩, bT, bF, bT, bF, bF, bF] : Go.Value)
noncomputable abbrev qa14 := ([.string ⟨#[103, 101, 116]⟩, bT, bF, bT, bF, bF, bF] : List Go.Value)
noncomputable abbrev qa15 := fun a0 a1 a2 a3 => ([.string a0, pP a1, pP a2, pP a3, bF] : List Go.Value)
noncomputable abbrev qa16 := (.agg #[.string ⟨#[98, 117, 114, 115, 116]⟩, bT, bT, bF, bF, bT, bF] : Go.Value)
noncomputable abbrev qa17 := ([.string ⟨#[98, 117, 114, 115, 116]⟩, bT, bT, bF, bF, bT, bF] : List Go.Value)
noncomputable abbrev qa18 := fun a0 a1 a2 a3 a4 a5 => ([.string a0, pP a1, pP a2, pP a3, pP a4, iI a5, .pointer (some ⟨a4, 2, none⟩)] : List Go.Value)
noncomputable abbrev qa19 := (.agg #[.string ⟨#[99, 117, 116]⟩, bT, bT, bF, bF, bF, bF] : Go.Value)
noncomputable abbrev qa20 := ([.string ⟨#[99, 117, 116]⟩, bT, bT, bF, bF, bF, bF] : List Go.Value)
noncomputable abbrev qa21 := (.agg #[.string ⟨#[99, 114, 97, 115, 104]⟩, bT, bF, bF, bF, bF, bT] : Go.Value)
noncomputable abbrev qa22 := ([.string ⟨#[99, 114, 97, 115, 104]⟩, bT, bF, bF, bF, bF, bT] : List Go.Value)
noncomputable abbrev qa23 := (.agg #[.string ⟨#[100, 105, 101]⟩, bT, bT, bF, bF, bF, bT] : Go.Value)
noncomputable abbrev qa24 := ([.string ⟨#[100, 105, 101]⟩, bT, bT, bF, bF, bF, bT] : List Go.Value)
noncomputable abbrev qa25 := (.agg #[.string ⟨#[114, 111, 117, 110, 100]⟩, bF, bT, bF, bF, bF, bT] : Go.Value)
noncomputable abbrev qa26 := ([.string ⟨#[114, 111, 117, 110, 100]⟩, bF, bT, bF, bF, bF, bT] : List Go.Value)
noncomputable abbrev qa27 := fun a0 => ([.string (kWord a0), bT, bF, bF, bF, bF, bF] : List Go.Value)

theorem step_fin {line : ByteArray} {x : StepP} {bad : Bool} {P : Prop} {k : Int} (hk : kOf ((wordsB line).headD ByteArray.empty) = k) (hi : inS x) (hr : ∀ y, okS y → inS y → y.Kind = k → lineS y = line → bad = false ∧ x = y) (hP : P ↔ bad = false ∧ chkI x = 0 ∧ lineV x = line) : (P → okS x ∧ inS x ∧ lineS x = line) ∧ (¬ P → ¬ isL line) := by
  refine ⟨fun p => ?_, fun p => ?_⟩
  · obtain ⟨_, h2, h3⟩ := hP.1 p
    have ok := chk_ok h2
    exact ⟨ok, hi, (lineV_ok ok).symm.trans h3⟩
  · rintro ⟨y, ok, iy, he⟩
    have hky := line_kind ok
    rw [he, hk] at hky
    obtain ⟨h1, rfl⟩ := hr y ok iy hky.symm he
    exact p (hP.2 ⟨h1, chk_0 ok, (lineV_ok ok).trans he⟩)
theorem in0 : inI 0 := ⟨by decide, by decide⟩
theorem Bp.tr {b : Bool} {P : Prop} (h : Bp b P) (e : b = true) : P := by subst e; exact (show _ ↔ _ from h).1 rfl
theorem Bp.fa {b : Bool} {P : Prop} (h : Bp b P) (e : b = false) : ¬ P := fun p => by subst e; exact absurd ((show _ ↔ _ from h).2 p) (by decide)
theorem sc_step (line : ByteArray) (hs : line.size ≤ 4294967280) (w : World) (hls : LibS w) :
  Calls Tryd.prog 25 #[.string line] w (fun r_ w' => ∃ s x ok F, r_ = .returned (.tuple #[GStep.val s, .bool ok]) ∧ ((ok = true → okS x ∧ inS x ∧ lineS x = line) ∧ (ok = false → ¬ isL line)) ∧ Hp w Non [Res.so F [s] [x]] w') := by
 have hl := hls.lib
 have hsl : ∀ x ∈ wordsB line, x.size ≤ line.size := fun x hx => words_size _ _ _ hx
 have hsz : ∀ x ∈ wordsB line, x.size ≤ 281474976710656 := fun x hx => Nat.le_trans (hsl x hx) (by omega)
 have hsy : ∀ x ∈ wordsB line, x.size ≤ 1099511627776 := fun x hx => Nat.le_trans (hsl x hx) (by omega)
 have hline : line.size ≤ 1099511627776 := by omega
 refine calls_of Tryd.func25 rfl 82 rfl (by simp) ?_
 have hp0 := Hp.init w
 have he0 : List.map (env0 [.string line]) [0] = [.string line] := by kernel_rfl
 obtain ⟨b0, he0⟩ := toMk he0
 rw [he0]
 clear he0
 refine WP.seq (wR ?_)
 refine OPS.cons (opStep.alloc hp0 (qa0 ByteArray.empty) (by kernel_rfl) (fun g3 w1 hp2 => ?_))
 refine oP 1 [0, 2] [.string line, pP g3] fun b4 => ?_
 refine OPS.nil (thn_n (WP.seq (wR (oP 1 [0, 2, 11] [.string line, pP g3, .string line] fun b5 => ?_))))
 refine OPS.cons (opStep.call (some 12) [.string line, .string ⟨#[32]⟩] (by kernel_rfl) (split_c line (by omega) (hl.fram hp2.fr) hp2) ?_)
 rintro _ w8 ⟨g10, n11, rfl, hp9⟩
 have hwl := lst_len (Hp.get0 hp9)
 refine ⟨_, rfl, ?_⟩
 refine oP 1 [0, 2, 13] [.string line, pP g3, .agg #[.slice (some ⟨g10, 0, none⟩) n11 n11, bF]] fun b12 => ?_
 refine OPS.cons (opStep.box hp9 [.slice (some ⟨g10, 0, none⟩) n11 n11, bF] (by kernel_rfl) (fun g15 w13 hp14 => ?_))
 refine oP 1 [0, 2, 4] [.string line, pP g3, pP g15] fun b16 => ?_
 refine OPS.nil (thn_n (WP.seq (wR (oP 1 [0, 2, 4, 15] [.string line, pP g3, pP g15, pP g15] fun b17 => ?_))))
 have hp20 := hp14.pull1
 have hp21 := hp20.pull1
 refine OPS.cons (opStep.call (some 16) [pP g15] (by kernel_rfl) (w_next _ _ g15 g10 (⟨some ⟨g10, 0, none⟩, n11, n11⟩ : SlH) (wordsB line) false _ hp21) ?_)
 rintro _ w22 ⟨h24, rfl, hp23⟩
 refine ⟨_, rfl, ?_⟩
 refine OPS.cons (opStep.alloc hp23 [.string ByteArray.empty] (by kernel_rfl) (fun g27 w25 hp26 => ?_))
 refine OPS.cons (opStep.store0 hp26 rfl (qa1 line ByteArray.empty) (qa1 line ByteArray.empty) (by kernel_rfl) (fun w28 hp29 => ?_))
 refine OPS.nil (thn_n (WP.seq (wR ?_)))
 refine OPS.cons (opStep.sliceArr (a := ⟨0, 0, none⟩) (n := 17) (sz := 7) (by kernel_rfl) (by kernel_rfl) ?_)
 refine oP 1 [0, 2, 4, 17, 18] [.string line, pP g3, pP g15, .slice (some ⟨0, 0, none⟩) 17 17, .func (.func 47) #[] #[pP g27]] fun b32 => ?_
 refine OPS.cons (opStep.call (some 19) [.slice (some ⟨0, 0, none⟩) 17 17, .func (.func 47) #[] #[pP g27]] (by kernel_rfl) (sc_index ((wordsB line).headD ByteArray.empty) g27 _ (hls.fram hp29.fr) hp29.get0) ?_)
 rintro _ w35 ⟨rfl, hf36⟩
 refine ⟨_, rfl, ?_⟩
 have hp37 := hp29.step hf36
 have hkr := kOf_rng ((wordsB line).headD ByteArray.empty)
 have hkc : kOf ((wordsB line).headD ByteArray.empty) = -1 ∨ kOf ((wordsB line).headD ByteArray.empty) = 0 ∨ kOf ((wordsB line).headD ByteArray.empty) = 1 ∨ kOf ((wordsB line).headD ByteArray.empty) = 2 ∨ kOf ((wordsB line).headD ByteArray.empty) = 9 ∨ kOf ((wordsB line).headD ByteArray.empty) = 10 ∨ kOf ((wordsB line).headD ByteArray.empty) = 12 ∨ kOf ((wordsB line).headD ByteArray.empty) = 14 ∨ kOf ((wordsB line).headD ByteArray.empty) = 16 ∨ (∃ k, PA k ∧ kOf ((wordsB line).headD ByteArray.empty) = k) := by unfold PA; by_cases hq_ : kOf ((wordsB line).headD ByteArray.empty) = -1 ∨ kOf ((wordsB line).headD ByteArray.empty) = 0 ∨ kOf ((wordsB line).headD ByteArray.empty) = 1 ∨ kOf ((wordsB line).headD ByteArray.empty) = 2 ∨ kOf ((wordsB line).headD ByteArray.empty) = 9 ∨ kOf ((wordsB line).headD ByteArray.empty) = 10 ∨ kOf ((wordsB line).headD ByteArray.empty) = 12 ∨ kOf ((wordsB line).headD ByteArray.empty) = 14 ∨ kOf ((wordsB line).headD ByteArray.empty) = 16; omega; exact .inr (.inr (.inr (.inr (.inr (.inr (.inr (.inr (.inr ⟨_, by omega, rfl⟩))))))))
 rcases hkc with hk38 | hk38 | hk38 | hk38 | hk38 | hk38 | hk38 | hk38 | hk38 | ⟨k, hpa, hk38⟩
 ·rw [hk38]
  refine oP 1 [0, 2, 4, 6] [.string line, pP g3, pP g15, iI (-1)] fun b39 => ?_
  refine OPS.nil (thn_n (WP.seq (WP.seq (wP [0, 2, 4, 6, 21] [.string line, pP g3, pP g15, iI (-1), bT] fun b40 => ?_))))
  refine thn_n (WP.condT rfl (WP.seq (wR (oP 1 [2, 22] (qa2 g3 ByteArray.empty) fun b41 => ?_))))
  refine OPS.cons (opStep.store3 hp37 rfl (qa0 ByteArray.empty) (qa0 ByteArray.empty) (by kernel_rfl) (fun w42 hp43 => ?_))
  refine oP 1 [2, 3] [pP g3, bF] fun b44 => ?_
  refine OPS.nil (thn_n (WP.ret (thn_r ?_)))
  refine bodyQ.of _ rfl (qa3 ByteArray.empty) ⟨⟨_, rfl, (lN 31 0 (qa0 ByteArray.empty) hp43.get3)⟩, rfl, trivial⟩ ?_
  exact ⟨⟨0, 0, 0, ⟨#[]⟩, ⟨none, 0, 0⟩, ⟨none, 0, 0⟩⟩, ⟨0, 0, 0, ⟨#[]⟩, ⟨#[]⟩, []⟩, false, _, rfl, ⟨fun h => (by cases h), fun _ => not_line (by rw [hk38]; decide)⟩, Hp.soMake0 _ _ rfl rfl rfl rfl rfl rfl (hp43.nil.nilOwn 3 1)⟩
 ·rw [hk38]
  refine oP 1 [0, 2, 4, 6] [.string line, pP g3, pP g15, iI 0] fun b45 => ?_
  refine OPS.nil (thn_n (WP.seq (WP.seq (wP [0, 2, 4, 6, 21] [.string line, pP g3, pP g15, iI 0, bT] fun b46 => ?_))))
  refine thn_n (WP.condT rfl (WP.seq (wR (oP 1 [2, 22] (qa2 g3 ByteArray.empty) fun b47 => ?_))))
  refine OPS.cons (opStep.store3 hp37 rfl (qa0 ByteArray.empty) (qa0 ByteArray.empty) (by kernel_rfl) (fun w48 hp49 => ?_))
  refine oP 1 [2, 3] [pP g3, bF] fun b50 => ?_
  refine OPS.nil (thn_n (WP.ret (thn_r ?_)))
  refine bodyQ.of _ rfl (qa3 ByteArray.empty) ⟨⟨_, rfl, (lN 31 0 (qa0 ByteArray.empty) hp49.get3)⟩, rfl, trivial⟩ ?_
  exact ⟨⟨0, 0, 0, ⟨#[]⟩, ⟨none, 0, 0⟩, ⟨none, 0, 0⟩⟩, ⟨0, 0, 0, ⟨#[]⟩, ⟨#[]⟩, []⟩, false, _, rfl, ⟨fun h => (by cases h), fun _ => not_line (by rw [hk38]; decide)⟩, Hp.soMake0 _ _ rfl rfl rfl rfl rfl rfl (hp49.nil.nilOwn 3 1)⟩
 ·rw [hk38]
  refine oP 1 [0, 2, 4, 6] [.string line, pP g3, pP g15, iI 1] fun b51 => ?_
  refine OPS.nil (thn_n (WP.seq (WP.seq (wP [0, 2, 4, 6, 21] [.string line, pP g3, pP g15, iI 1, bF] fun b52 => ?_))))
  refine thn_n (WP.condF rfl (WP.skip (thn_n (WP.seq (wR (oQ 3 {} [qa4] [0, 2, 4, 6, 25] [.string line, pP g3, pP g15, iI 1, qa4] (.cons (show InB (1) (17) from ⟨by omega, by omega⟩) (.cons (lN 56 7 qa5 (row_at hls.tab hp37.fr)) .nil)) fun b53 => ?_))))))
  refine OPS.cons (opStep.alloc hp37 (qa6 ByteArray.empty) (by kernel_rfl) (fun g56 w54 hp55 => ?_))
  refine OPS.cons (opStep.store0 hp55 rfl qa5 qa5 (by kernel_rfl) (fun w57 hp58 => ?_))
  refine OPS.nil (thn_n (WP.seq (wR (oP 2 [0, 2, 4, 7, 27] [.string line, pP g3, pP g15, pP g56, .agg #[iI 1, iI 0, iI 0, .string ByteArray.empty, nS, nS]] fun b59 => ?_))))
  refine OPS.cons (opStep.alloc hp58 (qa0 ByteArray.empty) (by kernel_rfl) (fun g62 w60 hp61 => ?_))
  refine OPS.cons (opStep.store0 hp61 rfl [iI 1, iI 0, iI 0, .string ByteArray.empty, nS, nS] [iI 1, iI 0, iI 0, .string ByteArray.empty, nS, nS] (by kernel_rfl) (fun w63 hp64 => ?_))
  refine OPS.nil (thn_n (WP.seq (WP.seq (wQ {} [bT] [0, 2, 4, 7, 8, 29] (qa7 line g3 g15 g56 g62) (.cons (l1 4 1 (bT) hp64.get1) .nil) fun b65 => ?_))))
  refine thn_n (WP.condT rfl (wR (oP 1 [0, 2, 4, 7, 8, 30] (qa8 line g3 g15 g56 g62) fun b66 => ?_)))
  have hp69 := hp64.pull4
  have hp70 := hp69.pull4
  refine OPS.cons (opStep.call (some 31) [pP g15] (by kernel_rfl) (w_number _ _ g15 g10 h24 ((wordsB line).tail) (false || (wordsB line).isEmpty) _ hl (tail_size hsz) hp70) ?_)
  rintro _ w71 ⟨h73, v74, bd75_, rfl, hn76, hp72⟩
  refine ⟨_, rfl, ?_⟩
  have hn76a := hn76.rng.1
  have hn76b := hn76.rng.2
  have hn76z := itoaT_size hn76a hn76b
  refine oP 1 [0, 2, 4, 7, 8, 31, 32] (qa9 line g3 g15 g56 g62 v74) fun b77 => ?_
  refine OPS.cons (opStep.store2 hp72 rfl [iI v74] [iI 1, iI v74, iI 0, .string ByteArray.empty, nS, nS] (by kernel_rfl) (fun w78 hp79 => ?_))
  refine OPS.nil (thn_n (WP.seq (WP.seq (wQ {} [bF] [0, 2, 4, 7, 8, 34] (qa10 line g3 g15 g56 g62) (.cons (l1 4 2 (bF) hp79.get3) .nil) fun b80 => ?_))))
  refine thn_n (WP.condF rfl (WP.skip (thn_n (WP.seq (WP.seq (wQ {} [bT] [0, 2, 4, 7, 8, 39] (qa7 line g3 g15 g56 g62) (.cons (l1 4 3 (bT) hp79.get3) .nil) fun b81 => ?_))))))
  refine thn_n (WP.condT rfl (wR (oP 1 [0, 2, 4, 7, 8, 40] (qa8 line g3 g15 g56 g62) fun b82 => ?_)))
  have hp85 := hp79.pull1
  have hp86 := hp85.pull1
  refine OPS.cons (opStep.call (some 41) [pP g15] (by kernel_rfl) (w_bytes _ _ g15 g10 h73 (((wordsB line).tail).tail) bd75_ _ (tail_size (tail_size hsy)) hp86) ?_)
  rintro _ w87 ⟨h89, v90, bd91_, rfl, hn92, hp88⟩
  refine ⟨_, rfl, ?_⟩
  refine oP 1 [0, 2, 4, 7, 8, 41, 42] [.string line, pP g3, pP g15, pP g56, pP g62, .string v90, .pointer (some ⟨g62, 3, none⟩)] fun b93 => ?_
  refine OPS.cons (opStep.store2 hp88 rfl [.string v90] [iI 1, iI v74, iI 0, .string v90, nS, nS] (by kernel_rfl) (fun w94 hp95 => ?_))
  refine OPS.nil (thn_n (WP.seq (WP.seq (wQ {} [bT] [0, 2, 4, 8, 44] [.string line, pP g3, pP g15, pP g62, bT] (.cons (l1 4 4 (bT) hp95.get3) .nil) fun b96 => ?_))))
  refine thn_n (WP.condT rfl (wR (oP 1 [0, 2, 4, 8, 45] [.string line, pP g3, pP g15, pP g62, pP g15] fun b97 => ?_)))
  have hp100 := hp95.pull1
  have hp101 := hp100.pull1
  refine OPS.cons (opStep.call (some 46) [pP g15] (by kernel_rfl) (w_bytes _ _ g15 g10 h89 ((((wordsB line).tail).tail).tail) bd91_ _ (tail_size (tail_size (tail_size hsy))) hp101) ?_)
  rintro _ w102 ⟨h104, v105, bd106_, rfl, hn107, hp103⟩
  refine ⟨_, rfl, ?_⟩
  refine OPS.cons (opStep.strBytesM (E := 5) hp103 (by kernel_rfl) rfl (Nat.le_trans (Nat.le_trans (Nat.le_trans hn107.le (head_size (tail_size (tail_size (tail_size hsl))))) hline) (by decide)) (fun g110 c111 w108 hp109 => ?_))
  refine oP 1 [0, 2, 4, 8, 47, 48] [.string line, pP g3, pP g15, pP g62, .slice (some ⟨g110, 0, none⟩) v105.size c111, .pointer (some ⟨g62, 4, none⟩)] fun b112 => ?_
  refine OPS.cons (opStep.store3 hp109 rfl [.slice (some ⟨g110, 0, none⟩) v105.size c111] [iI 1, iI v74, iI 0, .string v90, .slice (some ⟨g110, 0, none⟩) v105.size c111, nS] (by kernel_rfl) (fun w113 hp114 => ?_))
  refine OPS.nil (thn_n (WP.seq (WP.block ?_)))
  have hp115 := (show Hp w Non [Res.own 3 1 (nS) 0 (List.flatMap i64c ([] : List Int)), Res.ow2 5 1 (.slice (some ⟨g110, 0, none⟩) v105.size c111) v105.size (List.flatMap u8c (bytesI v105)), Res.row g15 [.slice h104.a h104.n h104.c, .bool bd106_] 75, Res.lst g10 h104 (((((wordsB line).tail).tail).tail).tail), Res.row g62 [iI 1, iI v74, iI 0, .string v90, .slice (some ⟨g110, 0, none⟩) v105.size c111, nS] 31, Res.row g56 qa5 56, Res.row g27 (qa1 line ByteArray.empty) 9, Res.row g3 (qa0 ByteArray.empty) 31] w113 from hp114.nilOwn 3 1)
  refine WP.loop (fun mz_ e116 w117 => ∃ (wz : List ByteArray) (hz : SlH) (bz : Bool) (ls : List Int) (ao : Option Addr) (no : Nat) (co : Nat), mz_ = wz.length ∧ (wz = List.drop ls.length (((((wordsB line).tail).tail).tail).tail) ∧ ls.length ≤ (wordsB line).length ∧ RnI bd106_ (((((wordsB line).tail).tail).tail).tail) ls bz ∧ (∀ x ∈ wz, x.size ≤ 281474976710656)) ∧ List.map e116 [0, 2, 4, 8] = (qa11 line g3 g15 g62) ∧ Hp w Non [Res.own 3 1 (.slice ao no co) no (List.flatMap i64c ls), Res.ow2 5 1 (.slice (some ⟨g110, 0, none⟩) v105.size c111) v105.size (List.flatMap u8c (bytesI v105)), Res.row g15 [.slice hz.a hz.n hz.c, .bool bz] 75, Res.lst g10 hz wz, Res.row g62 [iI 1, iI v74, iI 0, .string v90, .slice (some ⟨g110, 0, none⟩) v105.size c111, .slice ao no co] 31, Res.row g56 qa5 56, Res.row g27 (qa1 line ByteArray.empty) 9, Res.row g3 (qa0 ByteArray.empty) 31] w117) ((((((wordsB line).tail).tail).tail).tail).length) ⟨((((wordsB line).tail).tail).tail).tail, h104, bd106_, [], none, 0, 0, rfl, ⟨rfl, Nat.zero_le _, rn_start _ _, (tail_size (tail_size (tail_size (tail_size hsz))))⟩, by kernel_rfl, hp115⟩ ?_
  rintro _ e116 w117 ⟨wz, hz, bz, ls, ao, no, co, rfl, hI119, hE120, hp118⟩
  obtain ⟨b121, rfl⟩ := toMk hE120
  clear hE120
  obtain ⟨pa, pb, hrn, hsw⟩ := hI119
  have hlz := lst_len hp118.get3
  have hsz := hsw
  have pe := own_flat (f := i64c) (sz := 1) (fun _ => rfl) (by decide) hp118.get0
  have hdl := congrArg List.length pa
  rw [List.length_drop] at hdl
  have hw4 : (((((wordsB line).tail).tail).tail).tail).length ≤ (wordsB line).length := by simp only [List.length_tail]; omega
  refine WP.seq (WP.seq (wQ {} [.slice hz.a hz.n hz.c] [0, 2, 4, 8, 54] [.string line, pP g3, pP g15, pP g62, .bool (decide (0 < ((hz.n : Nat) : Int)))] (.cons (l1 36 0 (.slice hz.a hz.n hz.c) hp118.get2) .nil) fun b122 => ?_))
  refine thn_n ?_
  refine WP.test (p := 0 < ((hz.n : Nat) : Int)) rfl Bp.dec (fun h123 => ?_) (fun h123 => ?_)
  ·refine WP.skip (thn_n (WP.block ?_))
   have hp124 := hp118.drew
   refine WP.held (fun w125 => Ld Tryd.prog w125 29 ⟨g62, 5, none⟩ (.slice ao no co) ∧ True) [7] [(0, true), (1, true), (2, true), (3, false), (4, false), (5, false), (6, true), (7, false)] (np_blk (np_thn (np_blk (np_thn np_body)))) (by kernel_rfl) ?_
   refine hQ 3 {} [.slice ao no co] [0, 2, 4, 8, 56, 57] [.string line, pP g3, pP g15, pP g62, .slice ao no co, pP g15] ⟨(l1 29 5 (.slice ao no co) hp124.get4), trivial⟩ (fun w126 hS127 => (.cons (hS127.1) .nil)) fun b128 => ?_
   have hp131 := hp124.pull3
   have hp132 := hp131.pull3
   refine HOPS.eff _ rfl (opStep.call (some 58) [pP g15] (by kernel_rfl) (w_number _ _ g15 g10 hz wz bz _ hl hsz hp132) ?_)
   rintro _ w133 ⟨h135, v136, bd137_, rfl, hn138, hp134⟩
   refine ⟨_, rfl, ?_⟩
   have hn138a := hn138.rng.1
   have hn138b := hn138.rng.2
   have hn138z := itoaT_size hn138a hn138b
   refine ⟨.inr ⟨(l1 29 5 (.slice ao no co) hp134.get4), trivial⟩, ?_⟩
   refine HOPS.eff _ rfl (opStep.buildSlice (E := 3) hp134 [iI v136] (by kernel_rfl) (fun g141 w139 hp140 => ?_))
   refine ⟨.inr ⟨(l1 29 5 (.slice ao no co) hp140.get5), trivial⟩, ?_⟩
   refine HOPS.eff _ rfl (opStep.append3 [iI v136] hp140 8 (by kernel_rfl) rfl rfl rfl (SlR.row (n := 1) hp140.get0 rfl).rd (List.all_eq_true.1 (by kernel_rfl)) (by decide) (by omega) (by omega) (fun a144 c145 w146 hp147 hn148 => ?_))
   rw [(show List.flatMap i64c ls ++ [iI v136] = List.flatMap i64c (ls ++ [v136]) from (List.flatMap_append (xs := ls) (ys := [v136])).symm)] at hp147
   refine ⟨.inr ⟨(l1 29 5 (.slice ao no co) hp147.get5), trivial⟩, ?_⟩
   refine hP 1 [0, 2, 4, 8, 60, 61] [.string line, pP g3, pP g15, pP g62, .slice a144 (no + 1) c145, .pointer (some ⟨g62, 5, none⟩)] ⟨(l1 29 5 (.slice ao no co) hp147.get5), trivial⟩ fun b151 => ?_
   refine HOPS.eff _ rfl (opStep.store5 hp147 rfl [.slice a144 (no + 1) c145] [iI 1, iI v74, iI 0, .string v90, .slice (some ⟨g110, 0, none⟩) v105.size c111, .slice a144 (no + 1) c145] (by kernel_rfl) (fun w152 hp153 => ?_))
   refine ⟨.inl rfl, ?_⟩
   refine HOPS.nil (blk_n (thn_n ?_))
   exact ⟨(wz.tail).length, (by rw [List.length_tail]; omega), wz.tail, h135, bd137_, ls ++ [v136], a144, no + 1, c145, rfl, ⟨by rw [List.length_append, List.length_singleton, ← List.drop_drop, ← pa, List.drop_one], by rw [List.length_append, List.length_singleton]; omega, rn_step hrn pa hn138 (by omega), tail_size hsw⟩, by kernel_rfl, (((((((((hp153.pull8).pull8).pull8).pull8).pull6).pull6).pull8).pull8).sub (.cons_cons _ (.cons_cons _ (.cons_cons _ (.cons_cons _ (.cons_cons _ (.cons_cons _ (.cons_cons _ (.cons_cons _ (.cons _ (.slnil)))))))))))⟩
  ·refine WP.exit (thn_x (thn_x (blk_hit (thn_n (WP.seq (wR (oQ 1 {} [.agg #[iI 1, iI v74, iI 0, .string v90, .slice (some ⟨g110, 0, none⟩) v105.size c111, .slice ao no co]] [0, 2, 4, 8, 63] [.string line, pP g3, pP g15, pP g62, .agg #[iI 1, iI v74, iI 0, .string v90, .slice (some ⟨g110, 0, none⟩) v105.size c111, .slice ao no co]] (.cons (lN 31 0 [iI 1, iI v74, iI 0, .string v90, .slice (some ⟨g110, 0, none⟩) v105.size c111, .slice ao no co] hp118.get4) .nil) fun b154 => ?_)))))))
   obtain ⟨xx, hxx⟩ : ∃ z : StepP, z = ⟨1, v74, 0, v90, v105, ls⟩ := ⟨_, rfl⟩
   have hsm : smS xx := by rw [hxx]; exact ⟨⟨hn76.rng, in0, hrn.1⟩, (Nat.le_trans (Nat.le_trans hn92.le (head_size (tail_size (tail_size hsl)))) hline), (Nat.le_trans (Nat.le_trans hn107.le (head_size (tail_size (tail_size (tail_size hsl))))) hline), by simp only; omega⟩
   refine OPS.cons (opStep.call (some 64) [.agg #[iI 1, iI v74, iI 0, .string v90, .slice (some ⟨g110, 0, none⟩) v105.size c111, .slice ao no co]] (by kernel_rfl) (sc_Line (⟨1, v74, 0, v90, ⟨some ⟨g110, 0, none⟩, v105.size, c111⟩, ⟨ao, no, co⟩⟩ : GStep) xx _ (hls.fram hp118.fr) (by rw [hxx]; exact (StR.of rfl rfl rfl rfl (⟨rfl, SlR.ow2 hp118.get1⟩) (own_flat (f := i64c) (sz := 1) (fun _ => rfl) (by decide) hp118.get0).symm (SlR.own hp118.get0))) hsm) ?_)
   rintro _ w157 ⟨rfl, hf158⟩
   refine ⟨_, rfl, ?_⟩
   have hp159 := hp118.step hf158
   refine oP 5 [0, 2, 4, 8, 9, 10] (qa12 line g3 g15 g62 xx) fun b160 => ?_
   refine OPS.nil (thn_n ?_)
   refine WP.cut (fun e202 w203 => ∃ (x200 : Bool), (True) ∧ Bp x200 ((¬ (bz = true)) ∧ ((chkI xx) = 0) ∧ ((lineV xx) = line)) ∧ List.map e202 [2, 3] = [pP g3, .bool x200] ∧ Hp w Non [Res.own 3 1 (.slice ao no co) no (List.flatMap i64c ls), Res.ow2 5 1 (.slice (some ⟨g110, 0, none⟩) v105.size c111) v105.size (List.flatMap u8c (bytesI v105)), Res.row g15 [.slice hz.a hz.n hz.c, .bool bz] 75, Res.lst g10 hz wz, Res.row g62 [iI 1, iI v74, iI 0, .string v90, .slice (some ⟨g110, 0, none⟩) v105.size c111, .slice ao no co] 31, Res.row g56 qa5 56, Res.row g27 (qa1 line ByteArray.empty) 9, Res.row g3 [iI 1, iI v74, iI 0, .string v90, .slice (some ⟨g110, 0, none⟩) v105.size c111, .slice ao no co] 31] w203) ?_ ?_
   ·have hp162 := hp159.drew
    refine WP.held (fun w163 => Ld Tryd.prog w163 31 ⟨g62, 0, none⟩ (.agg #[iI 1, iI v74, iI 0, .string v90, .slice (some ⟨g110, 0, none⟩) v105.size c111, .slice ao no co]) ∧ Ld Tryd.prog w163 4 ⟨g15, 1, none⟩ (.bool bz) ∧ True) [] [(0, true), (1, true), (2, true), (3, true), (4, true), (5, true), (6, true), (7, true), (8, true), (9, true), (10, true), (11, true), (12, true), (13, true), (14, true), (15, false), (16, true)] (np_thn np_body) (by kernel_rfl) ?_
    refine hQ 7 {} [.agg #[iI 1, iI v74, iI 0, .string v90, .slice (some ⟨g110, 0, none⟩) v105.size c111, .slice ao no co], .bool bz] [0, 2, 9, 10, 67, 73] [.string line, pP g3, .string (lineV xx), iI (chkI xx), .agg #[iI 1, iI v74, iI 0, .string v90, .slice (some ⟨g110, 0, none⟩) v105.size c111, .slice ao no co], .bool (!bz)] ⟨(lN 31 0 [iI 1, iI v74, iI 0, .string v90, .slice (some ⟨g110, 0, none⟩) v105.size c111, .slice ao no co] hp162.get4), (l1 4 1 (.bool bz) hp162.get2), trivial⟩ (fun w164 hS165 => (.cons (hS165.1) (.cons (hS165.2.1) .nil))) fun b166 => ?_
    by_cases h167 : bz = true
    ·refine hP 0 [0, 2, 9, 10, 67, 73] [.string line, pP g3, .string (lineV xx), iI (chkI xx), .agg #[iI 1, iI v74, iI 0, .string v90, .slice (some ⟨g110, 0, none⟩) v105.size c111, .slice ao no co], .bool (!bz)] ⟨(lN 31 0 [iI 1, iI v74, iI 0, .string v90, .slice (some ⟨g110, 0, none⟩) v105.size c111, .slice ao no co] hp162.get4), (l1 4 1 (.bool bz) hp162.get2), trivial⟩ fun b191 => ?_
     refine HOPS.re [.string line, pP g3, .string (lineV xx), iI (chkI xx), .agg #[iI 1, iI v74, iI 0, .string v90, .slice (some ⟨g110, 0, none⟩) v105.size c111, .slice ao no co], bF] (by rw [show (!bz) = false from (Bp.not Bp.var).ff (fun k => k h167)]) ?_
     refine hQ 8 { wraps := [76, 81] } [] [2, 67, 81] [pP g3, .agg #[iI 1, iI v74, iI 0, .string v90, .slice (some ⟨g110, 0, none⟩) v105.size c111, .slice ao no co], bF] ⟨(lN 31 0 [iI 1, iI v74, iI 0, .string v90, .slice (some ⟨g110, 0, none⟩) v105.size c111, .slice ao no co] hp162.get4), (l1 4 1 (.bool bz) hp162.get2), trivial⟩ (fun w192 hS193 => .nil) fun b194 => ?_
     refine HOPS.eff _ rfl (opStep.store7 hp162 rfl [iI 1, iI v74, iI 0, .string v90, .slice (some ⟨g110, 0, none⟩) v105.size c111, .slice ao no co] [iI 1, iI v74, iI 0, .string v90, .slice (some ⟨g110, 0, none⟩) v105.size c111, .slice ao no co] (by kernel_rfl) (fun w195 hp196 => ?_))
     refine ⟨.inr ⟨(lN 31 0 [iI 1, iI v74, iI 0, .string v90, .slice (some ⟨g110, 0, none⟩) v105.size c111, .slice ao no co] hp196.get4), (l1 4 1 (.bool bz) hp196.get2), trivial⟩, ?_⟩
     refine hP 1 [2, 3] [pP g3, bF] ⟨(lN 31 0 [iI 1, iI v74, iI 0, .string v90, .slice (some ⟨g110, 0, none⟩) v105.size c111, .slice ao no co] hp196.get4), (l1 4 1 (.bool bz) hp196.get2), trivial⟩ fun b199 => ?_
     refine HOPS.nil (thn_n ?_)
     exact ⟨false, trivial, Bp.of Bp.f (by first | (simp [h167]; done) | grind | (simp_all; done)), by kernel_rfl, hp196⟩
    ·refine hP 0 [0, 2, 9, 10, 67, 73] [.string line, pP g3, .string (lineV xx), iI (chkI xx), .agg #[iI 1, iI v74, iI 0, .string v90, .slice (some ⟨g110, 0, none⟩) v105.size c111, .slice ao no co], .bool (!bz)] ⟨(lN 31 0 [iI 1, iI v74, iI 0, .string v90, .slice (some ⟨g110, 0, none⟩) v105.size c111, .slice ao no co] hp162.get4), (l1 4 1 (.bool bz) hp162.get2), trivial⟩ fun b168 => ?_
     refine HOPS.re [.string line, pP g3, .string (lineV xx), iI (chkI xx), .agg #[iI 1, iI v74, iI 0, .string v90, .slice (some ⟨g110, 0, none⟩) v105.size c111, .slice ao no co], bT] (by rw [show (!bz) = true from (Bp.not Bp.var).tt h167]) ?_
     refine hQ 4 { wraps := [76] } [] [0, 2, 9, 67, 77] [.string line, pP g3, .string (lineV xx), .agg #[iI 1, iI v74, iI 0, .string v90, .slice (some ⟨g110, 0, none⟩) v105.size c111, .slice ao no co], .bool (decide ((chkI xx) = 0))] ⟨(lN 31 0 [iI 1, iI v74, iI 0, .string v90, .slice (some ⟨g110, 0, none⟩) v105.size c111, .slice ao no co] hp162.get4), (l1 4 1 (.bool bz) hp162.get2), trivial⟩ (fun w169 hS170 => .nil) fun b171 => ?_
     by_cases h172 : (chkI xx) = 0
     ·refine hP 0 [0, 2, 9, 67, 77] [.string line, pP g3, .string (lineV xx), .agg #[iI 1, iI v74, iI 0, .string v90, .slice (some ⟨g110, 0, none⟩) v105.size c111, .slice ao no co], .bool (decide ((chkI xx) = 0))] ⟨(lN 31 0 [iI 1, iI v74, iI 0, .string v90, .slice (some ⟨g110, 0, none⟩) v105.size c111, .slice ao no co] hp162.get4), (l1 4 1 (.bool bz) hp162.get2), trivial⟩ fun b173 => ?_
      refine HOPS.re [.string line, pP g3, .string (lineV xx), .agg #[iI 1, iI v74, iI 0, .string v90, .slice (some ⟨g110, 0, none⟩) v105.size c111, .slice ao no co], bT] (by rw [show (decide ((chkI xx) = 0)) = true from Bp.dec.tt h172]) ?_
      refine hQ 4 { wraps := [81] } [] [2, 67, 81] [pP g3, .agg #[iI 1, iI v74, iI 0, .string v90, .slice (some ⟨g110, 0, none⟩) v105.size c111, .slice ao no co], .bool (decide ((lineV xx) = line))] ⟨(lN 31 0 [iI 1, iI v74, iI 0, .string v90, .slice (some ⟨g110, 0, none⟩) v105.size c111, .slice ao no co] hp162.get4), (l1 4 1 (.bool bz) hp162.get2), trivial⟩ (fun w174 hS175 => .nil) fun b176 => ?_
      refine HOPS.eff _ rfl (opStep.store7 hp162 rfl [iI 1, iI v74, iI 0, .string v90, .slice (some ⟨g110, 0, none⟩) v105.size c111, .slice ao no co] [iI 1, iI v74, iI 0, .string v90, .slice (some ⟨g110, 0, none⟩) v105.size c111, .slice ao no co] (by kernel_rfl) (fun w177 hp178 => ?_))
      refine ⟨.inr ⟨(lN 31 0 [iI 1, iI v74, iI 0, .string v90, .slice (some ⟨g110, 0, none⟩) v105.size c111, .slice ao no co] hp178.get4), (l1 4 1 (.bool bz) hp178.get2), trivial⟩, ?_⟩
      refine hP 1 [2, 3] [pP g3, .bool (decide ((lineV xx) = line))] ⟨(lN 31 0 [iI 1, iI v74, iI 0, .string v90, .slice (some ⟨g110, 0, none⟩) v105.size c111, .slice ao no co] hp178.get4), (l1 4 1 (.bool bz) hp178.get2), trivial⟩ fun b181 => ?_
      refine HOPS.nil (thn_n ?_)
      exact ⟨decide ((lineV xx) = line), trivial, Bp.of Bp.dec (by first | (simp [h167, h172]; done) | grind | (simp_all; done)), by kernel_rfl, hp178⟩
     ·refine hP 0 [0, 2, 9, 67, 77] [.string line, pP g3, .string (lineV xx), .agg #[iI 1, iI v74, iI 0, .string v90, .slice (some ⟨g110, 0, none⟩) v105.size c111, .slice ao no co], .bool (decide ((chkI xx) = 0))] ⟨(lN 31 0 [iI 1, iI v74, iI 0, .string v90, .slice (some ⟨g110, 0, none⟩) v105.size c111, .slice ao no co] hp162.get4), (l1 4 1 (.bool bz) hp162.get2), trivial⟩ fun b182 => ?_
      refine HOPS.re [.string line, pP g3, .string (lineV xx), .agg #[iI 1, iI v74, iI 0, .string v90, .slice (some ⟨g110, 0, none⟩) v105.size c111, .slice ao no co], bF] (by rw [show (decide ((chkI xx) = 0)) = false from Bp.dec.ff h172]) ?_
      refine hQ 4 { wraps := [81] } [] [2, 67, 81] [pP g3, .agg #[iI 1, iI v74, iI 0, .string v90, .slice (some ⟨g110, 0, none⟩) v105.size c111, .slice ao no co], bF] ⟨(lN 31 0 [iI 1, iI v74, iI 0, .string v90, .slice (some ⟨g110, 0, none⟩) v105.size c111, .slice ao no co] hp162.get4), (l1 4 1 (.bool bz) hp162.get2), trivial⟩ (fun w183 hS184 => .nil) fun b185 => ?_
      refine HOPS.eff _ rfl (opStep.store7 hp162 rfl [iI 1, iI v74, iI 0, .string v90, .slice (some ⟨g110, 0, none⟩) v105.size c111, .slice ao no co] [iI 1, iI v74, iI 0, .string v90, .slice (some ⟨g110, 0, none⟩) v105.size c111, .slice ao no co] (by kernel_rfl) (fun w186 hp187 => ?_))
      refine ⟨.inr ⟨(lN 31 0 [iI 1, iI v74, iI 0, .string v90, .slice (some ⟨g110, 0, none⟩) v105.size c111, .slice ao no co] hp187.get4), (l1 4 1 (.bool bz) hp187.get2), trivial⟩, ?_⟩
      refine hP 1 [2, 3] [pP g3, bF] ⟨(lN 31 0 [iI 1, iI v74, iI 0, .string v90, .slice (some ⟨g110, 0, none⟩) v105.size c111, .slice ao no co] hp187.get4), (l1 4 1 (.bool bz) hp187.get2), trivial⟩ fun b190 => ?_
      refine HOPS.nil (thn_n ?_)
      exact ⟨false, trivial, Bp.of Bp.f (by first | (simp [h167, h172]; done) | grind | (simp_all; done)), by kernel_rfl, hp187⟩
   rintro e202 w203 ⟨x200, hd205, hb201, hE206, hp204⟩
   obtain ⟨b207, rfl⟩ := toMk hE206
   clear hE206
   clear hd205
   refine WP.ret ?_
   refine bodyQ.of _ rfl [.agg #[iI 1, iI v74, iI 0, .string v90, .slice (some ⟨g110, 0, none⟩) v105.size c111, .slice ao no co], .bool x200] ⟨⟨_, rfl, (lN 31 0 [iI 1, iI v74, iI 0, .string v90, .slice (some ⟨g110, 0, none⟩) v105.size c111, .slice ao no co] hp204.get7)⟩, rfl, trivial⟩ ?_
   have hre := fun y (h1 : okS y) (h2 : inS y) (h3 : y.Kind = 1) (h4 : lineS y = line) => (show _ ∧ xx = y from hxx ▸ read_ok (k := 1) (line := line) rfl rfl (.t rfl ⟨hn76, rfl⟩) (.f rfl ⟨rfl, rfl, rfl⟩) (.t rfl ⟨hn92, rfl⟩) (.t rfl ⟨hn107, rfl⟩) (rn_end hrn pa (by omega)) h1 h2 h3 h4)
   have hfin := step_fin (P := (¬ (bz = true)) ∧ ((chkI xx) = 0) ∧ ((lineV xx) = line)) hk38 hsm.1 hre (by have q0_ := h123 ; first | grind | (simp_all; done))
   exact ⟨(⟨1, v74, 0, v90, ⟨some ⟨g110, 0, none⟩, v105.size, c111⟩, ⟨ao, no, co⟩⟩ : GStep), xx, _, _, rfl, ⟨fun h => hfin.1 (Bp.tr hb201 h), fun h => hfin.2 (Bp.fa hb201 h)⟩, (by rw [hxx]; exact Hp.soMakeV (⟨1, v74, 0, v90, ⟨some ⟨g110, 0, none⟩, v105.size, c111⟩, ⟨ao, no, co⟩⟩ : GStep) _ rfl rfl rfl rfl rfl rfl (((hp204.pull0).pull1).sub (.cons_cons _ (.cons_cons _ (.cons _ (.cons _ (.cons _ (.cons _ (.cons _ (.cons _ (.slnil)))))))))))⟩
 ·rw [hk38]
  refine oP 1 [0, 2, 4, 6] [.string line, pP g3, pP g15, iI 2] fun b208 => ?_
  refine OPS.nil (thn_n (WP.seq (WP.seq (wP [0, 2, 4, 6, 21] [.string line, pP g3, pP g15, iI 2, bF] fun b209 => ?_))))
  refine thn_n (WP.condF rfl (WP.skip (thn_n (WP.seq (wR (oQ 3 {} [qa13] [0, 2, 4, 6, 25] [.string line, pP g3, pP g15, iI 2, qa13] (.cons (show InB (2) (17) from ⟨by omega, by omega⟩) (.cons (lN 56 14 qa14 (row_at hls.tab hp37.fr)) .nil)) fun b210 => ?_))))))
  refine OPS.cons (opStep.alloc hp37 (qa6 ByteArray.empty) (by kernel_rfl) (fun g213 w211 hp212 => ?_))
  refine OPS.cons (opStep.store0 hp212 rfl qa14 qa14 (by kernel_rfl) (fun w214 hp215 => ?_))
  refine OPS.nil (thn_n (WP.seq (wR (oP 2 [0, 2, 4, 7, 27] [.string line, pP g3, pP g15, pP g213, .agg #[iI 2, iI 0, iI 0, .string ByteArray.empty, nS, nS]] fun b216 => ?_))))
  refine OPS.cons (opStep.alloc hp215 (qa0 ByteArray.empty) (by kernel_rfl) (fun g219 w217 hp218 => ?_))
  refine OPS.cons (opStep.store0 hp218 rfl [iI 2, iI 0, iI 0, .string ByteArray.empty, nS, nS] [iI 2, iI 0, iI 0, .string ByteArray.empty, nS, nS] (by kernel_rfl) (fun w220 hp221 => ?_))
  refine OPS.nil (thn_n (WP.seq (WP.seq (wQ {} [bT] [0, 2, 4, 7, 8, 29] (qa7 line g3 g15 g213 g219) (.cons (l1 4 1 (bT) hp221.get1) .nil) fun b222 => ?_))))
  refine thn_n (WP.condT rfl (wR (oP 1 [0, 2, 4, 7, 8, 30] (qa8 line g3 g15 g213 g219) fun b223 => ?_)))
  have hp226 := hp221.pull4
  have hp227 := hp226.pull4
  refine OPS.cons (opStep.call (some 31) [pP g15] (by kernel_rfl) (w_number _ _ g15 g10 h24 ((wordsB line).tail) (false || (wordsB line).isEmpty) _ hl (tail_size hsz) hp227) ?_)
  rintro _ w228 ⟨h230, v231, bd232_, rfl, hn233, hp229⟩
  refine ⟨_, rfl, ?_⟩
  have hn233a := hn233.rng.1
  have hn233b := hn233.rng.2
  have hn233z := itoaT_size hn233a hn233b
  refine oP 1 [0, 2, 4, 7, 8, 31, 32] (qa9 line g3 g15 g213 g219 v231) fun b234 => ?_
  refine OPS.cons (opStep.store2 hp229 rfl [iI v231] [iI 2, iI v231, iI 0, .string ByteArray.empty, nS, nS] (by kernel_rfl) (fun w235 hp236 => ?_))
  refine OPS.nil (thn_n (WP.seq (WP.seq (wQ {} [bF] [0, 2, 4, 7, 8, 34] (qa10 line g3 g15 g213 g219) (.cons (l1 4 2 (bF) hp236.get3) .nil) fun b237 => ?_))))
  refine thn_n (WP.condF rfl (WP.skip (thn_n (WP.seq (WP.seq (wQ {} [bT] [0, 2, 4, 7, 8, 39] (qa7 line g3 g15 g213 g219) (.cons (l1 4 3 (bT) hp236.get3) .nil) fun b238 => ?_))))))
  refine thn_n (WP.condT rfl (wR (oP 1 [0, 2, 4, 7, 8, 40] (qa8 line g3 g15 g213 g219) fun b239 => ?_)))
  have hp242 := hp236.pull1
  have hp243 := hp242.pull1
  refine OPS.cons (opStep.call (some 41) [pP g15] (by kernel_rfl) (w_bytes _ _ g15 g10 h230 (((wordsB line).tail).tail) bd232_ _ (tail_size (tail_size hsy)) hp243) ?_)
  rintro _ w244 ⟨h246, v247, bd248_, rfl, hn249, hp245⟩
  refine ⟨_, rfl, ?_⟩
  refine oP 1 [0, 2, 4, 7, 8, 41, 42] [.string line, pP g3, pP g15, pP g213, pP g219, .string v247, .pointer (some ⟨g219, 3, none⟩)] fun b250 => ?_
  refine OPS.cons (opStep.store2 hp245 rfl [.string v247] [iI 2, iI v231, iI 0, .string v247, nS, nS] (by kernel_rfl) (fun w251 hp252 => ?_))
  refine OPS.nil (thn_n (WP.seq (WP.seq (wQ {} [bF] [0, 2, 4, 8, 44] (qa15 line g3 g15 g219) (.cons (l1 4 4 (bF) hp252.get3) .nil) fun b253 => ?_))))
  refine thn_n (WP.condF rfl (WP.skip (thn_n (WP.seq (WP.block ?_)))))
  have hp254 := (show Hp w Non [Res.own 3 1 (nS) 0 (List.flatMap i64c ([] : List Int)), Res.row g15 [.slice h246.a h246.n h246.c, .bool bd248_] 75, Res.lst g10 h246 ((((wordsB line).tail).tail).tail), Res.row g219 [iI 2, iI v231, iI 0, .string v247, nS, nS] 31, Res.row g213 qa14 56, Res.row g27 (qa1 line ByteArray.empty) 9, Res.row g3 (qa0 ByteArray.empty) 31] w251 from hp252.nilOwn 3 1)
  refine WP.loop (fun mz_ e255 w256 => ∃ (wz : List ByteArray) (hz : SlH) (bz : Bool) (ls : List Int) (ao : Option Addr) (no : Nat) (co : Nat), mz_ = wz.length ∧ (wz = List.drop ls.length ((((wordsB line).tail).tail).tail) ∧ ls.length ≤ (wordsB line).length ∧ RnI bd248_ ((((wordsB line).tail).tail).tail) ls bz ∧ (∀ x ∈ wz, x.size ≤ 281474976710656)) ∧ List.map e255 [0, 2, 4, 8] = (qa11 line g3 g15 g219) ∧ Hp w Non [Res.own 3 1 (.slice ao no co) no (List.flatMap i64c ls), Res.row g15 [.slice hz.a hz.n hz.c, .bool bz] 75, Res.lst g10 hz wz, Res.row g219 [iI 2, iI v231, iI 0, .string v247, nS, .slice ao no co] 31, Res.row g213 qa14 56, Res.row g27 (qa1 line ByteArray.empty) 9, Res.row g3 (qa0 ByteArray.empty) 31] w256) (((((wordsB line).tail).tail).tail).length) ⟨(((wordsB line).tail).tail).tail, h246, bd248_, [], none, 0, 0, rfl, ⟨rfl, Nat.zero_le _, rn_start _ _, (tail_size (tail_size (tail_size hsz)))⟩, by kernel_rfl, hp254⟩ ?_
  rintro _ e255 w256 ⟨wz, hz, bz, ls, ao, no, co, rfl, hI258, hE259, hp257⟩
  obtain ⟨b260, rfl⟩ := toMk hE259
  clear hE259
  obtain ⟨pa, pb, hrn, hsw⟩ := hI258
  have hlz := lst_len hp257.get2
  have hsz := hsw
  have pe := own_flat (f := i64c) (sz := 1) (fun _ => rfl) (by decide) hp257.get0
  have hdl := congrArg List.length pa
  rw [List.length_drop] at hdl
  have hw4 : ((((wordsB line).tail).tail).tail).length ≤ (wordsB line).length := by simp only [List.length_tail]; omega
  refine WP.seq (WP.seq (wQ {} [.slice hz.a hz.n hz.c] [0, 2, 4, 8, 54] [.string line, pP g3, pP g15, pP g219, .bool (decide (0 < ((hz.n : Nat) : Int)))] (.cons (l1 36 0 (.slice hz.a hz.n hz.c) hp257.get1) .nil) fun b261 => ?_))
  refine thn_n ?_
  refine WP.test (p := 0 < ((hz.n : Nat) : Int)) rfl Bp.dec (fun h262 => ?_) (fun h262 => ?_)
  ·refine WP.skip (thn_n (WP.block ?_))
   have hp263 := hp257.drew
   refine WP.held (fun w264 => Ld Tryd.prog w264 29 ⟨g219, 5, none⟩ (.slice ao no co) ∧ True) [7] [(0, true), (1, true), (2, true), (3, false), (4, false), (5, false), (6, true), (7, false)] (np_blk (np_thn (np_blk (np_thn np_body)))) (by kernel_rfl) ?_
   refine hQ 3 {} [.slice ao no co] [0, 2, 4, 8, 56, 57] [.string line, pP g3, pP g15, pP g219, .slice ao no co, pP g15] ⟨(l1 29 5 (.slice ao no co) hp263.get3), trivial⟩ (fun w265 hS266 => (.cons (hS266.1) .nil)) fun b267 => ?_
   have hp270 := hp263.pull2
   have hp271 := hp270.pull2
   refine HOPS.eff _ rfl (opStep.call (some 58) [pP g15] (by kernel_rfl) (w_number _ _ g15 g10 hz wz bz _ hl hsz hp271) ?_)
   rintro _ w272 ⟨h274, v275, bd276_, rfl, hn277, hp273⟩
   refine ⟨_, rfl, ?_⟩
   have hn277a := hn277.rng.1
   have hn277b := hn277.rng.2
   have hn277z := itoaT_size hn277a hn277b
   refine ⟨.inr ⟨(l1 29 5 (.slice ao no co) hp273.get3), trivial⟩, ?_⟩
   refine HOPS.eff _ rfl (opStep.buildSlice (E := 3) hp273 [iI v275] (by kernel_rfl) (fun g280 w278 hp279 => ?_))
   refine ⟨.inr ⟨(l1 29 5 (.slice ao no co) hp279.get4), trivial⟩, ?_⟩
   refine HOPS.eff _ rfl (opStep.append3 [iI v275] hp279 8 (by kernel_rfl) rfl rfl rfl (SlR.row (n := 1) hp279.get0 rfl).rd (List.all_eq_true.1 (by kernel_rfl)) (by decide) (by omega) (by omega) (fun a283 c284 w285 hp286 hn287 => ?_))
   rw [(show List.flatMap i64c ls ++ [iI v275] = List.flatMap i64c (ls ++ [v275]) from (List.flatMap_append (xs := ls) (ys := [v275])).symm)] at hp286
   refine ⟨.inr ⟨(l1 29 5 (.slice ao no co) hp286.get4), trivial⟩, ?_⟩
   refine hP 1 [0, 2, 4, 8, 60, 61] [.string line, pP g3, pP g15, pP g219, .slice a283 (no + 1) c284, .pointer (some ⟨g219, 5, none⟩)] ⟨(l1 29 5 (.slice ao no co) hp286.get4), trivial⟩ fun b290 => ?_
   refine HOPS.eff _ rfl (opStep.store4 hp286 rfl [.slice a283 (no + 1) c284] [iI 2, iI v231, iI 0, .string v247, nS, .slice a283 (no + 1) c284] (by kernel_rfl) (fun w291 hp292 => ?_))
   refine ⟨.inl rfl, ?_⟩
   refine HOPS.nil (blk_n (thn_n ?_))
   exact ⟨(wz.tail).length, (by rw [List.length_tail]; omega), wz.tail, h274, bd276_, ls ++ [v275], a283, no + 1, c284, rfl, ⟨by rw [List.length_append, List.length_singleton, ← List.drop_drop, ← pa, List.drop_one], by rw [List.length_append, List.length_singleton]; omega, rn_step hrn pa hn277 (by omega), tail_size hsw⟩, by kernel_rfl, ((((((((hp292.pull7).pull7).pull7).pull7).pull6).pull6).pull7).sub (.cons_cons _ (.cons_cons _ (.cons_cons _ (.cons_cons _ (.cons_cons _ (.cons_cons _ (.cons_cons _ (.cons _ (.slnil))))))))))⟩
  ·refine WP.exit (thn_x (thn_x (blk_hit (thn_n (WP.seq (wR (oQ 1 {} [.agg #[iI 2, iI v231, iI 0, .string v247, nS, .slice ao no co]] [0, 2, 4, 8, 63] [.string line, pP g3, pP g15, pP g219, .agg #[iI 2, iI v231, iI 0, .string v247, nS, .slice ao no co]] (.cons (lN 31 0 [iI 2, iI v231, iI 0, .string v247, nS, .slice ao no co] hp257.get3) .nil) fun b293 => ?_)))))))
   obtain ⟨xx, hxx⟩ : ∃ z : StepP, z = ⟨2, v231, 0, v247, (⟨#[]⟩ : ByteArray), ls⟩ := ⟨_, rfl⟩
   have hsm : smS xx := by rw [hxx]; exact ⟨⟨hn233.rng, in0, hrn.1⟩, (Nat.le_trans (Nat.le_trans hn249.le (head_size (tail_size (tail_size hsl)))) hline), (by simp only; decide), by simp only; omega⟩
   refine OPS.cons (opStep.call (some 64) [.agg #[iI 2, iI v231, iI 0, .string v247, nS, .slice ao no co]] (by kernel_rfl) (sc_Line (⟨2, v231, 0, v247, ⟨none, 0, 0⟩, ⟨ao, no, co⟩⟩ : GStep) xx _ (hls.fram hp257.fr) (by rw [hxx]; exact (StR.of rfl rfl rfl rfl (⟨rfl, slr_nil0 _⟩) (own_flat (f := i64c) (sz := 1) (fun _ => rfl) (by decide) hp257.get0).symm (SlR.own hp257.get0))) hsm) ?_)
   rintro _ w296 ⟨rfl, hf297⟩
   refine ⟨_, rfl, ?_⟩
   have hp298 := hp257.step hf297
   refine oP 5 [0, 2, 4, 8, 9, 10] (qa12 line g3 g15 g219 xx) fun b299 => ?_
   refine OPS.nil (thn_n ?_)
   refine WP.cut (fun e341 w342 => ∃ (x339 : Bool), (True) ∧ Bp x339 ((¬ (bz = true)) ∧ ((chkI xx) = 0) ∧ ((lineV xx) = line)) ∧ List.map e341 [2, 3] = [pP g3, .bool x339] ∧ Hp w Non [Res.own 3 1 (.slice ao no co) no (List.flatMap i64c ls), Res.row g15 [.slice hz.a hz.n hz.c, .bool bz] 75, Res.lst g10 hz wz, Res.row g219 [iI 2, iI v231, iI 0, .string v247, nS, .slice ao no co] 31, Res.row g213 qa14 56, Res.row g27 (qa1 line ByteArray.empty) 9, Res.row g3 [iI 2, iI v231, iI 0, .string v247, nS, .slice ao no co] 31] w342) ?_ ?_
   ·have hp301 := hp298.drew
    refine WP.held (fun w302 => Ld Tryd.prog w302 31 ⟨g219, 0, none⟩ (.agg #[iI 2, iI v231, iI 0, .string v247, nS, .slice ao no co]) ∧ Ld Tryd.prog w302 4 ⟨g15, 1, none⟩ (.bool bz) ∧ True) [] [(0, true), (1, true), (2, true), (3, true), (4, true), (5, true), (6, true), (7, true), (8, true), (9, true), (10, true), (11, true), (12, true), (13, true), (14, true), (15, false), (16, true)] (np_thn np_body) (by kernel_rfl) ?_
    refine hQ 7 {} [.agg #[iI 2, iI v231, iI 0, .string v247, nS, .slice ao no co], .bool bz] [0, 2, 9, 10, 67, 73] [.string line, pP g3, .string (lineV xx), iI (chkI xx), .agg #[iI 2, iI v231, iI 0, .string v247, nS, .slice ao no co], .bool (!bz)] ⟨(lN 31 0 [iI 2, iI v231, iI 0, .string v247, nS, .slice ao no co] hp301.get3), (l1 4 1 (.bool bz) hp301.get1), trivial⟩ (fun w303 hS304 => (.cons (hS304.1) (.cons (hS304.2.1) .nil))) fun b305 => ?_
    by_cases h306 : bz = true
    ·refine hP 0 [0, 2, 9, 10, 67, 73] [.string line, pP g3, .string (lineV xx), iI (chkI xx), .agg #[iI 2, iI v231, iI 0, .string v247, nS, .slice ao no co], .bool (!bz)] ⟨(lN 31 0 [iI 2, iI v231, iI 0, .string v247, nS, .slice ao no co] hp301.get3), (l1 4 1 (.bool bz) hp301.get1), trivial⟩ fun b330 => ?_
     refine HOPS.re [.string line, pP g3, .string (lineV xx), iI (chkI xx), .agg #[iI 2, iI v231, iI 0, .string v247, nS, .slice ao no co], bF] (by rw [show (!bz) = false from (Bp.not Bp.var).ff (fun k => k h306)]) ?_
     refine hQ 8 { wraps := [76, 81] } [] [2, 67, 81] [pP g3, .agg #[iI 2, iI v231, iI 0, .string v247, nS, .slice ao no co], bF] ⟨(lN 31 0 [iI 2, iI v231, iI 0, .string v247, nS, .slice ao no co] hp301.get3), (l1 4 1 (.bool bz) hp301.get1), trivial⟩ (fun w331 hS332 => .nil) fun b333 => ?_
     refine HOPS.eff _ rfl (opStep.store6 hp301 rfl [iI 2, iI v231, iI 0, .string v247, nS, .slice ao no co] [iI 2, iI v231, iI 0, .string v247, nS, .slice ao no co] (by kernel_rfl) (fun w334 hp335 => ?_))
     refine ⟨.inr ⟨(lN 31 0 [iI 2, iI v231, iI 0, .string v247, nS, .slice ao no co] hp335.get3), (l1 4 1 (.bool bz) hp335.get1), trivial⟩, ?_⟩
     refine hP 1 [2, 3] [pP g3, bF] ⟨(lN 31 0 [iI 2, iI v231, iI 0, .string v247, nS, .slice ao no co] hp335.get3), (l1 4 1 (.bool bz) hp335.get1), trivial⟩ fun b338 => ?_
     refine HOPS.nil (thn_n ?_)
     exact ⟨false, trivial, Bp.of Bp.f (by first | (simp [h306]; done) | grind | (simp_all; done)), by kernel_rfl, hp335⟩
    ·refine hP 0 [0, 2, 9, 10, 67, 73] [.string line, pP g3, .string (lineV xx), iI (chkI xx), .agg #[iI 2, iI v231, iI 0, .string v247, nS, .slice ao no co], .bool (!bz)] ⟨(lN 31 0 [iI 2, iI v231, iI 0, .string v247, nS, .slice ao no co] hp301.get3), (l1 4 1 (.bool bz) hp301.get1), trivial⟩ fun b307 => ?_
     refine HOPS.re [.string line, pP g3, .string (lineV xx), iI (chkI xx), .agg #[iI 2, iI v231, iI 0, .string v247, nS, .slice ao no co], bT] (by rw [show (!bz) = true from (Bp.not Bp.var).tt h306]) ?_
     refine hQ 4 { wraps := [76] } [] [0, 2, 9, 67, 77] [.string line, pP g3, .string (lineV xx), .agg #[iI 2, iI v231, iI 0, .string v247, nS, .slice ao no co], .bool (decide ((chkI xx) = 0))] ⟨(lN 31 0 [iI 2, iI v231, iI 0, .string v247, nS, .slice ao no co] hp301.get3), (l1 4 1 (.bool bz) hp301.get1), trivial⟩ (fun w308 hS309 => .nil) fun b310 => ?_
     by_cases h311 : (chkI xx) = 0
     ·refine hP 0 [0, 2, 9, 67, 77] [.string line, pP g3, .string (lineV xx), .agg #[iI 2, iI v231, iI 0, .string v247, nS, .slice ao no co], .bool (decide ((chkI xx) = 0))] ⟨(lN 31 0 [iI 2, iI v231, iI 0, .string v247, nS, .slice ao no co] hp301.get3), (l1 4 1 (.bool bz) hp301.get1), trivial⟩ fun b312 => ?_
      refine HOPS.re [.string line, pP g3, .string (lineV xx), .agg #[iI 2, iI v231, iI 0, .string v247, nS, .slice ao no co], bT] (by rw [show (decide ((chkI xx) = 0)) = true from Bp.dec.tt h311]) ?_
      refine hQ 4 { wraps := [81] } [] [2, 67, 81] [pP g3, .agg #[iI 2, iI v231, iI 0, .string v247, nS, .slice ao no co], .bool (decide ((lineV xx) = line))] ⟨(lN 31 0 [iI 2, iI v231, iI 0, .string v247, nS, .slice ao no co] hp301.get3), (l1 4 1 (.bool bz) hp301.get1), trivial⟩ (fun w313 hS314 => .nil) fun b315 => ?_
      refine HOPS.eff _ rfl (opStep.store6 hp301 rfl [iI 2, iI v231, iI 0, .string v247, nS, .slice ao no co] [iI 2, iI v231, iI 0, .string v247, nS, .slice ao no co] (by kernel_rfl) (fun w316 hp317 => ?_))
      refine ⟨.inr ⟨(lN 31 0 [iI 2, iI v231, iI 0, .string v247, nS, .slice ao no co] hp317.get3), (l1 4 1 (.bool bz) hp317.get1), trivial⟩, ?_⟩
      refine hP 1 [2, 3] [pP g3, .bool (decide ((lineV xx) = line))] ⟨(lN 31 0 [iI 2, iI v231, iI 0, .string v247, nS, .slice ao no co] hp317.get3), (l1 4 1 (.bool bz) hp317.get1), trivial⟩ fun b320 => ?_
      refine HOPS.nil (thn_n ?_)
      exact ⟨decide ((lineV xx) = line), trivial, Bp.of Bp.dec (by first | (simp [h306, h311]; done) | grind | (simp_all; done)), by kernel_rfl, hp317⟩
     ·refine hP 0 [0, 2, 9, 67, 77] [.string line, pP g3, .string (lineV xx), .agg #[iI 2, iI v231, iI 0, .string v247, nS, .slice ao no co], .bool (decide ((chkI xx) = 0))] ⟨(lN 31 0 [iI 2, iI v231, iI 0, .string v247, nS, .slice ao no co] hp301.get3), (l1 4 1 (.bool bz) hp301.get1), trivial⟩ fun b321 => ?_
      refine HOPS.re [.string line, pP g3, .string (lineV xx), .agg #[iI 2, iI v231, iI 0, .string v247, nS, .slice ao no co], bF] (by rw [show (decide ((chkI xx) = 0)) = false from Bp.dec.ff h311]) ?_
      refine hQ 4 { wraps := [81] } [] [2, 67, 81] [pP g3, .agg #[iI 2, iI v231, iI 0, .string v247, nS, .slice ao no co], bF] ⟨(lN 31 0 [iI 2, iI v231, iI 0, .string v247, nS, .slice ao no co] hp301.get3), (l1 4 1 (.bool bz) hp301.get1), trivial⟩ (fun w322 hS323 => .nil) fun b324 => ?_
      refine HOPS.eff _ rfl (opStep.store6 hp301 rfl [iI 2, iI v231, iI 0, .string v247, nS, .slice ao no co] [iI 2, iI v231, iI 0, .string v247, nS, .slice ao no co] (by kernel_rfl) (fun w325 hp326 => ?_))
      refine ⟨.inr ⟨(lN 31 0 [iI 2, iI v231, iI 0, .string v247, nS, .slice ao no co] hp326.get3), (l1 4 1 (.bool bz) hp326.get1), trivial⟩, ?_⟩
      refine hP 1 [2, 3] [pP g3, bF] ⟨(lN 31 0 [iI 2, iI v231, iI 0, .string v247, nS, .slice ao no co] hp326.get3), (l1 4 1 (.bool bz) hp326.get1), trivial⟩ fun b329 => ?_
      refine HOPS.nil (thn_n ?_)
      exact ⟨false, trivial, Bp.of Bp.f (by first | (simp [h306, h311]; done) | grind | (simp_all; done)), by kernel_rfl, hp326⟩
   rintro e341 w342 ⟨x339, hd344, hb340, hE345, hp343⟩
   obtain ⟨b346, rfl⟩ := toMk hE345
   clear hE345
   clear hd344
   refine WP.ret ?_
   refine bodyQ.of _ rfl [.agg #[iI 2, iI v231, iI 0, .string v247, nS, .slice ao no co], .bool x339] ⟨⟨_, rfl, (lN 31 0 [iI 2, iI v231, iI 0, .string v247, nS, .slice ao no co] hp343.get6)⟩, rfl, trivial⟩ ?_
   have hre := fun y (h1 : okS y) (h2 : inS y) (h3 : y.Kind = 2) (h4 : lineS y = line) => (show _ ∧ xx = y from hxx ▸ read_ok (k := 2) (line := line) rfl rfl (.t rfl ⟨hn233, rfl⟩) (.f rfl ⟨rfl, rfl, rfl⟩) (.t rfl ⟨hn249, rfl⟩) (.f rfl ⟨rfl, rfl, rfl⟩) (rn_end hrn pa (by omega)) h1 h2 h3 h4)
   have hfin := step_fin (P := (¬ (bz = true)) ∧ ((chkI xx) = 0) ∧ ((lineV xx) = line)) hk38 hsm.1 hre (by have q0_ := h262 ; first | grind | (simp_all; done))
   exact ⟨(⟨2, v231, 0, v247, ⟨none, 0, 0⟩, ⟨ao, no, co⟩⟩ : GStep), xx, _, _, rfl, ⟨fun h => hfin.1 (Bp.tr hb340 h), fun h => hfin.2 (Bp.fa hb340 h)⟩, (by rw [hxx]; exact Hp.soMake0 (⟨2, v231, 0, v247, ⟨none, 0, 0⟩, ⟨ao, no, co⟩⟩ : GStep) _ rfl rfl rfl rfl rfl rfl (hp343.sub (.cons_cons _ (.cons _ (.cons _ (.cons _ (.cons _ (.cons _ (.cons _ (.slnil))))))))))⟩
 ·rw [hk38]
  refine oP 1 [0, 2, 4, 6] [.string line, pP g3, pP g15, iI 9] fun b347 => ?_
  refine OPS.nil (thn_n (WP.seq (WP.seq (wP [0, 2, 4, 6, 21] [.string line, pP g3, pP g15, iI 9, bF] fun b348 => ?_))))
  refine thn_n (WP.condF rfl (WP.skip (thn_n (WP.seq (wR (oQ 3 {} [qa16] [0, 2, 4, 6, 25] [.string line, pP g3, pP g15, iI 9, qa16] (.cons (show InB (9) (17) from ⟨by omega, by omega⟩) (.cons (lN 56 63 qa17 (row_at hls.tab hp37.fr)) .nil)) fun b349 => ?_))))))
  refine OPS.cons (opStep.alloc hp37 (qa6 ByteArray.empty) (by kernel_rfl) (fun g352 w350 hp351 => ?_))
  refine OPS.cons (opStep.store0 hp351 rfl qa17 qa17 (by kernel_rfl) (fun w353 hp354 => ?_))
  refine OPS.nil (thn_n (WP.seq (wR (oP 2 [0, 2, 4, 7, 27] [.string line, pP g3, pP g15, pP g352, .agg #[iI 9, iI 0, iI 0, .string ByteArray.empty, nS, nS]] fun b355 => ?_))))
  refine OPS.cons (opStep.alloc hp354 (qa0 ByteArray.empty) (by kernel_rfl) (fun g358 w356 hp357 => ?_))
  refine OPS.cons (opStep.store0 hp357 rfl [iI 9, iI 0, iI 0, .string ByteArray.empty, nS, nS] [iI 9, iI 0, iI 0, .string ByteArray.empty, nS, nS] (by kernel_rfl) (fun w359 hp360 => ?_))
  refine OPS.nil (thn_n (WP.seq (WP.seq (wQ {} [bT] [0, 2, 4, 7, 8, 29] (qa7 line g3 g15 g352 g358) (.cons (l1 4 1 (bT) hp360.get1) .nil) fun b361 => ?_))))
  refine thn_n (WP.condT rfl (wR (oP 1 [0, 2, 4, 7, 8, 30] (qa8 line g3 g15 g352 g358) fun b362 => ?_)))
  have hp365 := hp360.pull4
  have hp366 := hp365.pull4
  refine OPS.cons (opStep.call (some 31) [pP g15] (by kernel_rfl) (w_number _ _ g15 g10 h24 ((wordsB line).tail) (false || (wordsB line).isEmpty) _ hl (tail_size hsz) hp366) ?_)
  rintro _ w367 ⟨h369, v370, bd371_, rfl, hn372, hp368⟩
  refine ⟨_, rfl, ?_⟩
  have hn372a := hn372.rng.1
  have hn372b := hn372.rng.2
  have hn372z := itoaT_size hn372a hn372b
  refine oP 1 [0, 2, 4, 7, 8, 31, 32] (qa9 line g3 g15 g352 g358 v370) fun b373 => ?_
  refine OPS.cons (opStep.store2 hp368 rfl [iI v370] [iI 9, iI v370, iI 0, .string ByteArray.empty, nS, nS] (by kernel_rfl) (fun w374 hp375 => ?_))
  refine OPS.nil (thn_n (WP.seq (WP.seq (wQ {} [bT] [0, 2, 4, 7, 8, 34] (qa7 line g3 g15 g352 g358) (.cons (l1 4 2 (bT) hp375.get3) .nil) fun b376 => ?_))))
  refine thn_n (WP.condT rfl (wR (oP 1 [0, 2, 4, 7, 8, 35] (qa8 line g3 g15 g352 g358) fun b377 => ?_)))
  have hp380 := hp375.pull1
  have hp381 := hp380.pull1
  refine OPS.cons (opStep.call (some 36) [pP g15] (by kernel_rfl) (w_number _ _ g15 g10 h369 (((wordsB line).tail).tail) bd371_ _ hl (tail_size (tail_size hsz)) hp381) ?_)
  rintro _ w382 ⟨h384, v385, bd386_, rfl, hn387, hp383⟩
  refine ⟨_, rfl, ?_⟩
  have hn387a := hn387.rng.1
  have hn387b := hn387.rng.2
  have hn387z := itoaT_size hn387a hn387b
  refine oP 1 [0, 2, 4, 7, 8, 36, 37] (qa18 line g3 g15 g352 g358 v385) fun b388 => ?_
  refine OPS.cons (opStep.store2 hp383 rfl [iI v385] [iI 9, iI v370, iI v385, .string ByteArray.empty, nS, nS] (by kernel_rfl) (fun w389 hp390 => ?_))
  refine OPS.nil (thn_n (WP.seq (WP.seq (wQ {} [bF] [0, 2, 4, 7, 8, 39] (qa10 line g3 g15 g352 g358) (.cons (l1 4 3 (bF) hp390.get3) .nil) fun b391 => ?_))))
  refine thn_n (WP.condF rfl (WP.skip (thn_n (WP.seq (WP.seq (wQ {} [bF] [0, 2, 4, 8, 44] (qa15 line g3 g15 g358) (.cons (l1 4 4 (bF) hp390.get3) .nil) fun b392 => ?_))))))
  refine thn_n (WP.condF rfl (WP.skip (thn_n (WP.seq (WP.block ?_)))))
  have hp393 := (show Hp w Non [Res.own 3 1 (nS) 0 (List.flatMap i64c ([] : List Int)), Res.row g15 [.slice h384.a h384.n h384.c, .bool bd386_] 75, Res.lst g10 h384 ((((wordsB line).tail).tail).tail), Res.row g358 [iI 9, iI v370, iI v385, .string ByteArray.empty, nS, nS] 31, Res.row g352 qa17 56, Res.row g27 (qa1 line ByteArray.empty) 9, Res.row g3 (qa0 ByteArray.empty) 31] w389 from hp390.nilOwn 3 1)
  refine WP.loop (fun mz_ e394 w395 => ∃ (wz : List ByteArray) (hz : SlH) (bz : Bool) (ls : List Int) (ao : Option Addr) (no : Nat) (co : Nat), mz_ = wz.length ∧ (wz = List.drop ls.length ((((wordsB line).tail).tail).tail) ∧ ls.length ≤ (wordsB line).length ∧ RnI bd386_ ((((wordsB line).tail).tail).tail) ls bz ∧ (∀ x ∈ wz, x.size ≤ 281474976710656)) ∧ List.map e394 [0, 2, 4, 8] = (qa11 line g3 g15 g358) ∧ Hp w Non [Res.own 3 1 (.slice ao no co) no (List.flatMap i64c ls), Res.row g15 [.slice hz.a hz.n hz.c, .bool bz] 75, Res.lst g10 hz wz, Res.row g358 [iI 9, iI v370, iI v385, .string ByteArray.empty, nS, .slice ao no co] 31, Res.row g352 qa17 56, Res.row g27 (qa1 line ByteArray.empty) 9, Res.row g3 (qa0 ByteArray.empty) 31] w395) (((((wordsB line).tail).tail).tail).length) ⟨(((wordsB line).tail).tail).tail, h384, bd386_, [], none, 0, 0, rfl, ⟨rfl, Nat.zero_le _, rn_start _ _, (tail_size (tail_size (tail_size hsz)))⟩, by kernel_rfl, hp393⟩ ?_
  rintro _ e394 w395 ⟨wz, hz, bz, ls, ao, no, co, rfl, hI397, hE398, hp396⟩
  obtain ⟨b399, rfl⟩ := toMk hE398
  clear hE398
  obtain ⟨pa, pb, hrn, hsw⟩ := hI397
  have hlz := lst_len hp396.get2
  have hsz := hsw
  have pe := own_flat (f := i64c) (sz := 1) (fun _ => rfl) (by decide) hp396.get0
  have hdl := congrArg List.length pa
  rw [List.length_drop] at hdl
  have hw4 : ((((wordsB line).tail).tail).tail).length ≤ (wordsB line).length := by simp only [List.length_tail]; omega
  refine WP.seq (WP.seq (wQ {} [.slice hz.a hz.n hz.c] [0, 2, 4, 8, 54] [.string line, pP g3, pP g15, pP g358, .bool (decide (0 < ((hz.n : Nat) : Int)))] (.cons (l1 36 0 (.slice hz.a hz.n hz.c) hp396.get1) .nil) fun b400 => ?_))
  refine thn_n ?_
  refine WP.test (p := 0 < ((hz.n : Nat) : Int)) rfl Bp.dec (fun h401 => ?_) (fun h401 => ?_)
  ·refine WP.skip (thn_n (WP.block ?_))
   have hp402 := hp396.drew
   refine WP.held (fun w403 => Ld Tryd.prog w403 29 ⟨g358, 5, none⟩ (.slice ao no co) ∧ True) [7] [(0, true), (1, true), (2, true), (3, false), (4, false), (5, false), (6, true), (7, false)] (np_blk (np_thn (np_blk (np_thn np_body)))) (by kernel_rfl) ?_
   refine hQ 3 {} [.slice ao no co] [0, 2, 4, 8, 56, 57] [.string line, pP g3, pP g15, pP g358, .slice ao no co, pP g15] ⟨(l1 29 5 (.slice ao no co) hp402.get3), trivial⟩ (fun w404 hS405 => (.cons (hS405.1) .nil)) fun b406 => ?_
   have hp409 := hp402.pull2
   have hp410 := hp409.pull2
   refine HOPS.eff _ rfl (opStep.call (some 58) [pP g15] (by kernel_rfl) (w_number _ _ g15 g10 hz wz bz _ hl hsz hp410) ?_)
   rintro _ w411 ⟨h413, v414, bd415_, rfl, hn416, hp412⟩
   refine ⟨_, rfl, ?_⟩
   have hn416a := hn416.rng.1
   have hn416b := hn416.rng.2
   have hn416z := itoaT_size hn416a hn416b
   refine ⟨.inr ⟨(l1 29 5 (.slice ao no co) hp412.get3), trivial⟩, ?_⟩
   refine HOPS.eff _ rfl (opStep.buildSlice (E := 3) hp412 [iI v414] (by kernel_rfl) (fun g419 w417 hp418 => ?_))
   refine ⟨.inr ⟨(l1 29 5 (.slice ao no co) hp418.get4), trivial⟩, ?_⟩
   refine HOPS.eff _ rfl (opStep.append3 [iI v414] hp418 8 (by kernel_rfl) rfl rfl rfl (SlR.row (n := 1) hp418.get0 rfl).rd (List.all_eq_true.1 (by kernel_rfl)) (by decide) (by omega) (by omega) (fun a422 c423 w424 hp425 hn426 => ?_))
   rw [(show List.flatMap i64c ls ++ [iI v414] = List.flatMap i64c (ls ++ [v414]) from (List.flatMap_append (xs := ls) (ys := [v414])).symm)] at hp425
   refine ⟨.inr ⟨(l1 29 5 (.slice ao no co) hp425.get4), trivial⟩, ?_⟩
   refine hP 1 [0, 2, 4, 8, 60, 61] [.string line, pP g3, pP g15, pP g358, .slice a422 (no + 1) c423, .pointer (some ⟨g358, 5, none⟩)] ⟨(l1 29 5 (.slice ao no co) hp425.get4), trivial⟩ fun b429 => ?_
   refine HOPS.eff _ rfl (opStep.store4 hp425 rfl [.slice a422 (no + 1) c423] [iI 9, iI v370, iI v385, .string ByteArray.empty, nS, .slice a422 (no + 1) c423] (by kernel_rfl) (fun w430 hp431 => ?_))
   refine ⟨.inl rfl, ?_⟩
   refine HOPS.nil (blk_n (thn_n ?_))
   exact ⟨(wz.tail).length, (by rw [List.length_tail]; omega), wz.tail, h413, bd415_, ls ++ [v414], a422, no + 1, c423, rfl, ⟨by rw [List.length_append, List.length_singleton, ← List.drop_drop, ← pa, List.drop_one], by rw [List.length_append, List.length_singleton]; omega, rn_step hrn pa hn416 (by omega), tail_size hsw⟩, by kernel_rfl, ((((((((hp431.pull7).pull7).pull7).pull7).pull6).pull6).pull7).sub (.cons_cons _ (.cons_cons _ (.cons_cons _ (.cons_cons _ (.cons_cons _ (.cons_cons _ (.cons_cons _ (.cons _ (.slnil))))))))))⟩
  ·refine WP.exit (thn_x (thn_x (blk_hit (thn_n (WP.seq (wR (oQ 1 {} [.agg #[iI 9, iI v370, iI v385, .string ByteArray.empty, nS, .slice ao no co]] [0, 2, 4, 8, 63] [.string line, pP g3, pP g15, pP g358, .agg #[iI 9, iI v370, iI v385, .string ByteArray.empty, nS, .slice ao no co]] (.cons (lN 31 0 [iI 9, iI v370, iI v385, .string ByteArray.empty, nS, .slice ao no co] hp396.get3) .nil) fun b432 => ?_)))))))
   obtain ⟨xx, hxx⟩ : ∃ z : StepP, z = ⟨9, v370, v385, ByteArray.empty, (⟨#[]⟩ : ByteArray), ls⟩ := ⟨_, rfl⟩
   have hsm : smS xx := by rw [hxx]; exact ⟨⟨hn372.rng, hn387.rng, hrn.1⟩, (by simp only; decide), (by simp only; decide), by simp only; omega⟩
   refine OPS.cons (opStep.call (some 64) [.agg #[iI 9, iI v370, iI v385, .string ByteArray.empty, nS, .slice ao no co]] (by kernel_rfl) (sc_Line (⟨9, v370, v385, ByteArray.empty, ⟨none, 0, 0⟩, ⟨ao, no, co⟩⟩ : GStep) xx _ (hls.fram hp396.fr) (by rw [hxx]; exact (StR.of rfl rfl rfl rfl (⟨rfl, slr_nil0 _⟩) (own_flat (f := i64c) (sz := 1) (fun _ => rfl) (by decide) hp396.get0).symm (SlR.own hp396.get0))) hsm) ?_)
   rintro _ w435 ⟨rfl, hf436⟩
   refine ⟨_, rfl, ?_⟩
   have hp437 := hp396.step hf436
   refine oP 5 [0, 2, 4, 8, 9, 10] (qa12 line g3 g15 g358 xx) fun b438 => ?_
   refine OPS.nil (thn_n ?_)
   refine WP.cut (fun e480 w481 => ∃ (x478 : Bool), (True) ∧ Bp x478 ((¬ (bz = true)) ∧ ((chkI xx) = 0) ∧ ((lineV xx) = line)) ∧ List.map e480 [2, 3] = [pP g3, .bool x478] ∧ Hp w Non [Res.own 3 1 (.slice ao no co) no (List.flatMap i64c ls), Res.row g15 [.slice hz.a hz.n hz.c, .bool bz] 75, Res.lst g10 hz wz, Res.row g358 [iI 9, iI v370, iI v385, .string ByteArray.empty, nS, .slice ao no co] 31, Res.row g352 qa17 56, Res.row g27 (qa1 line ByteArray.empty) 9, Res.row g3 [iI 9, iI v370, iI v385, .string ByteArray.empty, nS, .slice ao no co] 31] w481) ?_ ?_
   ·have hp440 := hp437.drew
    refine WP.held (fun w441 => Ld Tryd.prog w441 31 ⟨g358, 0, none⟩ (.agg #[iI 9, iI v370, iI v385, .string ByteArray.empty, nS, .slice ao no co]) ∧ Ld Tryd.prog w441 4 ⟨g15, 1, none⟩ (.bool bz) ∧ True) [] [(0, true), (1, true), (2, true), (3, true), (4, true), (5, true), (6, true), (7, true), (8, true), (9, true), (10, true), (11, true), (12, true), (13, true), (14, true), (15, false), (16, true)] (np_thn np_body) (by kernel_rfl) ?_
    refine hQ 7 {} [.agg #[iI 9, iI v370, iI v385, .string ByteArray.empty, nS, .slice ao no co], .bool bz] [0, 2, 9, 10, 67, 73] [.string line, pP g3, .string (lineV xx), iI (chkI xx), .agg #[iI 9, iI v370, iI v385, .string ByteArray.empty, nS, .slice ao no co], .bool (!bz)] ⟨(lN 31 0 [iI 9, iI v370, iI v385, .string ByteArray.empty, nS, .slice ao no co] hp440.get3), (l1 4 1 (.bool bz) hp440.get1), trivial⟩ (fun w442 hS443 => (.cons (hS443.1) (.cons (hS443.2.1) .nil))) fun b444 => ?_
    by_cases h445 : bz = true
    ·refine hP 0 [0, 2, 9, 10, 67, 73] [.string line, pP g3, .string (lineV xx), iI (chkI xx), .agg #[iI 9, iI v370, iI v385, .string ByteArray.empty, nS, .slice ao no co], .bool (!bz)] ⟨(lN 31 0 [iI 9, iI v370, iI v385, .string ByteArray.empty, nS, .slice ao no co] hp440.get3), (l1 4 1 (.bool bz) hp440.get1), trivial⟩ fun b469 => ?_
     refine HOPS.re [.string line, pP g3, .string (lineV xx), iI (chkI xx), .agg #[iI 9, iI v370, iI v385, .string ByteArray.empty, nS, .slice ao no co], bF] (by rw [show (!bz) = false from (Bp.not Bp.var).ff (fun k => k h445)]) ?_
     refine hQ 8 { wraps := [76, 81] } [] [2, 67, 81] [pP g3, .agg #[iI 9, iI v370, iI v385, .string ByteArray.empty, nS, .slice ao no co], bF] ⟨(lN 31 0 [iI 9, iI v370, iI v385, .string ByteArray.empty, nS, .slice ao no co] hp440.get3), (l1 4 1 (.bool bz) hp440.get1), trivial⟩ (fun w470 hS471 => .nil) fun b472 => ?_
     refine HOPS.eff _ rfl (opStep.store6 hp440 rfl [iI 9, iI v370, iI v385, .string ByteArray.empty, nS, .slice ao no co] [iI 9, iI v370, iI v385, .string ByteArray.empty, nS, .slice ao no co] (by kernel_rfl) (fun w473 hp474 => ?_))
     refine ⟨.inr ⟨(lN 31 0 [iI 9, iI v370, iI v385, .string ByteArray.empty, nS, .slice ao no co] hp474.get3), (l1 4 1 (.bool bz) hp474.get1), trivial⟩, ?_⟩
     refine hP 1 [2, 3] [pP g3, bF] ⟨(lN 31 0 [iI 9, iI v370, iI v385, .string ByteArray.empty, nS, .slice ao no co] hp474.get3), (l1 4 1 (.bool bz) hp474.get1), trivial⟩ fun b477 => ?_
     refine HOPS.nil (thn_n ?_)
     exact ⟨false, trivial, Bp.of Bp.f (by first | (simp [h445]; done) | grind | (simp_all; done)), by kernel_rfl, hp474⟩
    ·refine hP 0 [0, 2, 9, 10, 67, 73] [.string line, pP g3, .string (lineV xx), iI (chkI xx), .agg #[iI 9, iI v370, iI v385, .string ByteArray.empty, nS, .slice ao no co], .bool (!bz)] ⟨(lN 31 0 [iI 9, iI v370, iI v385, .string ByteArray.empty, nS, .slice ao no co] hp440.get3), (l1 4 1 (.bool bz) hp440.get1), trivial⟩ fun b446 => ?_
     refine HOPS.re [.string line, pP g3, .string (lineV xx), iI (chkI xx), .agg #[iI 9, iI v370, iI v385, .string ByteArray.empty, nS, .slice ao no co], bT] (by rw [show (!bz) = true from (Bp.not Bp.var).tt h445]) ?_
     refine hQ 4 { wraps := [76] } [] [0, 2, 9, 67, 77] [.string line, pP g3, .string (lineV xx), .agg #[iI 9, iI v370, iI v385, .string ByteArray.empty, nS, .slice ao no co], .bool (decide ((chkI xx) = 0))] ⟨(lN 31 0 [iI 9, iI v370, iI v385, .string ByteArray.empty, nS, .slice ao no co] hp440.get3), (l1 4 1 (.bool bz) hp440.get1), trivial⟩ (fun w447 hS448 => .nil) fun b449 => ?_
     by_cases h450 : (chkI xx) = 0
     ·refine hP 0 [0, 2, 9, 67, 77] [.string line, pP g3, .string (lineV xx), .agg #[iI 9, iI v370, iI v385, .string ByteArray.empty, nS, .slice ao no co], .bool (decide ((chkI xx) = 0))] ⟨(lN 31 0 [iI 9, iI v370, iI v385, .string ByteArray.empty, nS, .slice ao no co] hp440.get3), (l1 4 1 (.bool bz) hp440.get1), trivial⟩ fun b451 => ?_
      refine HOPS.re [.string line, pP g3, .string (lineV xx), .agg #[iI 9, iI v370, iI v385, .string ByteArray.empty, nS, .slice ao no co], bT] (by rw [show (decide ((chkI xx) = 0)) = true from Bp.dec.tt h450]) ?_
      refine hQ 4 { wraps := [81] } [] [2, 67, 81] [pP g3, .agg #[iI 9, iI v370, iI v385, .string ByteArray.empty, nS, .slice ao no co], .bool (decide ((lineV xx) = line))] ⟨(lN 31 0 [iI 9, iI v370, iI v385, .string ByteArray.empty, nS, .slice ao no co] hp440.get3), (l1 4 1 (.bool bz) hp440.get1), trivial⟩ (fun w452 hS453 => .nil) fun b454 => ?_
      refine HOPS.eff _ rfl (opStep.store6 hp440 rfl [iI 9, iI v370, iI v385, .string ByteArray.empty, nS, .slice ao no co] [iI 9, iI v370, iI v385, .string ByteArray.empty, nS, .slice ao no co] (by kernel_rfl) (fun w455 hp456 => ?_))
      refine ⟨.inr ⟨(lN 31 0 [iI 9, iI v370, iI v385, .string ByteArray.empty, nS, .slice ao no co] hp456.get3), (l1 4 1 (.bool bz) hp456.get1), trivial⟩, ?_⟩
      refine hP 1 [2, 3] [pP g3, .bool (decide ((lineV xx) = line))] ⟨(lN 31 0 [iI 9, iI v370, iI v385, .string ByteArray.empty, nS, .slice ao no co] hp456.get3), (l1 4 1 (.bool bz) hp456.get1), trivial⟩ fun b459 => ?_
      refine HOPS.nil (thn_n ?_)
      exact ⟨decide ((lineV xx) = line), trivial, Bp.of Bp.dec (by first | (simp [h445, h450]; done) | grind | (simp_all; done)), by kernel_rfl, hp456⟩
     ·refine hP 0 [0, 2, 9, 67, 77] [.string line, pP g3, .string (lineV xx), .agg #[iI 9, iI v370, iI v385, .string ByteArray.empty, nS, .slice ao no co], .bool (decide ((chkI xx) = 0))] ⟨(lN 31 0 [iI 9, iI v370, iI v385, .string ByteArray.empty, nS, .slice ao no co] hp440.get3), (l1 4 1 (.bool bz) hp440.get1), trivial⟩ fun b460 => ?_
      refine HOPS.re [.string line, pP g3, .string (lineV xx), .agg #[iI 9, iI v370, iI v385, .string ByteArray.empty, nS, .slice ao no co], bF] (by rw [show (decide ((chkI xx) = 0)) = false from Bp.dec.ff h450]) ?_
      refine hQ 4 { wraps := [81] } [] [2, 67, 81] [pP g3, .agg #[iI 9, iI v370, iI v385, .string ByteArray.empty, nS, .slice ao no co], bF] ⟨(lN 31 0 [iI 9, iI v370, iI v385, .string ByteArray.empty, nS, .slice ao no co] hp440.get3), (l1 4 1 (.bool bz) hp440.get1), trivial⟩ (fun w461 hS462 => .nil) fun b463 => ?_
      refine HOPS.eff _ rfl (opStep.store6 hp440 rfl [iI 9, iI v370, iI v385, .string ByteArray.empty, nS, .slice ao no co] [iI 9, iI v370, iI v385, .string ByteArray.empty, nS, .slice ao no co] (by kernel_rfl) (fun w464 hp465 => ?_))
      refine ⟨.inr ⟨(lN 31 0 [iI 9, iI v370, iI v385, .string ByteArray.empty, nS, .slice ao no co] hp465.get3), (l1 4 1 (.bool bz) hp465.get1), trivial⟩, ?_⟩
      refine hP 1 [2, 3] [pP g3, bF] ⟨(lN 31 0 [iI 9, iI v370, iI v385, .string ByteArray.empty, nS, .slice ao no co] hp465.get3), (l1 4 1 (.bool bz) hp465.get1), trivial⟩ fun b468 => ?_
      refine HOPS.nil (thn_n ?_)
      exact ⟨false, trivial, Bp.of Bp.f (by first | (simp [h445, h450]; done) | grind | (simp_all; done)), by kernel_rfl, hp465⟩
   rintro e480 w481 ⟨x478, hd483, hb479, hE484, hp482⟩
   obtain ⟨b485, rfl⟩ := toMk hE484
   clear hE484
   clear hd483
   refine WP.ret ?_
   refine bodyQ.of _ rfl [.agg #[iI 9, iI v370, iI v385, .string ByteArray.empty, nS, .slice ao no co], .bool x478] ⟨⟨_, rfl, (lN 31 0 [iI 9, iI v370, iI v385, .string ByteArray.empty, nS, .slice ao no co] hp482.get6)⟩, rfl, trivial⟩ ?_
   have hre := fun y (h1 : okS y) (h2 : inS y) (h3 : y.Kind = 9) (h4 : lineS y = line) => (show _ ∧ xx = y from hxx ▸ read_ok (k := 9) (line := line) rfl rfl (.t rfl ⟨hn372, rfl⟩) (.t rfl ⟨hn387, rfl⟩) (.f rfl ⟨rfl, rfl, rfl⟩) (.f rfl ⟨rfl, rfl, rfl⟩) (rn_end hrn pa (by omega)) h1 h2 h3 h4)
   have hfin := step_fin (P := (¬ (bz = true)) ∧ ((chkI xx) = 0) ∧ ((lineV xx) = line)) hk38 hsm.1 hre (by have q0_ := h401 ; first | grind | (simp_all; done))
   exact ⟨(⟨9, v370, v385, ByteArray.empty, ⟨none, 0, 0⟩, ⟨ao, no, co⟩⟩ : GStep), xx, _, _, rfl, ⟨fun h => hfin.1 (Bp.tr hb479 h), fun h => hfin.2 (Bp.fa hb479 h)⟩, (by rw [hxx]; exact Hp.soMake0 (⟨9, v370, v385, ByteArray.empty, ⟨none, 0, 0⟩, ⟨ao, no, co⟩⟩ : GStep) _ rfl rfl rfl rfl rfl rfl (hp482.sub (.cons_cons _ (.cons _ (.cons _ (.cons _ (.cons _ (.cons _ (.cons _ (.slnil))))))))))⟩
 ·rw [hk38]
  refine oP 1 [0, 2, 4, 6] [.string line, pP g3, pP g15, iI 10] fun b486 => ?_
  refine OPS.nil (thn_n (WP.seq (WP.seq (wP [0, 2, 4, 6, 21] [.string line, pP g3, pP g15, iI 10, bF] fun b487 => ?_))))
  refine thn_n (WP.condF rfl (WP.skip (thn_n (WP.seq (wR (oQ 3 {} [qa19] [0, 2, 4, 6, 25] [.string line, pP g3, pP g15, iI 10, qa19] (.cons (show InB (10) (17) from ⟨by omega, by omega⟩) (.cons (lN 56 70 qa20 (row_at hls.tab hp37.fr)) .nil)) fun b488 => ?_))))))
  refine OPS.cons (opStep.alloc hp37 (qa6 ByteArray.empty) (by kernel_rfl) (fun g491 w489 hp490 => ?_))
  refine OPS.cons (opStep.store0 hp490 rfl qa20 qa20 (by kernel_rfl) (fun w492 hp493 => ?_))
  refine OPS.nil (thn_n (WP.seq (wR (oP 2 [0, 2, 4, 7, 27] [.string line, pP g3, pP g15, pP g491, .agg #[iI 10, iI 0, iI 0, .string ByteArray.empty, nS, nS]] fun b494 => ?_))))
  refine OPS.cons (opStep.alloc hp493 (qa0 ByteArray.empty) (by kernel_rfl) (fun g497 w495 hp496 => ?_))
  refine OPS.cons (opStep.store0 hp496 rfl [iI 10, iI 0, iI 0, .string ByteArray.empty, nS, nS] [iI 10, iI 0, iI 0, .string ByteArray.empty, nS, nS] (by kernel_rfl) (fun w498 hp499 => ?_))
  refine OPS.nil (thn_n (WP.seq (WP.seq (wQ {} [bT] [0, 2, 4, 7, 8, 29] (qa7 line g3 g15 g491 g497) (.cons (l1 4 1 (bT) hp499.get1) .nil) fun b500 => ?_))))
  refine thn_n (WP.condT rfl (wR (oP 1 [0, 2, 4, 7, 8, 30] (qa8 line g3 g15 g491 g497) fun b501 => ?_)))
  have hp504 := hp499.pull4
  have hp505 := hp504.pull4
  refine OPS.cons (opStep.call (some 31) [pP g15] (by kernel_rfl) (w_number _ _ g15 g10 h24 ((wordsB line).tail) (false || (wordsB line).isEmpty) _ hl (tail_size hsz) hp505) ?_)
  rintro _ w506 ⟨h508, v509, bd510_, rfl, hn511, hp507⟩
  refine ⟨_, rfl, ?_⟩
  have hn511a := hn511.rng.1
  have hn511b := hn511.rng.2
  have hn511z := itoaT_size hn511a hn511b
  refine oP 1 [0, 2, 4, 7, 8, 31, 32] (qa9 line g3 g15 g491 g497 v509) fun b512 => ?_
  refine OPS.cons (opStep.store2 hp507 rfl [iI v509] [iI 10, iI v509, iI 0, .string ByteArray.empty, nS, nS] (by kernel_rfl) (fun w513 hp514 => ?_))
  refine OPS.nil (thn_n (WP.seq (WP.seq (wQ {} [bT] [0, 2, 4, 7, 8, 34] (qa7 line g3 g15 g491 g497) (.cons (l1 4 2 (bT) hp514.get3) .nil) fun b515 => ?_))))
  refine thn_n (WP.condT rfl (wR (oP 1 [0, 2, 4, 7, 8, 35] (qa8 line g3 g15 g491 g497) fun b516 => ?_)))
  have hp519 := hp514.pull1
  have hp520 := hp519.pull1
  refine OPS.cons (opStep.call (some 36) [pP g15] (by kernel_rfl) (w_number _ _ g15 g10 h508 (((wordsB line).tail).tail) bd510_ _ hl (tail_size (tail_size hsz)) hp520) ?_)
  rintro _ w521 ⟨h523, v524, bd525_, rfl, hn526, hp522⟩
  refine ⟨_, rfl, ?_⟩
  have hn526a := hn526.rng.1
  have hn526b := hn526.rng.2
  have hn526z := itoaT_size hn526a hn526b
  refine oP 1 [0, 2, 4, 7, 8, 36, 37] (qa18 line g3 g15 g491 g497 v524) fun b527 => ?_
  refine OPS.cons (opStep.store2 hp522 rfl [iI v524] [iI 10, iI v509, iI v524, .string ByteArray.empty, nS, nS] (by kernel_rfl) (fun w528 hp529 => ?_))
  refine OPS.nil (thn_n (WP.seq (WP.seq (wQ {} [bF] [0, 2, 4, 7, 8, 39] (qa10 line g3 g15 g491 g497) (.cons (l1 4 3 (bF) hp529.get3) .nil) fun b530 => ?_))))
  refine thn_n (WP.condF rfl (WP.skip (thn_n (WP.seq (WP.seq (wQ {} [bF] [0, 2, 4, 8, 44] (qa15 line g3 g15 g497) (.cons (l1 4 4 (bF) hp529.get3) .nil) fun b531 => ?_))))))
  refine thn_n (WP.condF rfl (WP.skip (thn_n (WP.seq (WP.block ?_)))))
  have hp532 := (show Hp w Non [Res.own 3 1 (nS) 0 (List.flatMap i64c ([] : List Int)), Res.row g15 [.slice h523.a h523.n h523.c, .bool bd525_] 75, Res.lst g10 h523 ((((wordsB line).tail).tail).tail), Res.row g497 [iI 10, iI v509, iI v524, .string ByteArray.empty, nS, nS] 31, Res.row g491 qa20 56, Res.row g27 (qa1 line ByteArray.empty) 9, Res.row g3 (qa0 ByteArray.empty) 31] w528 from hp529.nilOwn 3 1)
  refine WP.loop (fun mz_ e533 w534 => ∃ (wz : List ByteArray) (hz : SlH) (bz : Bool) (ls : List Int) (ao : Option Addr) (no : Nat) (co : Nat), mz_ = wz.length ∧ (wz = List.drop ls.length ((((wordsB line).tail).tail).tail) ∧ ls.length ≤ (wordsB line).length ∧ RnI bd525_ ((((wordsB line).tail).tail).tail) ls bz ∧ (∀ x ∈ wz, x.size ≤ 281474976710656)) ∧ List.map e533 [0, 2, 4, 8] = (qa11 line g3 g15 g497) ∧ Hp w Non [Res.own 3 1 (.slice ao no co) no (List.flatMap i64c ls), Res.row g15 [.slice hz.a hz.n hz.c, .bool bz] 75, Res.lst g10 hz wz, Res.row g497 [iI 10, iI v509, iI v524, .string ByteArray.empty, nS, .slice ao no co] 31, Res.row g491 qa20 56, Res.row g27 (qa1 line ByteArray.empty) 9, Res.row g3 (qa0 ByteArray.empty) 31] w534) (((((wordsB line).tail).tail).tail).length) ⟨(((wordsB line).tail).tail).tail, h523, bd525_, [], none, 0, 0, rfl, ⟨rfl, Nat.zero_le _, rn_start _ _, (tail_size (tail_size (tail_size hsz)))⟩, by kernel_rfl, hp532⟩ ?_
  rintro _ e533 w534 ⟨wz, hz, bz, ls, ao, no, co, rfl, hI536, hE537, hp535⟩
  obtain ⟨b538, rfl⟩ := toMk hE537
  clear hE537
  obtain ⟨pa, pb, hrn, hsw⟩ := hI536
  have hlz := lst_len hp535.get2
  have hsz := hsw
  have pe := own_flat (f := i64c) (sz := 1) (fun _ => rfl) (by decide) hp535.get0
  have hdl := congrArg List.length pa
  rw [List.length_drop] at hdl
  have hw4 : ((((wordsB line).tail).tail).tail).length ≤ (wordsB line).length := by simp only [List.length_tail]; omega
  refine WP.seq (WP.seq (wQ {} [.slice hz.a hz.n hz.c] [0, 2, 4, 8, 54] [.string line, pP g3, pP g15, pP g497, .bool (decide (0 < ((hz.n : Nat) : Int)))] (.cons (l1 36 0 (.slice hz.a hz.n hz.c) hp535.get1) .nil) fun b539 => ?_))
  refine thn_n ?_
  refine WP.test (p := 0 < ((hz.n : Nat) : Int)) rfl Bp.dec (fun h540 => ?_) (fun h540 => ?_)
  ·refine WP.skip (thn_n (WP.block ?_))
   have hp541 := hp535.drew
   refine WP.held (fun w542 => Ld Tryd.prog w542 29 ⟨g497, 5, none⟩ (.slice ao no co) ∧ True) [7] [(0, true), (1, true), (2, true), (3, false), (4, false), (5, false), (6, true), (7, false)] (np_blk (np_thn (np_blk (np_thn np_body)))) (by kernel_rfl) ?_
   refine hQ 3 {} [.slice ao no co] [0, 2, 4, 8, 56, 57] [.string line, pP g3, pP g15, pP g497, .slice ao no co, pP g15] ⟨(l1 29 5 (.slice ao no co) hp541.get3), trivial⟩ (fun w543 hS544 => (.cons (hS544.1) .nil)) fun b545 => ?_
   have hp548 := hp541.pull2
   have hp549 := hp548.pull2
   refine HOPS.eff _ rfl (opStep.call (some 58) [pP g15] (by kernel_rfl) (w_number _ _ g15 g10 hz wz bz _ hl hsz hp549) ?_)
   rintro _ w550 ⟨h552, v553, bd554_, rfl, hn555, hp551⟩
   refine ⟨_, rfl, ?_⟩
   have hn555a := hn555.rng.1
   have hn555b := hn555.rng.2
   have hn555z := itoaT_size hn555a hn555b
   refine ⟨.inr ⟨(l1 29 5 (.slice ao no co) hp551.get3), trivial⟩, ?_⟩
   refine HOPS.eff _ rfl (opStep.buildSlice (E := 3) hp551 [iI v553] (by kernel_rfl) (fun g558 w556 hp557 => ?_))
   refine ⟨.inr ⟨(l1 29 5 (.slice ao no co) hp557.get4), trivial⟩, ?_⟩
   refine HOPS.eff _ rfl (opStep.append3 [iI v553] hp557 8 (by kernel_rfl) rfl rfl rfl (SlR.row (n := 1) hp557.get0 rfl).rd (List.all_eq_true.1 (by kernel_rfl)) (by decide) (by omega) (by omega) (fun a561 c562 w563 hp564 hn565 => ?_))
   rw [(show List.flatMap i64c ls ++ [iI v553] = List.flatMap i64c (ls ++ [v553]) from (List.flatMap_append (xs := ls) (ys := [v553])).symm)] at hp564
   refine ⟨.inr ⟨(l1 29 5 (.slice ao no co) hp564.get4), trivial⟩, ?_⟩
   refine hP 1 [0, 2, 4, 8, 60, 61] [.string line, pP g3, pP g15, pP g497, .slice a561 (no + 1) c562, .pointer (some ⟨g497, 5, none⟩)] ⟨(l1 29 5 (.slice ao no co) hp564.get4), trivial⟩ fun b568 => ?_
   refine HOPS.eff _ rfl (opStep.store4 hp564 rfl [.slice a561 (no + 1) c562] [iI 10, iI v509, iI v524, .string ByteArray.empty, nS, .slice a561 (no + 1) c562] (by kernel_rfl) (fun w569 hp570 => ?_))
   refine ⟨.inl rfl, ?_⟩
   refine HOPS.nil (blk_n (thn_n ?_))
   exact ⟨(wz.tail).length, (by rw [List.length_tail]; omega), wz.tail, h552, bd554_, ls ++ [v553], a561, no + 1, c562, rfl, ⟨by rw [List.length_append, List.length_singleton, ← List.drop_drop, ← pa, List.drop_one], by rw [List.length_append, List.length_singleton]; omega, rn_step hrn pa hn555 (by omega), tail_size hsw⟩, by kernel_rfl, ((((((((hp570.pull7).pull7).pull7).pull7).pull6).pull6).pull7).sub (.cons_cons _ (.cons_cons _ (.cons_cons _ (.cons_cons _ (.cons_cons _ (.cons_cons _ (.cons_cons _ (.cons _ (.slnil))))))))))⟩
  ·refine WP.exit (thn_x (thn_x (blk_hit (thn_n (WP.seq (wR (oQ 1 {} [.agg #[iI 10, iI v509, iI v524, .string ByteArray.empty, nS, .slice ao no co]] [0, 2, 4, 8, 63] [.string line, pP g3, pP g15, pP g497, .agg #[iI 10, iI v509, iI v524, .string ByteArray.empty, nS, .slice ao no co]] (.cons (lN 31 0 [iI 10, iI v509, iI v524, .string ByteArray.empty, nS, .slice ao no co] hp535.get3) .nil) fun b571 => ?_)))))))
   obtain ⟨xx, hxx⟩ : ∃ z : StepP, z = ⟨10, v509, v524, ByteArray.empty, (⟨#[]⟩ : ByteArray), ls⟩ := ⟨_, rfl⟩
   have hsm : smS xx := by rw [hxx]; exact ⟨⟨hn511.rng, hn526.rng, hrn.1⟩, (by simp only; decide), (by simp only; decide), by simp only; omega⟩
   refine OPS.cons (opStep.call (some 64) [.agg #[iI 10, iI v509, iI v524, .string ByteArray.empty, nS, .slice ao no co]] (by kernel_rfl) (sc_Line (⟨10, v509, v524, ByteArray.empty, ⟨none, 0, 0⟩, ⟨ao, no, co⟩⟩ : GStep) xx _ (hls.fram hp535.fr) (by rw [hxx]; exact (StR.of rfl rfl rfl rfl (⟨rfl, slr_nil0 _⟩) (own_flat (f := i64c) (sz := 1) (fun _ => rfl) (by decide) hp535.get0).symm (SlR.own hp535.get0))) hsm) ?_)
   rintro _ w574 ⟨rfl, hf575⟩
   refine ⟨_, rfl, ?_⟩
   have hp576 := hp535.step hf575
   refine oP 5 [0, 2, 4, 8, 9, 10] (qa12 line g3 g15 g497 xx) fun b577 => ?_
   refine OPS.nil (thn_n ?_)
   refine WP.cut (fun e619 w620 => ∃ (x617 : Bool), (True) ∧ Bp x617 ((¬ (bz = true)) ∧ ((chkI xx) = 0) ∧ ((lineV xx) = line)) ∧ List.map e619 [2, 3] = [pP g3, .bool x617] ∧ Hp w Non [Res.own 3 1 (.slice ao no co) no (List.flatMap i64c ls), Res.row g15 [.slice hz.a hz.n hz.c, .bool bz] 75, Res.lst g10 hz wz, Res.row g497 [iI 10, iI v509, iI v524, .string ByteArray.empty, nS, .slice ao no co] 31, Res.row g491 qa20 56, Res.row g27 (qa1 line ByteArray.empty) 9, Res.row g3 [iI 10, iI v509, iI v524, .string ByteArray.empty, nS, .slice ao no co] 31] w620) ?_ ?_
   ·have hp579 := hp576.drew
    refine WP.held (fun w580 => Ld Tryd.prog w580 31 ⟨g497, 0, none⟩ (.agg #[iI 10, iI v509, iI v524, .string ByteArray.empty, nS, .slice ao no co]) ∧ Ld Tryd.prog w580 4 ⟨g15, 1, none⟩ (.bool bz) ∧ True) [] [(0, true), (1, true), (2, true), (3, true), (4, true), (5, true), (6, true), (7, true), (8, true), (9, true), (10, true), (11, true), (12, true), (13, true), (14, true), (15, false), (16, true)] (np_thn np_body) (by kernel_rfl) ?_
    refine hQ 7 {} [.agg #[iI 10, iI v509, iI v524, .string ByteArray.empty, nS, .slice ao no co], .bool bz] [0, 2, 9, 10, 67, 73] [.string line, pP g3, .string (lineV xx), iI (chkI xx), .agg #[iI 10, iI v509, iI v524, .string ByteArray.empty, nS, .slice ao no co], .bool (!bz)] ⟨(lN 31 0 [iI 10, iI v509, iI v524, .string ByteArray.empty, nS, .slice ao no co] hp579.get3), (l1 4 1 (.bool bz) hp579.get1), trivial⟩ (fun w581 hS582 => (.cons (hS582.1) (.cons (hS582.2.1) .nil))) fun b583 => ?_
    by_cases h584 : bz = true
    ·refine hP 0 [0, 2, 9, 10, 67, 73] [.string line, pP g3, .string (lineV xx), iI (chkI xx), .agg #[iI 10, iI v509, iI v524, .string ByteArray.empty, nS, .slice ao no co], .bool (!bz)] ⟨(lN 31 0 [iI 10, iI v509, iI v524, .string ByteArray.empty, nS, .slice ao no co] hp579.get3), (l1 4 1 (.bool bz) hp579.get1), trivial⟩ fun b608 => ?_
     refine HOPS.re [.string line, pP g3, .string (lineV xx), iI (chkI xx), .agg #[iI 10, iI v509, iI v524, .string ByteArray.empty, nS, .slice ao no co], bF] (by rw [show (!bz) = false from (Bp.not Bp.var).ff (fun k => k h584)]) ?_
     refine hQ 8 { wraps := [76, 81] } [] [2, 67, 81] [pP g3, .agg #[iI 10, iI v509, iI v524, .string ByteArray.empty, nS, .slice ao no co], bF] ⟨(lN 31 0 [iI 10, iI v509, iI v524, .string ByteArray.empty, nS, .slice ao no co] hp579.get3), (l1 4 1 (.bool bz) hp579.get1), trivial⟩ (fun w609 hS610 => .nil) fun b611 => ?_
     refine HOPS.eff _ rfl (opStep.store6 hp579 rfl [iI 10, iI v509, iI v524, .string ByteArray.empty, nS, .slice ao no co] [iI 10, iI v509, iI v524, .string ByteArray.empty, nS, .slice ao no co] (by kernel_rfl) (fun w612 hp613 => ?_))
     refine ⟨.inr ⟨(lN 31 0 [iI 10, iI v509, iI v524, .string ByteArray.empty, nS, .slice ao no co] hp613.get3), (l1 4 1 (.bool bz) hp613.get1), trivial⟩, ?_⟩
     refine hP 1 [2, 3] [pP g3, bF] ⟨(lN 31 0 [iI 10, iI v509, iI v524, .string ByteArray.empty, nS, .slice ao no co] hp613.get3), (l1 4 1 (.bool bz) hp613.get1), trivial⟩ fun b616 => ?_
     refine HOPS.nil (thn_n ?_)
     exact ⟨false, trivial, Bp.of Bp.f (by first | (simp [h584]; done) | grind | (simp_all; done)), by kernel_rfl, hp613⟩
    ·refine hP 0 [0, 2, 9, 10, 67, 73] [.string line, pP g3, .string (lineV xx), iI (chkI xx), .agg #[iI 10, iI v509, iI v524, .string ByteArray.empty, nS, .slice ao no co], .bool (!bz)] ⟨(lN 31 0 [iI 10, iI v509, iI v524, .string ByteArray.empty, nS, .slice ao no co] hp579.get3), (l1 4 1 (.bool bz) hp579.get1), trivial⟩ fun b585 => ?_
     refine HOPS.re [.string line, pP g3, .string (lineV xx), iI (chkI xx), .agg #[iI 10, iI v509, iI v524, .string ByteArray.empty, nS, .slice ao no co], bT] (by rw [show (!bz) = true from (Bp.not Bp.var).tt h584]) ?_
     refine hQ 4 { wraps := [76] } [] [0, 2, 9, 67, 77] [.string line, pP g3, .string (lineV xx), .agg #[iI 10, iI v509, iI v524, .string ByteArray.empty, nS, .slice ao no co], .bool (decide ((chkI xx) = 0))] ⟨(lN 31 0 [iI 10, iI v509, iI v524, .string ByteArray.empty, nS, .slice ao no co] hp579.get3), (l1 4 1 (.bool bz) hp579.get1), trivial⟩ (fun w586 hS587 => .nil) fun b588 => ?_
     by_cases h589 : (chkI xx) = 0
     ·refine hP 0 [0, 2, 9, 67, 77] [.string line, pP g3, .string (lineV xx), .agg #[iI 10, iI v509, iI v524, .string ByteArray.empty, nS, .slice ao no co], .bool (decide ((chkI xx) = 0))] ⟨(lN 31 0 [iI 10, iI v509, iI v524, .string ByteArray.empty, nS, .slice ao no co] hp579.get3), (l1 4 1 (.bool bz) hp579.get1), trivial⟩ fun b590 => ?_
      refine HOPS.re [.string line, pP g3, .string (lineV xx), .agg #[iI 10, iI v509, iI v524, .string ByteArray.empty, nS, .slice ao no co], bT] (by rw [show (decide ((chkI xx) = 0)) = true from Bp.dec.tt h589]) ?_
      refine hQ 4 { wraps := [81] } [] [2, 67, 81] [pP g3, .agg #[iI 10, iI v509, iI v524, .string ByteArray.empty, nS, .slice ao no co], .bool (decide ((lineV xx) = line))] ⟨(lN 31 0 [iI 10, iI v509, iI v524, .string ByteArray.empty, nS, .slice ao no co] hp579.get3), (l1 4 1 (.bool bz) hp579.get1), trivial⟩ (fun w591 hS592 => .nil) fun b593 => ?_
      refine HOPS.eff _ rfl (opStep.store6 hp579 rfl [iI 10, iI v509, iI v524, .string ByteArray.empty, nS, .slice ao no co] [iI 10, iI v509, iI v524, .string ByteArray.empty, nS, .slice ao no co] (by kernel_rfl) (fun w594 hp595 => ?_))
      refine ⟨.inr ⟨(lN 31 0 [iI 10, iI v509, iI v524, .string ByteArray.empty, nS, .slice ao no co] hp595.get3), (l1 4 1 (.bool bz) hp595.get1), trivial⟩, ?_⟩
      refine hP 1 [2, 3] [pP g3, .bool (decide ((lineV xx) = line))] ⟨(lN 31 0 [iI 10, iI v509, iI v524, .string ByteArray.empty, nS, .slice ao no co] hp595.get3), (l1 4 1 (.bool bz) hp595.get1), trivial⟩ fun b598 => ?_
      refine HOPS.nil (thn_n ?_)
      exact ⟨decide ((lineV xx) = line), trivial, Bp.of Bp.dec (by first | (simp [h584, h589]; done) | grind | (simp_all; done)), by kernel_rfl, hp595⟩
     ·refine hP 0 [0, 2, 9, 67, 77] [.string line, pP g3, .string (lineV xx), .agg #[iI 10, iI v509, iI v524, .string ByteArray.empty, nS, .slice ao no co], .bool (decide ((chkI xx) = 0))] ⟨(lN 31 0 [iI 10, iI v509, iI v524, .string ByteArray.empty, nS, .slice ao no co] hp579.get3), (l1 4 1 (.bool bz) hp579.get1), trivial⟩ fun b599 => ?_
      refine HOPS.re [.string line, pP g3, .string (lineV xx), .agg #[iI 10, iI v509, iI v524, .string ByteArray.empty, nS, .slice ao no co], bF] (by rw [show (decide ((chkI xx) = 0)) = false from Bp.dec.ff h589]) ?_
      refine hQ 4 { wraps := [81] } [] [2, 67, 81] [pP g3, .agg #[iI 10, iI v509, iI v524, .string ByteArray.empty, nS, .slice ao no co], bF] ⟨(lN 31 0 [iI 10, iI v509, iI v524, .string ByteArray.empty, nS, .slice ao no co] hp579.get3), (l1 4 1 (.bool bz) hp579.get1), trivial⟩ (fun w600 hS601 => .nil) fun b602 => ?_
      refine HOPS.eff _ rfl (opStep.store6 hp579 rfl [iI 10, iI v509, iI v524, .string ByteArray.empty, nS, .slice ao no co] [iI 10, iI v509, iI v524, .string ByteArray.empty, nS, .slice ao no co] (by kernel_rfl) (fun w603 hp604 => ?_))
      refine ⟨.inr ⟨(lN 31 0 [iI 10, iI v509, iI v524, .string ByteArray.empty, nS, .slice ao no co] hp604.get3), (l1 4 1 (.bool bz) hp604.get1), trivial⟩, ?_⟩
      refine hP 1 [2, 3] [pP g3, bF] ⟨(lN 31 0 [iI 10, iI v509, iI v524, .string ByteArray.empty, nS, .slice ao no co] hp604.get3), (l1 4 1 (.bool bz) hp604.get1), trivial⟩ fun b607 => ?_
      refine HOPS.nil (thn_n ?_)
      exact ⟨false, trivial, Bp.of Bp.f (by first | (simp [h584, h589]; done) | grind | (simp_all; done)), by kernel_rfl, hp604⟩
   rintro e619 w620 ⟨x617, hd622, hb618, hE623, hp621⟩
   obtain ⟨b624, rfl⟩ := toMk hE623
   clear hE623
   clear hd622
   refine WP.ret ?_
   refine bodyQ.of _ rfl [.agg #[iI 10, iI v509, iI v524, .string ByteArray.empty, nS, .slice ao no co], .bool x617] ⟨⟨_, rfl, (lN 31 0 [iI 10, iI v509, iI v524, .string ByteArray.empty, nS, .slice ao no co] hp621.get6)⟩, rfl, trivial⟩ ?_
   have hre := fun y (h1 : okS y) (h2 : inS y) (h3 : y.Kind = 10) (h4 : lineS y = line) => (show _ ∧ xx = y from hxx ▸ read_ok (k := 10) (line := line) rfl rfl (.t rfl ⟨hn511, rfl⟩) (.t rfl ⟨hn526, rfl⟩) (.f rfl ⟨rfl, rfl, rfl⟩) (.f rfl ⟨rfl, rfl, rfl⟩) (rn_end hrn pa (by omega)) h1 h2 h3 h4)
   have hfin := step_fin (P := (¬ (bz = true)) ∧ ((chkI xx) = 0) ∧ ((lineV xx) = line)) hk38 hsm.1 hre (by have q0_ := h540 ; first | grind | (simp_all; done))
   exact ⟨(⟨10, v509, v524, ByteArray.empty, ⟨none, 0, 0⟩, ⟨ao, no, co⟩⟩ : GStep), xx, _, _, rfl, ⟨fun h => hfin.1 (Bp.tr hb618 h), fun h => hfin.2 (Bp.fa hb618 h)⟩, (by rw [hxx]; exact Hp.soMake0 (⟨10, v509, v524, ByteArray.empty, ⟨none, 0, 0⟩, ⟨ao, no, co⟩⟩ : GStep) _ rfl rfl rfl rfl rfl rfl (hp621.sub (.cons_cons _ (.cons _ (.cons _ (.cons _ (.cons _ (.cons _ (.cons _ (.slnil))))))))))⟩
 ·rw [hk38]
  refine oP 1 [0, 2, 4, 6] [.string line, pP g3, pP g15, iI 12] fun b625 => ?_
  refine OPS.nil (thn_n (WP.seq (WP.seq (wP [0, 2, 4, 6, 21] [.string line, pP g3, pP g15, iI 12, bF] fun b626 => ?_))))
  refine thn_n (WP.condF rfl (WP.skip (thn_n (WP.seq (wR (oQ 3 {} [qa21] [0, 2, 4, 6, 25] [.string line, pP g3, pP g15, iI 12, qa21] (.cons (show InB (12) (17) from ⟨by omega, by omega⟩) (.cons (lN 56 84 qa22 (row_at hls.tab hp37.fr)) .nil)) fun b627 => ?_))))))
  refine OPS.cons (opStep.alloc hp37 (qa6 ByteArray.empty) (by kernel_rfl) (fun g630 w628 hp629 => ?_))
  refine OPS.cons (opStep.store0 hp629 rfl qa22 qa22 (by kernel_rfl) (fun w631 hp632 => ?_))
  refine OPS.nil (thn_n (WP.seq (wR (oP 2 [0, 2, 4, 7, 27] [.string line, pP g3, pP g15, pP g630, .agg #[iI 12, iI 0, iI 0, .string ByteArray.empty, nS, nS]] fun b633 => ?_))))
  refine OPS.cons (opStep.alloc hp632 (qa0 ByteArray.empty) (by kernel_rfl) (fun g636 w634 hp635 => ?_))
  refine OPS.cons (opStep.store0 hp635 rfl [iI 12, iI 0, iI 0, .string ByteArray.empty, nS, nS] [iI 12, iI 0, iI 0, .string ByteArray.empty, nS, nS] (by kernel_rfl) (fun w637 hp638 => ?_))
  refine OPS.nil (thn_n (WP.seq (WP.seq (wQ {} [bT] [0, 2, 4, 7, 8, 29] (qa7 line g3 g15 g630 g636) (.cons (l1 4 1 (bT) hp638.get1) .nil) fun b639 => ?_))))
  refine thn_n (WP.condT rfl (wR (oP 1 [0, 2, 4, 7, 8, 30] (qa8 line g3 g15 g630 g636) fun b640 => ?_)))
  have hp643 := hp638.pull4
  have hp644 := hp643.pull4
  refine OPS.cons (opStep.call (some 31) [pP g15] (by kernel_rfl) (w_number _ _ g15 g10 h24 ((wordsB line).tail) (false || (wordsB line).isEmpty) _ hl (tail_size hsz) hp644) ?_)
  rintro _ w645 ⟨h647, v648, bd649_, rfl, hn650, hp646⟩
  refine ⟨_, rfl, ?_⟩
  have hn650a := hn650.rng.1
  have hn650b := hn650.rng.2
  have hn650z := itoaT_size hn650a hn650b
  refine oP 1 [0, 2, 4, 7, 8, 31, 32] (qa9 line g3 g15 g630 g636 v648) fun b651 => ?_
  refine OPS.cons (opStep.store2 hp646 rfl [iI v648] [iI 12, iI v648, iI 0, .string ByteArray.empty, nS, nS] (by kernel_rfl) (fun w652 hp653 => ?_))
  refine OPS.nil (thn_n (WP.seq (WP.seq (wQ {} [bF] [0, 2, 4, 7, 8, 34] (qa10 line g3 g15 g630 g636) (.cons (l1 4 2 (bF) hp653.get3) .nil) fun b654 => ?_))))
  refine thn_n (WP.condF rfl (WP.skip (thn_n (WP.seq (WP.seq (wQ {} [bF] [0, 2, 4, 7, 8, 39] (qa10 line g3 g15 g630 g636) (.cons (l1 4 3 (bF) hp653.get3) .nil) fun b655 => ?_))))))
  refine thn_n (WP.condF rfl (WP.skip (thn_n (WP.seq (WP.seq (wQ {} [bF] [0, 2, 4, 8, 44] (qa15 line g3 g15 g636) (.cons (l1 4 4 (bF) hp653.get3) .nil) fun b656 => ?_))))))
  refine thn_n (WP.condF rfl (WP.skip (thn_n (WP.seq (WP.block ?_)))))
  have hp657 := (show Hp w Non [Res.own 3 1 (nS) 0 (List.flatMap i64c ([] : List Int)), Res.row g15 [.slice h647.a h647.n h647.c, .bool bd649_] 75, Res.lst g10 h647 (((wordsB line).tail).tail), Res.row g636 [iI 12, iI v648, iI 0, .string ByteArray.empty, nS, nS] 31, Res.row g630 qa22 56, Res.row g27 (qa1 line ByteArray.empty) 9, Res.row g3 (qa0 ByteArray.empty) 31] w652 from hp653.nilOwn 3 1)
  refine WP.loop (fun mz_ e658 w659 => ∃ (wz : List ByteArray) (hz : SlH) (bz : Bool) (ls : List Int) (ao : Option Addr) (no : Nat) (co : Nat), mz_ = wz.length ∧ (wz = List.drop ls.length (((wordsB line).tail).tail) ∧ ls.length ≤ (wordsB line).length ∧ RnI bd649_ (((wordsB line).tail).tail) ls bz ∧ (∀ x ∈ wz, x.size ≤ 281474976710656)) ∧ List.map e658 [0, 2, 4, 8] = (qa11 line g3 g15 g636) ∧ Hp w Non [Res.own 3 1 (.slice ao no co) no (List.flatMap i64c ls), Res.row g15 [.slice hz.a hz.n hz.c, .bool bz] 75, Res.lst g10 hz wz, Res.row g636 [iI 12, iI v648, iI 0, .string ByteArray.empty, nS, .slice ao no co] 31, Res.row g630 qa22 56, Res.row g27 (qa1 line ByteArray.empty) 9, Res.row g3 (qa0 ByteArray.empty) 31] w659) ((((wordsB line).tail).tail).length) ⟨((wordsB line).tail).tail, h647, bd649_, [], none, 0, 0, rfl, ⟨rfl, Nat.zero_le _, rn_start _ _, (tail_size (tail_size hsz))⟩, by kernel_rfl, hp657⟩ ?_
  rintro _ e658 w659 ⟨wz, hz, bz, ls, ao, no, co, rfl, hI661, hE662, hp660⟩
  obtain ⟨b663, rfl⟩ := toMk hE662
  clear hE662
  obtain ⟨pa, pb, hrn, hsw⟩ := hI661
  have hlz := lst_len hp660.get2
  have hsz := hsw
  have pe := own_flat (f := i64c) (sz := 1) (fun _ => rfl) (by decide) hp660.get0
  have hdl := congrArg List.length pa
  rw [List.length_drop] at hdl
  have hw4 : (((wordsB line).tail).tail).length ≤ (wordsB line).length := by simp only [List.length_tail]; omega
  refine WP.seq (WP.seq (wQ {} [.slice hz.a hz.n hz.c] [0, 2, 4, 8, 54] [.string line, pP g3, pP g15, pP g636, .bool (decide (0 < ((hz.n : Nat) : Int)))] (.cons (l1 36 0 (.slice hz.a hz.n hz.c) hp660.get1) .nil) fun b664 => ?_))
  refine thn_n ?_
  refine WP.test (p := 0 < ((hz.n : Nat) : Int)) rfl Bp.dec (fun h665 => ?_) (fun h665 => ?_)
  ·refine WP.skip (thn_n (WP.block ?_))
   have hp666 := hp660.drew
   refine WP.held (fun w667 => Ld Tryd.prog w667 29 ⟨g636, 5, none⟩ (.slice ao no co) ∧ True) [7] [(0, true), (1, true), (2, true), (3, false), (4, false), (5, false), (6, true), (7, false)] (np_blk (np_thn (np_blk (np_thn np_body)))) (by kernel_rfl) ?_
   refine hQ 3 {} [.slice ao no co] [0, 2, 4, 8, 56, 57] [.string line, pP g3, pP g15, pP g636, .slice ao no co, pP g15] ⟨(l1 29 5 (.slice ao no co) hp666.get3), trivial⟩ (fun w668 hS669 => (.cons (hS669.1) .nil)) fun b670 => ?_
   have hp673 := hp666.pull2
   have hp674 := hp673.pull2
   refine HOPS.eff _ rfl (opStep.call (some 58) [pP g15] (by kernel_rfl) (w_number _ _ g15 g10 hz wz bz _ hl hsz hp674) ?_)
   rintro _ w675 ⟨h677, v678, bd679_, rfl, hn680, hp676⟩
   refine ⟨_, rfl, ?_⟩
   have hn680a := hn680.rng.1
   have hn680b := hn680.rng.2
   have hn680z := itoaT_size hn680a hn680b
   refine ⟨.inr ⟨(l1 29 5 (.slice ao no co) hp676.get3), trivial⟩, ?_⟩
   refine HOPS.eff _ rfl (opStep.buildSlice (E := 3) hp676 [iI v678] (by kernel_rfl) (fun g683 w681 hp682 => ?_))
   refine ⟨.inr ⟨(l1 29 5 (.slice ao no co) hp682.get4), trivial⟩, ?_⟩
   refine HOPS.eff _ rfl (opStep.append3 [iI v678] hp682 8 (by kernel_rfl) rfl rfl rfl (SlR.row (n := 1) hp682.get0 rfl).rd (List.all_eq_true.1 (by kernel_rfl)) (by decide) (by omega) (by omega) (fun a686 c687 w688 hp689 hn690 => ?_))
   rw [(show List.flatMap i64c ls ++ [iI v678] = List.flatMap i64c (ls ++ [v678]) from (List.flatMap_append (xs := ls) (ys := [v678])).symm)] at hp689
   refine ⟨.inr ⟨(l1 29 5 (.slice ao no co) hp689.get4), trivial⟩, ?_⟩
   refine hP 1 [0, 2, 4, 8, 60, 61] [.string line, pP g3, pP g15, pP g636, .slice a686 (no + 1) c687, .pointer (some ⟨g636, 5, none⟩)] ⟨(l1 29 5 (.slice ao no co) hp689.get4), trivial⟩ fun b693 => ?_
   refine HOPS.eff _ rfl (opStep.store4 hp689 rfl [.slice a686 (no + 1) c687] [iI 12, iI v648, iI 0, .string ByteArray.empty, nS, .slice a686 (no + 1) c687] (by kernel_rfl) (fun w694 hp695 => ?_))
   refine ⟨.inl rfl, ?_⟩
   refine HOPS.nil (blk_n (thn_n ?_))
   exact ⟨(wz.tail).length, (by rw [List.length_tail]; omega), wz.tail, h677, bd679_, ls ++ [v678], a686, no + 1, c687, rfl, ⟨by rw [List.length_append, List.length_singleton, ← List.drop_drop, ← pa, List.drop_one], by rw [List.length_append, List.length_singleton]; omega, rn_step hrn pa hn680 (by omega), tail_size hsw⟩, by kernel_rfl, ((((((((hp695.pull7).pull7).pull7).pull7).pull6).pull6).pull7).sub (.cons_cons _ (.cons_cons _ (.cons_cons _ (.cons_cons _ (.cons_cons _ (.cons_cons _ (.cons_cons _ (.cons _ (.slnil))))))))))⟩
  ·refine WP.exit (thn_x (thn_x (blk_hit (thn_n (WP.seq (wR (oQ 1 {} [.agg #[iI 12, iI v648, iI 0, .string ByteArray.empty, nS, .slice ao no co]] [0, 2, 4, 8, 63] [.string line, pP g3, pP g15, pP g636, .agg #[iI 12, iI v648, iI 0, .string ByteArray.empty, nS, .slice ao no co]] (.cons (lN 31 0 [iI 12, iI v648, iI 0, .string ByteArray.empty, nS, .slice ao no co] hp660.get3) .nil) fun b696 => ?_)))))))
   obtain ⟨xx, hxx⟩ : ∃ z : StepP, z = ⟨12, v648, 0, ByteArray.empty, (⟨#[]⟩ : ByteArray), ls⟩ := ⟨_, rfl⟩
   have hsm : smS xx := by rw [hxx]; exact ⟨⟨hn650.rng, in0, hrn.1⟩, (by simp only; decide), (by simp only; decide), by simp only; omega⟩
   refine OPS.cons (opStep.call (some 64) [.agg #[iI 12, iI v648, iI 0, .string ByteArray.empty, nS, .slice ao no co]] (by kernel_rfl) (sc_Line (⟨12, v648, 0, ByteArray.empty, ⟨none, 0, 0⟩, ⟨ao, no, co⟩⟩ : GStep) xx _ (hls.fram hp660.fr) (by rw [hxx]; exact (StR.of rfl rfl rfl rfl (⟨rfl, slr_nil0 _⟩) (own_flat (f := i64c) (sz := 1) (fun _ => rfl) (by decide) hp660.get0).symm (SlR.own hp660.get0))) hsm) ?_)
   rintro _ w699 ⟨rfl, hf700⟩
   refine ⟨_, rfl, ?_⟩
   have hp701 := hp660.step hf700
   refine oP 5 [0, 2, 4, 8, 9, 10] (qa12 line g3 g15 g636 xx) fun b702 => ?_
   refine OPS.nil (thn_n ?_)
   refine WP.cut (fun e744 w745 => ∃ (x742 : Bool), (True) ∧ Bp x742 ((¬ (bz = true)) ∧ ((chkI xx) = 0) ∧ ((lineV xx) = line)) ∧ List.map e744 [2, 3] = [pP g3, .bool x742] ∧ Hp w Non [Res.own 3 1 (.slice ao no co) no (List.flatMap i64c ls), Res.row g15 [.slice hz.a hz.n hz.c, .bool bz] 75, Res.lst g10 hz wz, Res.row g636 [iI 12, iI v648, iI 0, .string ByteArray.empty, nS, .slice ao no co] 31, Res.row g630 qa22 56, Res.row g27 (qa1 line ByteArray.empty) 9, Res.row g3 [iI 12, iI v648, iI 0, .string ByteArray.empty, nS, .slice ao no co] 31] w745) ?_ ?_
   ·have hp704 := hp701.drew
    refine WP.held (fun w705 => Ld Tryd.prog w705 31 ⟨g636, 0, none⟩ (.agg #[iI 12, iI v648, iI 0, .string ByteArray.empty, nS, .slice ao no co]) ∧ Ld Tryd.prog w705 4 ⟨g15, 1, none⟩ (.bool bz) ∧ True) [] [(0, true), (1, true), (2, true), (3, true), (4, true), (5, true), (6, true), (7, true), (8, true), (9, true), (10, true), (11, true), (12, true), (13, true), (14, true), (15, false), (16, true)] (np_thn np_body) (by kernel_rfl) ?_
    refine hQ 7 {} [.agg #[iI 12, iI v648, iI 0, .string ByteArray.empty, nS, .slice ao no co], .bool bz] [0, 2, 9, 10, 67, 73] [.string line, pP g3, .string (lineV xx), iI (chkI xx), .agg #[iI 12, iI v648, iI 0, .string ByteArray.empty, nS, .slice ao no co], .bool (!bz)] ⟨(lN 31 0 [iI 12, iI v648, iI 0, .string ByteArray.empty, nS, .slice ao no co] hp704.get3), (l1 4 1 (.bool bz) hp704.get1), trivial⟩ (fun w706 hS707 => (.cons (hS707.1) (.cons (hS707.2.1) .nil))) fun b708 => ?_
    by_cases h709 : bz = true
    ·refine hP 0 [0, 2, 9, 10, 67, 73] [.string line, pP g3, .string (lineV xx), iI (chkI xx), .agg #[iI 12, iI v648, iI 0, .string ByteArray.empty, nS, .slice ao no co], .bool (!bz)] ⟨(lN 31 0 [iI 12, iI v648, iI 0, .string ByteArray.empty, nS, .slice ao no co] hp704.get3), (l1 4 1 (.bool bz) hp704.get1), trivial⟩ fun b733 => ?_
     refine HOPS.re [.string line, pP g3, .string (lineV xx), iI (chkI xx), .agg #[iI 12, iI v648, iI 0, .string ByteArray.empty, nS, .slice ao no co], bF] (by rw [show (!bz) = false from (Bp.not Bp.var).ff (fun k => k h709)]) ?_
     refine hQ 8 { wraps := [76, 81] } [] [2, 67, 81] [pP g3, .agg #[iI 12, iI v648, iI 0, .string ByteArray.empty, nS, .slice ao no co], bF] ⟨(lN 31 0 [iI 12, iI v648, iI 0, .string ByteArray.empty, nS, .slice ao no co] hp704.get3), (l1 4 1 (.bool bz) hp704.get1), trivial⟩ (fun w734 hS735 => .nil) fun b736 => ?_
     refine HOPS.eff _ rfl (opStep.store6 hp704 rfl [iI 12, iI v648, iI 0, .string ByteArray.empty, nS, .slice ao no co] [iI 12, iI v648, iI 0, .string ByteArray.empty, nS, .slice ao no co] (by kernel_rfl) (fun w737 hp738 => ?_))
     refine ⟨.inr ⟨(lN 31 0 [iI 12, iI v648, iI 0, .string ByteArray.empty, nS, .slice ao no co] hp738.get3), (l1 4 1 (.bool bz) hp738.get1), trivial⟩, ?_⟩
     refine hP 1 [2, 3] [pP g3, bF] ⟨(lN 31 0 [iI 12, iI v648, iI 0, .string ByteArray.empty, nS, .slice ao no co] hp738.get3), (l1 4 1 (.bool bz) hp738.get1), trivial⟩ fun b741 => ?_
     refine HOPS.nil (thn_n ?_)
     exact ⟨false, trivial, Bp.of Bp.f (by first | (simp [h709]; done) | grind | (simp_all; done)), by kernel_rfl, hp738⟩
    ·refine hP 0 [0, 2, 9, 10, 67, 73] [.string line, pP g3, .string (lineV xx), iI (chkI xx), .agg #[iI 12, iI v648, iI 0, .string ByteArray.empty, nS, .slice ao no co], .bool (!bz)] ⟨(lN 31 0 [iI 12, iI v648, iI 0, .string ByteArray.empty, nS, .slice ao no co] hp704.get3), (l1 4 1 (.bool bz) hp704.get1), trivial⟩ fun b710 => ?_
     refine HOPS.re [.string line, pP g3, .string (lineV xx), iI (chkI xx), .agg #[iI 12, iI v648, iI 0, .string ByteArray.empty, nS, .slice ao no co], bT] (by rw [show (!bz) = true from (Bp.not Bp.var).tt h709]) ?_
     refine hQ 4 { wraps := [76] } [] [0, 2, 9, 67, 77] [.string line, pP g3, .string (lineV xx), .agg #[iI 12, iI v648, iI 0, .string ByteArray.empty, nS, .slice ao no co], .bool (decide ((chkI xx) = 0))] ⟨(lN 31 0 [iI 12, iI v648, iI 0, .string ByteArray.empty, nS, .slice ao no co] hp704.get3), (l1 4 1 (.bool bz) hp704.get1), trivial⟩ (fun w711 hS712 => .nil) fun b713 => ?_
     by_cases h714 : (chkI xx) = 0
     ·refine hP 0 [0, 2, 9, 67, 77] [.string line, pP g3, .string (lineV xx), .agg #[iI 12, iI v648, iI 0, .string ByteArray.empty, nS, .slice ao no co], .bool (decide ((chkI xx) = 0))] ⟨(lN 31 0 [iI 12, iI v648, iI 0, .string ByteArray.empty, nS, .slice ao no co] hp704.get3), (l1 4 1 (.bool bz) hp704.get1), trivial⟩ fun b715 => ?_
      refine HOPS.re [.string line, pP g3, .string (lineV xx), .agg #[iI 12, iI v648, iI 0, .string ByteArray.empty, nS, .slice ao no co], bT] (by rw [show (decide ((chkI xx) = 0)) = true from Bp.dec.tt h714]) ?_
      refine hQ 4 { wraps := [81] } [] [2, 67, 81] [pP g3, .agg #[iI 12, iI v648, iI 0, .string ByteArray.empty, nS, .slice ao no co], .bool (decide ((lineV xx) = line))] ⟨(lN 31 0 [iI 12, iI v648, iI 0, .string ByteArray.empty, nS, .slice ao no co] hp704.get3), (l1 4 1 (.bool bz) hp704.get1), trivial⟩ (fun w716 hS717 => .nil) fun b718 => ?_
      refine HOPS.eff _ rfl (opStep.store6 hp704 rfl [iI 12, iI v648, iI 0, .string ByteArray.empty, nS, .slice ao no co] [iI 12, iI v648, iI 0, .string ByteArray.empty, nS, .slice ao no co] (by kernel_rfl) (fun w719 hp720 => ?_))
      refine ⟨.inr ⟨(lN 31 0 [iI 12, iI v648, iI 0, .string ByteArray.empty, nS, .slice ao no co] hp720.get3), (l1 4 1 (.bool bz) hp720.get1), trivial⟩, ?_⟩
      refine hP 1 [2, 3] [pP g3, .bool (decide ((lineV xx) = line))] ⟨(lN 31 0 [iI 12, iI v648, iI 0, .string ByteArray.empty, nS, .slice ao no co] hp720.get3), (l1 4 1 (.bool bz) hp720.get1), trivial⟩ fun b723 => ?_
      refine HOPS.nil (thn_n ?_)
      exact ⟨decide ((lineV xx) = line), trivial, Bp.of Bp.dec (by first | (simp [h709, h714]; done) | grind | (simp_all; done)), by kernel_rfl, hp720⟩
     ·refine hP 0 [0, 2, 9, 67, 77] [.string line, pP g3, .string (lineV xx), .agg #[iI 12, iI v648, iI 0, .string ByteArray.empty, nS, .slice ao no co], .bool (decide ((chkI xx) = 0))] ⟨(lN 31 0 [iI 12, iI v648, iI 0, .string ByteArray.empty, nS, .slice ao no co] hp704.get3), (l1 4 1 (.bool bz) hp704.get1), trivial⟩ fun b724 => ?_
      refine HOPS.re [.string line, pP g3, .string (lineV xx), .agg #[iI 12, iI v648, iI 0, .string ByteArray.empty, nS, .slice ao no co], bF] (by rw [show (decide ((chkI xx) = 0)) = false from Bp.dec.ff h714]) ?_
      refine hQ 4 { wraps := [81] } [] [2, 67, 81] [pP g3, .agg #[iI 12, iI v648, iI 0, .string ByteArray.empty, nS, .slice ao no co], bF] ⟨(lN 31 0 [iI 12, iI v648, iI 0, .string ByteArray.empty, nS, .slice ao no co] hp704.get3), (l1 4 1 (.bool bz) hp704.get1), trivial⟩ (fun w725 hS726 => .nil) fun b727 => ?_
      refine HOPS.eff _ rfl (opStep.store6 hp704 rfl [iI 12, iI v648, iI 0, .string ByteArray.empty, nS, .slice ao no co] [iI 12, iI v648, iI 0, .string ByteArray.empty, nS, .slice ao no co] (by kernel_rfl) (fun w728 hp729 => ?_))
      refine ⟨.inr ⟨(lN 31 0 [iI 12, iI v648, iI 0, .string ByteArray.empty, nS, .slice ao no co] hp729.get3), (l1 4 1 (.bool bz) hp729.get1), trivial⟩, ?_⟩
      refine hP 1 [2, 3] [pP g3, bF] ⟨(lN 31 0 [iI 12, iI v648, iI 0, .string ByteArray.empty, nS, .slice ao no co] hp729.get3), (l1 4 1 (.bool bz) hp729.get1), trivial⟩ fun b732 => ?_
      refine HOPS.nil (thn_n ?_)
      exact ⟨false, trivial, Bp.of Bp.f (by first | (simp [h709, h714]; done) | grind | (simp_all; done)), by kernel_rfl, hp729⟩
   rintro e744 w745 ⟨x742, hd747, hb743, hE748, hp746⟩
   obtain ⟨b749, rfl⟩ := toMk hE748
   clear hE748
   clear hd747
   refine WP.ret ?_
   refine bodyQ.of _ rfl [.agg #[iI 12, iI v648, iI 0, .string ByteArray.empty, nS, .slice ao no co], .bool x742] ⟨⟨_, rfl, (lN 31 0 [iI 12, iI v648, iI 0, .string ByteArray.empty, nS, .slice ao no co] hp746.get6)⟩, rfl, trivial⟩ ?_
   have hre := fun y (h1 : okS y) (h2 : inS y) (h3 : y.Kind = 12) (h4 : lineS y = line) => (show _ ∧ xx = y from hxx ▸ read_ok (k := 12) (line := line) rfl rfl (.t rfl ⟨hn650, rfl⟩) (.f rfl ⟨rfl, rfl, rfl⟩) (.f rfl ⟨rfl, rfl, rfl⟩) (.f rfl ⟨rfl, rfl, rfl⟩) (rn_end hrn pa (by omega)) h1 h2 h3 h4)
   have hfin := step_fin (P := (¬ (bz = true)) ∧ ((chkI xx) = 0) ∧ ((lineV xx) = line)) hk38 hsm.1 hre (by have q0_ := h665 ; first | grind | (simp_all; done))
   exact ⟨(⟨12, v648, 0, ByteArray.empty, ⟨none, 0, 0⟩, ⟨ao, no, co⟩⟩ : GStep), xx, _, _, rfl, ⟨fun h => hfin.1 (Bp.tr hb743 h), fun h => hfin.2 (Bp.fa hb743 h)⟩, (by rw [hxx]; exact Hp.soMake0 (⟨12, v648, 0, ByteArray.empty, ⟨none, 0, 0⟩, ⟨ao, no, co⟩⟩ : GStep) _ rfl rfl rfl rfl rfl rfl (hp746.sub (.cons_cons _ (.cons _ (.cons _ (.cons _ (.cons _ (.cons _ (.cons _ (.slnil))))))))))⟩
 ·rw [hk38]
  refine oP 1 [0, 2, 4, 6] [.string line, pP g3, pP g15, iI 14] fun b750 => ?_
  refine OPS.nil (thn_n (WP.seq (WP.seq (wP [0, 2, 4, 6, 21] [.string line, pP g3, pP g15, iI 14, bF] fun b751 => ?_))))
  refine thn_n (WP.condF rfl (WP.skip (thn_n (WP.seq (wR (oQ 3 {} [qa23] [0, 2, 4, 6, 25] [.string line, pP g3, pP g15, iI 14, qa23] (.cons (show InB (14) (17) from ⟨by omega, by omega⟩) (.cons (lN 56 98 qa24 (row_at hls.tab hp37.fr)) .nil)) fun b752 => ?_))))))
  refine OPS.cons (opStep.alloc hp37 (qa6 ByteArray.empty) (by kernel_rfl) (fun g755 w753 hp754 => ?_))
  refine OPS.cons (opStep.store0 hp754 rfl qa24 qa24 (by kernel_rfl) (fun w756 hp757 => ?_))
  refine OPS.nil (thn_n (WP.seq (wR (oP 2 [0, 2, 4, 7, 27] [.string line, pP g3, pP g15, pP g755, .agg #[iI 14, iI 0, iI 0, .string ByteArray.empty, nS, nS]] fun b758 => ?_))))
  refine OPS.cons (opStep.alloc hp757 (qa0 ByteArray.empty) (by kernel_rfl) (fun g761 w759 hp760 => ?_))
  refine OPS.cons (opStep.store0 hp760 rfl [iI 14, iI 0, iI 0, .string ByteArray.empty, nS, nS] [iI 14, iI 0, iI 0, .string ByteArray.empty, nS, nS] (by kernel_rfl) (fun w762 hp763 => ?_))
  refine OPS.nil (thn_n (WP.seq (WP.seq (wQ {} [bT] [0, 2, 4, 7, 8, 29] (qa7 line g3 g15 g755 g761) (.cons (l1 4 1 (bT) hp763.get1) .nil) fun b764 => ?_))))
  refine thn_n (WP.condT rfl (wR (oP 1 [0, 2, 4, 7, 8, 30] (qa8 line g3 g15 g755 g761) fun b765 => ?_)))
  have hp768 := hp763.pull4
  have hp769 := hp768.pull4
  refine OPS.cons (opStep.call (some 31) [pP g15] (by kernel_rfl) (w_number _ _ g15 g10 h24 ((wordsB line).tail) (false || (wordsB line).isEmpty) _ hl (tail_size hsz) hp769) ?_)
  rintro _ w770 ⟨h772, v773, bd774_, rfl, hn775, hp771⟩
  refine ⟨_, rfl, ?_⟩
  have hn775a := hn775.rng.1
  have hn775b := hn775.rng.2
  have hn775z := itoaT_size hn775a hn775b
  refine oP 1 [0, 2, 4, 7, 8, 31, 32] (qa9 line g3 g15 g755 g761 v773) fun b776 => ?_
  refine OPS.cons (opStep.store2 hp771 rfl [iI v773] [iI 14, iI v773, iI 0, .string ByteArray.empty, nS, nS] (by kernel_rfl) (fun w777 hp778 => ?_))
  refine OPS.nil (thn_n (WP.seq (WP.seq (wQ {} [bT] [0, 2, 4, 7, 8, 34] (qa7 line g3 g15 g755 g761) (.cons (l1 4 2 (bT) hp778.get3) .nil) fun b779 => ?_))))
  refine thn_n (WP.condT rfl (wR (oP 1 [0, 2, 4, 7, 8, 35] (qa8 line g3 g15 g755 g761) fun b780 => ?_)))
  have hp783 := hp778.pull1
  have hp784 := hp783.pull1
  refine OPS.cons (opStep.call (some 36) [pP g15] (by kernel_rfl) (w_number _ _ g15 g10 h772 (((wordsB line).tail).tail) bd774_ _ hl (tail_size (tail_size hsz)) hp784) ?_)
  rintro _ w785 ⟨h787, v788, bd789_, rfl, hn790, hp786⟩
  refine ⟨_, rfl, ?_⟩
  have hn790a := hn790.rng.1
  have hn790b := hn790.rng.2
  have hn790z := itoaT_size hn790a hn790b
  refine oP 1 [0, 2, 4, 7, 8, 36, 37] (qa18 line g3 g15 g755 g761 v788) fun b791 => ?_
  refine OPS.cons (opStep.store2 hp786 rfl [iI v788] [iI 14, iI v773, iI v788, .string ByteArray.empty, nS, nS] (by kernel_rfl) (fun w792 hp793 => ?_))
  refine OPS.nil (thn_n (WP.seq (WP.seq (wQ {} [bF] [0, 2, 4, 7, 8, 39] (qa10 line g3 g15 g755 g761) (.cons (l1 4 3 (bF) hp793.get3) .nil) fun b794 => ?_))))
  refine thn_n (WP.condF rfl (WP.skip (thn_n (WP.seq (WP.seq (wQ {} [bF] [0, 2, 4, 8, 44] (qa15 line g3 g15 g761) (.cons (l1 4 4 (bF) hp793.get3) .nil) fun b795 => ?_))))))
  refine thn_n (WP.condF rfl (WP.skip (thn_n (WP.seq (WP.block ?_)))))
  have hp796 := (show Hp w Non [Res.own 3 1 (nS) 0 (List.flatMap i64c ([] : List Int)), Res.row g15 [.slice h787.a h787.n h787.c, .bool bd789_] 75, Res.lst g10 h787 ((((wordsB line).tail).tail).tail), Res.row g761 [iI 14, iI v773, iI v788, .string ByteArray.empty, nS, nS] 31, Res.row g755 qa24 56, Res.row g27 (qa1 line ByteArray.empty) 9, Res.row g3 (qa0 ByteArray.empty) 31] w792 from hp793.nilOwn 3 1)
  refine WP.loop (fun mz_ e797 w798 => ∃ (wz : List ByteArray) (hz : SlH) (bz : Bool) (ls : List Int) (ao : Option Addr) (no : Nat) (co : Nat), mz_ = wz.length ∧ (wz = List.drop ls.length ((((wordsB line).tail).tail).tail) ∧ ls.length ≤ (wordsB line).length ∧ RnI bd789_ ((((wordsB line).tail).tail).tail) ls bz ∧ (∀ x ∈ wz, x.size ≤ 281474976710656)) ∧ List.map e797 [0, 2, 4, 8] = (qa11 line g3 g15 g761) ∧ Hp w Non [Res.own 3 1 (.slice ao no co) no (List.flatMap i64c ls), Res.row g15 [.slice hz.a hz.n hz.c, .bool bz] 75, Res.lst g10 hz wz, Res.row g761 [iI 14, iI v773, iI v788, .string ByteArray.empty, nS, .slice ao no co] 31, Res.row g755 qa24 56, Res.row g27 (qa1 line ByteArray.empty) 9, Res.row g3 (qa0 ByteArray.empty) 31] w798) (((((wordsB line).tail).tail).tail).length) ⟨(((wordsB line).tail).tail).tail, h787, bd789_, [], none, 0, 0, rfl, ⟨rfl, Nat.zero_le _, rn_start _ _, (tail_size (tail_size (tail_size hsz)))⟩, by kernel_rfl, hp796⟩ ?_
  rintro _ e797 w798 ⟨wz, hz, bz, ls, ao, no, co, rfl, hI800, hE801, hp799⟩
  obtain ⟨b802, rfl⟩ := toMk hE801
  clear hE801
  obtain ⟨pa, pb, hrn, hsw⟩ := hI800
  have hlz := lst_len hp799.get2
  have hsz := hsw
  have pe := own_flat (f := i64c) (sz := 1) (fun _ => rfl) (by decide) hp799.get0
  have hdl := congrArg List.length pa
  rw [List.length_drop] at hdl
  have hw4 : ((((wordsB line).tail).tail).tail).length ≤ (wordsB line).length := by simp only [List.length_tail]; omega
  refine WP.seq (WP.seq (wQ {} [.slice hz.a hz.n hz.c] [0, 2, 4, 8, 54] [.string line, pP g3, pP g15, pP g761, .bool (decide (0 < ((hz.n : Nat) : Int)))] (.cons (l1 36 0 (.slice hz.a hz.n hz.c) hp799.get1) .nil) fun b803 => ?_))
  refine thn_n ?_
  refine WP.test (p := 0 < ((hz.n : Nat) : Int)) rfl Bp.dec (fun h804 => ?_) (fun h804 => ?_)
  ·refine WP.skip (thn_n (WP.block ?_))
   have hp805 := hp799.drew
   refine WP.held (fun w806 => Ld Tryd.prog w806 29 ⟨g761, 5, none⟩ (.slice ao no co) ∧ True) [7] [(0, true), (1, true), (2, true), (3, false), (4, false), (5, false), (6, true), (7, false)] (np_blk (np_thn (np_blk (np_thn np_body)))) (by kernel_rfl) ?_
   refine hQ 3 {} [.slice ao no co] [0, 2, 4, 8, 56, 57] [.string line, pP g3, pP g15, pP g761, .slice ao no co, pP g15] ⟨(l1 29 5 (.slice ao no co) hp805.get3), trivial⟩ (fun w807 hS808 => (.cons (hS808.1) .nil)) fun b809 => ?_
   have hp812 := hp805.pull2
   have hp813 := hp812.pull2
   refine HOPS.eff _ rfl (opStep.call (some 58) [pP g15] (by kernel_rfl) (w_number _ _ g15 g10 hz wz bz _ hl hsz hp813) ?_)
   rintro _ w814 ⟨h816, v817, bd818_, rfl, hn819, hp815⟩
   refine ⟨_, rfl, ?_⟩
   have hn819a := hn819.rng.1
   have hn819b := hn819.rng.2
   have hn819z := itoaT_size hn819a hn819b
   refine ⟨.inr ⟨(l1 29 5 (.slice ao no co) hp815.get3), trivial⟩, ?_⟩
   refine HOPS.eff _ rfl (opStep.buildSlice (E := 3) hp815 [iI v817] (by kernel_rfl) (fun g822 w820 hp821 => ?_))
   refine ⟨.inr ⟨(l1 29 5 (.slice ao no co) hp821.get4), trivial⟩, ?_⟩
   refine HOPS.eff _ rfl (opStep.append3 [iI v817] hp821 8 (by kernel_rfl) rfl rfl rfl (SlR.row (n := 1) hp821.get0 rfl).rd (List.all_eq_true.1 (by kernel_rfl)) (by decide) (by omega) (by omega) (fun a825 c826 w827 hp828 hn829 => ?_))
   rw [(show List.flatMap i64c ls ++ [iI v817] = List.flatMap i64c (ls ++ [v817]) from (List.flatMap_append (xs := ls) (ys := [v817])).symm)] at hp828
   refine ⟨.inr ⟨(l1 29 5 (.slice ao no co) hp828.get4), trivial⟩, ?_⟩
   refine hP 1 [0, 2, 4, 8, 60, 61] [.string line, pP g3, pP g15, pP g761, .slice a825 (no + 1) c826, .pointer (some ⟨g761, 5, none⟩)] ⟨(l1 29 5 (.slice ao no co) hp828.get4), trivial⟩ fun b832 => ?_
   refine HOPS.eff _ rfl (opStep.store4 hp828 rfl [.slice a825 (no + 1) c826] [iI 14, iI v773, iI v788, .string ByteArray.empty, nS, .slice a825 (no + 1) c826] (by kernel_rfl) (fun w833 hp834 => ?_))
   refine ⟨.inl rfl, ?_⟩
   refine HOPS.nil (blk_n (thn_n ?_))
   exact ⟨(wz.tail).length, (by rw [List.length_tail]; omega), wz.tail, h816, bd818_, ls ++ [v817], a825, no + 1, c826, rfl, ⟨by rw [List.length_append, List.length_singleton, ← List.drop_drop, ← pa, List.drop_one], by rw [List.length_append, List.length_singleton]; omega, rn_step hrn pa hn819 (by omega), tail_size hsw⟩, by kernel_rfl, ((((((((hp834.pull7).pull7).pull7).pull7).pull6).pull6).pull7).sub (.cons_cons _ (.cons_cons _ (.cons_cons _ (.cons_cons _ (.cons_cons _ (.cons_cons _ (.cons_cons _ (.cons _ (.slnil))))))))))⟩
  ·refine WP.exit (thn_x (thn_x (blk_hit (thn_n (WP.seq (wR (oQ 1 {} [.agg #[iI 14, iI v773, iI v788, .string ByteArray.empty, nS, .slice ao no co]] [0, 2, 4, 8, 63] [.string line, pP g3, pP g15, pP g761, .agg #[iI 14, iI v773, iI v788, .string ByteArray.empty, nS, .slice ao no co]] (.cons (lN 31 0 [iI 14, iI v773, iI v788, .string ByteArray.empty, nS, .slice ao no co] hp799.get3) .nil) fun b835 => ?_)))))))
   obtain ⟨xx, hxx⟩ : ∃ z : StepP, z = ⟨14, v773, v788, ByteArray.empty, (⟨#[]⟩ : ByteArray), ls⟩ := ⟨_, rfl⟩
   have hsm : smS xx := by rw [hxx]; exact ⟨⟨hn775.rng, hn790.rng, hrn.1⟩, (by simp only; decide), (by simp only; decide), by simp only; omega⟩
   refine OPS.cons (opStep.call (some 64) [.agg #[iI 14, iI v773, iI v788, .string ByteArray.empty, nS, .slice ao no co]] (by kernel_rfl) (sc_Line (⟨14, v773, v788, ByteArray.empty, ⟨none, 0, 0⟩, ⟨ao, no, co⟩⟩ : GStep) xx _ (hls.fram hp799.fr) (by rw [hxx]; exact (StR.of rfl rfl rfl rfl (⟨rfl, slr_nil0 _⟩) (own_flat (f := i64c) (sz := 1) (fun _ => rfl) (by decide) hp799.get0).symm (SlR.own hp799.get0))) hsm) ?_)
   rintro _ w838 ⟨rfl, hf839⟩
   refine ⟨_, rfl, ?_⟩
   have hp840 := hp799.step hf839
   refine oP 5 [0, 2, 4, 8, 9, 10] (qa12 line g3 g15 g761 xx) fun b841 => ?_
   refine OPS.nil (thn_n ?_)
   refine WP.cut (fun e883 w884 => ∃ (x881 : Bool), (True) ∧ Bp x881 ((¬ (bz = true)) ∧ ((chkI xx) = 0) ∧ ((lineV xx) = line)) ∧ List.map e883 [2, 3] = [pP g3, .bool x881] ∧ Hp w Non [Res.own 3 1 (.slice ao no co) no (List.flatMap i64c ls), Res.row g15 [.slice hz.a hz.n hz.c, .bool bz] 75, Res.lst g10 hz wz, Res.row g761 [iI 14, iI v773, iI v788, .string ByteArray.empty, nS, .slice ao no co] 31, Res.row g755 qa24 56, Res.row g27 (qa1 line ByteArray.empty) 9, Res.row g3 [iI 14, iI v773, iI v788, .string ByteArray.empty, nS, .slice ao no co] 31] w884) ?_ ?_
   ·have hp843 := hp840.drew
    refine WP.held (fun w844 => Ld Tryd.prog w844 31 ⟨g761, 0, none⟩ (.agg #[iI 14, iI v773, iI v788, .string ByteArray.empty, nS, .slice ao no co]) ∧ Ld Tryd.prog w844 4 ⟨g15, 1, none⟩ (.bool bz) ∧ True) [] [(0, true), (1, true), (2, true), (3, true), (4, true), (5, true), (6, true), (7, true), (8, true), (9, true), (10, true), (11, true), (12, true), (13, true), (14, true), (15, false), (16, true)] (np_thn np_body) (by kernel_rfl) ?_
    refine hQ 7 {} [.agg #[iI 14, iI v773, iI v788, .string ByteArray.empty, nS, .slice ao no co], .bool bz] [0, 2, 9, 10, 67, 73] [.string line, pP g3, .string (lineV xx), iI (chkI xx), .agg #[iI 14, iI v773, iI v788, .string ByteArray.empty, nS, .slice ao no co], .bool (!bz)] ⟨(lN 31 0 [iI 14, iI v773, iI v788, .string ByteArray.empty, nS, .slice ao no co] hp843.get3), (l1 4 1 (.bool bz) hp843.get1), trivial⟩ (fun w845 hS846 => (.cons (hS846.1) (.cons (hS846.2.1) .nil))) fun b847 => ?_
    by_cases h848 : bz = true
    ·refine hP 0 [0, 2, 9, 10, 67, 73] [.string line, pP g3, .string (lineV xx), iI (chkI xx), .agg #[iI 14, iI v773, iI v788, .string ByteArray.empty, nS, .slice ao no co], .bool (!bz)] ⟨(lN 31 0 [iI 14, iI v773, iI v788, .string ByteArray.empty, nS, .slice ao no co] hp843.get3), (l1 4 1 (.bool bz) hp843.get1), trivial⟩ fun b872 => ?_
     refine HOPS.re [.string line, pP g3, .string (lineV xx), iI (chkI xx), .agg #[iI 14, iI v773, iI v788, .string ByteArray.empty, nS, .slice ao no co], bF] (by rw [show (!bz) = false from (Bp.not Bp.var).ff (fun k => k h848)]) ?_
     refine hQ 8 { wraps := [76, 81] } [] [2, 67, 81] [pP g3, .agg #[iI 14, iI v773, iI v788, .string ByteArray.empty, nS, .slice ao no co], bF] ⟨(lN 31 0 [iI 14, iI v773, iI v788, .string ByteArray.empty, nS, .slice ao no co] hp843.get3), (l1 4 1 (.bool bz) hp843.get1), trivial⟩ (fun w873 hS874 => .nil) fun b875 => ?_
     refine HOPS.eff _ rfl (opStep.store6 hp843 rfl [iI 14, iI v773, iI v788, .string ByteArray.empty, nS, .slice ao no co] [iI 14, iI v773, iI v788, .string ByteArray.empty, nS, .slice ao no co] (by kernel_rfl) (fun w876 hp877 => ?_))
     refine ⟨.inr ⟨(lN 31 0 [iI 14, iI v773, iI v788, .string ByteArray.empty, nS, .slice ao no co] hp877.get3), (l1 4 1 (.bool bz) hp877.get1), trivial⟩, ?_⟩
     refine hP 1 [2, 3] [pP g3, bF] ⟨(lN 31 0 [iI 14, iI v773, iI v788, .string ByteArray.empty, nS, .slice ao no co] hp877.get3), (l1 4 1 (.bool bz) hp877.get1), trivial⟩ fun b880 => ?_
     refine HOPS.nil (thn_n ?_)
     exact ⟨false, trivial, Bp.of Bp.f (by first | (simp [h848]; done) | grind | (simp_all; done)), by kernel_rfl, hp877⟩
    ·refine hP 0 [0, 2, 9, 10, 67, 73] [.string line, pP g3, .string (lineV xx), iI (chkI xx), .agg #[iI 14, iI v773, iI v788, .string ByteArray.empty, nS, .slice ao no co], .bool (!bz)] ⟨(lN 31 0 [iI 14, iI v773, iI v788, .string ByteArray.empty, nS, .slice ao no co] hp843.get3), (l1 4 1 (.bool bz) hp843.get1), trivial⟩ fun b849 => ?_
     refine HOPS.re [.string line, pP g3, .string (lineV xx), iI (chkI xx), .agg #[iI 14, iI v773, iI v788, .string ByteArray.empty, nS, .slice ao no co], bT] (by rw [show (!bz) = true from (Bp.not Bp.var).tt h848]) ?_
     refine hQ 4 { wraps := [76] } [] [0, 2, 9, 67, 77] [.string line, pP g3, .string (lineV xx), .agg #[iI 14, iI v773, iI v788, .string ByteArray.empty, nS, .slice ao no co], .bool (decide ((chkI xx) = 0))] ⟨(lN 31 0 [iI 14, iI v773, iI v788, .string ByteArray.empty, nS, .slice ao no co] hp843.get3), (l1 4 1 (.bool bz) hp843.get1), trivial⟩ (fun w850 hS851 => .nil) fun b852 => ?_
     by_cases h853 : (chkI xx) = 0
     ·refine hP 0 [0, 2, 9, 67, 77] [.string line, pP g3, .string (lineV xx), .agg #[iI 14, iI v773, iI v788, .string ByteArray.empty, nS, .slice ao no co], .bool (decide ((chkI xx) = 0))] ⟨(lN 31 0 [iI 14, iI v773, iI v788, .string ByteArray.empty, nS, .slice ao no co] hp843.get3), (l1 4 1 (.bool bz) hp843.get1), trivial⟩ fun b854 => ?_
      refine HOPS.re [.string line, pP g3, .string (lineV xx), .agg #[iI 14, iI v773, iI v788, .string ByteArray.empty, nS, .slice ao no co], bT] (by rw [show (decide ((chkI xx) = 0)) = true from Bp.dec.tt h853]) ?_
      refine hQ 4 { wraps := [81] } [] [2, 67, 81] [pP g3, .agg #[iI 14, iI v773, iI v788, .string ByteArray.empty, nS, .slice ao no co], .bool (decide ((lineV xx) = line))] ⟨(lN 31 0 [iI 14, iI v773, iI v788, .string ByteArray.empty, nS, .slice ao no co] hp843.get3), (l1 4 1 (.bool bz) hp843.get1), trivial⟩ (fun w855 hS856 => .nil) fun b857 => ?_
      refine HOPS.eff _ rfl (opStep.store6 hp843 rfl [iI 14, iI v773, iI v788, .string ByteArray.empty, nS, .slice ao no co] [iI 14, iI v773, iI v788, .string ByteArray.empty, nS, .slice ao no co] (by kernel_rfl) (fun w858 hp859 => ?_))
      refine ⟨.inr ⟨(lN 31 0 [iI 14, iI v773, iI v788, .string ByteArray.empty, nS, .slice ao no co] hp859.get3), (l1 4 1 (.bool bz) hp859.get1), trivial⟩, ?_⟩
      refine hP 1 [2, 3] [pP g3, .bool (decide ((lineV xx) = line))] ⟨(lN 31 0 [iI 14, iI v773, iI v788, .string ByteArray.empty, nS, .slice ao no co] hp859.get3), (l1 4 1 (.bool bz) hp859.get1), trivial⟩ fun b862 => ?_
      refine HOPS.nil (thn_n ?_)
      exact ⟨decide ((lineV xx) = line), trivial, Bp.of Bp.dec (by first | (simp [h848, h853]; done) | grind | (simp_all; done)), by kernel_rfl, hp859⟩
     ·refine hP 0 [0, 2, 9, 67, 77] [.string line, pP g3, .string (lineV xx), .agg #[iI 14, iI v773, iI v788, .string ByteArray.empty, nS, .slice ao no co], .bool (decide ((chkI xx) = 0))] ⟨(lN 31 0 [iI 14, iI v773, iI v788, .string ByteArray.empty, nS, .slice ao no co] hp843.get3), (l1 4 1 (.bool bz) hp843.get1), trivial⟩ fun b863 => ?_
      refine HOPS.re [.string line, pP g3, .string (lineV xx), .agg #[iI 14, iI v773, iI v788, .string ByteArray.empty, nS, .slice ao no co], bF] (by rw [show (decide ((chkI xx) = 0)) = false from Bp.dec.ff h853]) ?_
      refine hQ 4 { wraps := [81] } [] [2, 67, 81] [pP g3, .agg #[iI 14, iI v773, iI v788, .string ByteArray.empty, nS, .slice ao no co], bF] ⟨(lN 31 0 [iI 14, iI v773, iI v788, .string ByteArray.empty, nS, .slice ao no co] hp843.get3), (l1 4 1 (.bool bz) hp843.get1), trivial⟩ (fun w864 hS865 => .nil) fun b866 => ?_
      refine HOPS.eff _ rfl (opStep.store6 hp843 rfl [iI 14, iI v773, iI v788, .string ByteArray.empty, nS, .slice ao no co] [iI 14, iI v773, iI v788, .string ByteArray.empty, nS, .slice ao no co] (by kernel_rfl) (fun w867 hp868 => ?_))
      refine ⟨.inr ⟨(lN 31 0 [iI 14, iI v773, iI v788, .string ByteArray.empty, nS, .slice ao no co] hp868.get3), (l1 4 1 (.bool bz) hp868.get1), trivial⟩, ?_⟩
      refine hP 1 [2, 3] [pP g3, bF] ⟨(lN 31 0 [iI 14, iI v773, iI v788, .string ByteArray.empty, nS, .slice ao no co] hp868.get3), (l1 4 1 (.bool bz) hp868.get1), trivial⟩ fun b871 => ?_
      refine HOPS.nil (thn_n ?_)
      exact ⟨false, trivial, Bp.of Bp.f (by first | (simp [h848, h853]; done) | grind | (simp_all; done)), by kernel_rfl, hp868⟩
   rintro e883 w884 ⟨x881, hd886, hb882, hE887, hp885⟩
   obtain ⟨b888, rfl⟩ := toMk hE887
   clear hE887
   clear hd886
   refine WP.ret ?_
   refine bodyQ.of _ rfl [.agg #[iI 14, iI v773, iI v788, .string ByteArray.empty, nS, .slice ao no co], .bool x881] ⟨⟨_, rfl, (lN 31 0 [iI 14, iI v773, iI v788, .string ByteArray.empty, nS, .slice ao no co] hp885.get6)⟩, rfl, trivial⟩ ?_
   have hre := fun y (h1 : okS y) (h2 : inS y) (h3 : y.Kind = 14) (h4 : lineS y = line) => (show _ ∧ xx = y from hxx ▸ read_ok (k := 14) (line := line) rfl rfl (.t rfl ⟨hn775, rfl⟩) (.t rfl ⟨hn790, rfl⟩) (.f rfl ⟨rfl, rfl, rfl⟩) (.f rfl ⟨rfl, rfl, rfl⟩) (rn_end hrn pa (by omega)) h1 h2 h3 h4)
   have hfin := step_fin (P := (¬ (bz = true)) ∧ ((chkI xx) = 0) ∧ ((lineV xx) = line)) hk38 hsm.1 hre (by have q0_ := h804 ; first | grind | (simp_all; done))
   exact ⟨(⟨14, v773, v788, ByteArray.empty, ⟨none, 0, 0⟩, ⟨ao, no, co⟩⟩ : GStep), xx, _, _, rfl, ⟨fun h => hfin.1 (Bp.tr hb882 h), fun h => hfin.2 (Bp.fa hb882 h)⟩, (by rw [hxx]; exact Hp.soMake0 (⟨14, v773, v788, ByteArray.empty, ⟨none, 0, 0⟩, ⟨ao, no, co⟩⟩ : GStep) _ rfl rfl rfl rfl rfl rfl (hp885.sub (.cons_cons _ (.cons _ (.cons _ (.cons _ (.cons _ (.cons _ (.cons _ (.slnil))))))))))⟩
 ·rw [hk38]
  refine oP 1 [0, 2, 4, 6] [.string line, pP g3, pP g15, iI 16] fun b889 => ?_
  refine OPS.nil (thn_n (WP.seq (WP.seq (wP [0, 2, 4, 6, 21] [.string line, pP g3, pP g15, iI 16, bF] fun b890 => ?_))))
  refine thn_n (WP.condF rfl (WP.skip (thn_n (WP.seq (wR (oQ 3 {} [qa25] [0, 2, 4, 6, 25] [.string line, pP g3, pP g15, iI 16, qa25] (.cons (show InB (16) (17) from ⟨by omega, by omega⟩) (.cons (lN 56 112 qa26 (row_at hls.tab hp37.fr)) .nil)) fun b891 => ?_))))))
  refine OPS.cons (opStep.alloc hp37 (qa6 ByteArray.empty) (by kernel_rfl) (fun g894 w892 hp893 => ?_))
  refine OPS.cons (opStep.store0 hp893 rfl qa26 qa26 (by kernel_rfl) (fun w895 hp896 => ?_))
  refine OPS.nil (thn_n (WP.seq (wR (oP 2 [0, 2, 4, 7, 27] [.string line, pP g3, pP g15, pP g894, .agg #[iI 16, iI 0, iI 0, .string ByteArray.empty, nS, nS]] fun b897 => ?_))))
  refine OPS.cons (opStep.alloc hp896 (qa0 ByteArray.empty) (by kernel_rfl) (fun g900 w898 hp899 => ?_))
  refine OPS.cons (opStep.store0 hp899 rfl [iI 16, iI 0, iI 0, .string ByteArray.empty, nS, nS] [iI 16, iI 0, iI 0, .string ByteArray.empty, nS, nS] (by kernel_rfl) (fun w901 hp902 => ?_))
  refine OPS.nil (thn_n (WP.seq (WP.seq (wQ {} [bF] [0, 2, 4, 7, 8, 29] (qa10 line g3 g15 g894 g900) (.cons (l1 4 1 (bF) hp902.get1) .nil) fun b903 => ?_))))
  refine thn_n (WP.condF rfl (WP.skip (thn_n (WP.seq (WP.seq (wQ {} [bT] [0, 2, 4, 7, 8, 34] (qa7 line g3 g15 g894 g900) (.cons (l1 4 2 (bT) hp902.get1) .nil) fun b904 => ?_))))))
  refine thn_n (WP.condT rfl (wR (oP 1 [0, 2, 4, 7, 8, 35] (qa8 line g3 g15 g894 g900) fun b905 => ?_)))
  have hp908 := hp902.pull4
  have hp909 := hp908.pull4
  refine OPS.cons (opStep.call (some 36) [pP g15] (by kernel_rfl) (w_number _ _ g15 g10 h24 ((wordsB line).tail) (false || (wordsB line).isEmpty) _ hl (tail_size hsz) hp909) ?_)
  rintro _ w910 ⟨h912, v913, bd914_, rfl, hn915, hp911⟩
  refine ⟨_, rfl, ?_⟩
  have hn915a := hn915.rng.1
  have hn915b := hn915.rng.2
  have hn915z := itoaT_size hn915a hn915b
  refine oP 1 [0, 2, 4, 7, 8, 36, 37] (qa18 line g3 g15 g894 g900 v913) fun b916 => ?_
  refine OPS.cons (opStep.store2 hp911 rfl [iI v913] [iI 16, iI 0, iI v913, .string ByteArray.empty, nS, nS] (by kernel_rfl) (fun w917 hp918 => ?_))
  refine OPS.nil (thn_n (WP.seq (WP.seq (wQ {} [bF] [0, 2, 4, 7, 8, 39] (qa10 line g3 g15 g894 g900) (.cons (l1 4 3 (bF) hp918.get3) .nil) fun b919 => ?_))))
  refine thn_n (WP.condF rfl (WP.skip (thn_n (WP.seq (WP.seq (wQ {} [bF] [0, 2, 4, 8, 44] (qa15 line g3 g15 g900) (.cons (l1 4 4 (bF) hp918.get3) .nil) fun b920 => ?_))))))
  refine thn_n (WP.condF rfl (WP.skip (thn_n (WP.seq (WP.block ?_)))))
  have hp921 := (show Hp w Non [Res.own 3 1 (nS) 0 (List.flatMap i64c ([] : List Int)), Res.row g15 [.slice h912.a h912.n h912.c, .bool bd914_] 75, Res.lst g10 h912 (((wordsB line).tail).tail), Res.row g900 [iI 16, iI 0, iI v913, .string ByteArray.empty, nS, nS] 31, Res.row g894 qa26 56, Res.row g27 (qa1 line ByteArray.empty) 9, Res.row g3 (qa0 ByteArray.empty) 31] w917 from hp918.nilOwn 3 1)
  refine WP.loop (fun mz_ e922 w923 => ∃ (wz : List ByteArray) (hz : SlH) (bz : Bool) (ls : List Int) (ao : Option Addr) (no : Nat) (co : Nat), mz_ = wz.length ∧ (wz = List.drop ls.length (((wordsB line).tail).tail) ∧ ls.length ≤ (wordsB line).length ∧ RnI bd914_ (((wordsB line).tail).tail) ls bz ∧ (∀ x ∈ wz, x.size ≤ 281474976710656)) ∧ List.map e922 [0, 2, 4, 8] = (qa11 line g3 g15 g900) ∧ Hp w Non [Res.own 3 1 (.slice ao no co) no (List.flatMap i64c ls), Res.row g15 [.slice hz.a hz.n hz.c, .bool bz] 75, Res.lst g10 hz wz, Res.row g900 [iI 16, iI 0, iI v913, .string ByteArray.empty, nS, .slice ao no co] 31, Res.row g894 qa26 56, Res.row g27 (qa1 line ByteArray.empty) 9, Res.row g3 (qa0 ByteArray.empty) 31] w923) ((((wordsB line).tail).tail).length) ⟨((wordsB line).tail).tail, h912, bd914_, [], none, 0, 0, rfl, ⟨rfl, Nat.zero_le _, rn_start _ _, (tail_size (tail_size hsz))⟩, by kernel_rfl, hp921⟩ ?_
  rintro _ e922 w923 ⟨wz, hz, bz, ls, ao, no, co, rfl, hI925, hE926, hp924⟩
  obtain ⟨b927, rfl⟩ := toMk hE926
  clear hE926
  obtain ⟨pa, pb, hrn, hsw⟩ := hI925
  have hlz := lst_len hp924.get2
  have hsz := hsw
  have pe := own_flat (f := i64c) (sz := 1) (fun _ => rfl) (by decide) hp924.get0
  have hdl := congrArg List.length pa
  rw [List.length_drop] at hdl
  have hw4 : (((wordsB line).tail).tail).length ≤ (wordsB line).length := by simp only [List.length_tail]; omega
  refine WP.seq (WP.seq (wQ {} [.slice hz.a hz.n hz.c] [0, 2, 4, 8, 54] [.string line, pP g3, pP g15, pP g900, .bool (decide (0 < ((hz.n : Nat) : Int)))] (.cons (l1 36 0 (.slice hz.a hz.n hz.c) hp924.get1) .nil) fun b928 => ?_))
  refine thn_n ?_
  refine WP.test (p := 0 < ((hz.n : Nat) : Int)) rfl Bp.dec (fun h929 => ?_) (fun h929 => ?_)
  ·refine WP.skip (thn_n (WP.block ?_))
   have hp930 := hp924.drew
   refine WP.held (fun w931 => Ld Tryd.prog w931 29 ⟨g900, 5, none⟩ (.slice ao no co) ∧ True) [7] [(0, true), (1, true), (2, true), (3, false), (4, false), (5, false), (6, true), (7, false)] (np_blk (np_thn (np_blk (np_thn np_body)))) (by kernel_rfl) ?_
   refine hQ 3 {} [.slice ao no co] [0, 2, 4, 8, 56, 57] [.string line, pP g3, pP g15, pP g900, .slice ao no co, pP g15] ⟨(l1 29 5 (.slice ao no co) hp930.get3), trivial⟩ (fun w932 hS933 => (.cons (hS933.1) .nil)) fun b934 => ?_
   have hp937 := hp930.pull2
   have hp938 := hp937.pull2
   refine HOPS.eff _ rfl (opStep.call (some 58) [pP g15] (by kernel_rfl) (w_number _ _ g15 g10 hz wz bz _ hl hsz hp938) ?_)
   rintro _ w939 ⟨h941, v942, bd943_, rfl, hn944, hp940⟩
   refine ⟨_, rfl, ?_⟩
   have hn944a := hn944.rng.1
   have hn944b := hn944.rng.2
   have hn944z := itoaT_size hn944a hn944b
   refine ⟨.inr ⟨(l1 29 5 (.slice ao no co) hp940.get3), trivial⟩, ?_⟩
   refine HOPS.eff _ rfl (opStep.buildSlice (E := 3) hp940 [iI v942] (by kernel_rfl) (fun g947 w945 hp946 => ?_))
   refine ⟨.inr ⟨(l1 29 5 (.slice ao no co) hp946.get4), trivial⟩, ?_⟩
   refine HOPS.eff _ rfl (opStep.append3 [iI v942] hp946 8 (by kernel_rfl) rfl rfl rfl (SlR.row (n := 1) hp946.get0 rfl).rd (List.all_eq_true.1 (by kernel_rfl)) (by decide) (by omega) (by omega) (fun a950 c951 w952 hp953 hn954 => ?_))
   rw [(show List.flatMap i64c ls ++ [iI v942] = List.flatMap i64c (ls ++ [v942]) from (List.flatMap_append (xs := ls) (ys := [v942])).symm)] at hp953
   refine ⟨.inr ⟨(l1 29 5 (.slice ao no co) hp953.get4), trivial⟩, ?_⟩
   refine hP 1 [0, 2, 4, 8, 60, 61] [.string line, pP g3, pP g15, pP g900, .slice a950 (no + 1) c951, .pointer (some ⟨g900, 5, none⟩)] ⟨(l1 29 5 (.slice ao no co) hp953.get4), trivial⟩ fun b957 => ?_
   refine HOPS.eff _ rfl (opStep.store4 hp953 rfl [.slice a950 (no + 1) c951] [iI 16, iI 0, iI v913, .string ByteArray.empty, nS, .slice a950 (no + 1) c951] (by kernel_rfl) (fun w958 hp959 => ?_))
   refine ⟨.inl rfl, ?_⟩
   refine HOPS.nil (blk_n (thn_n ?_))
   exact ⟨(wz.tail).length, (by rw [List.length_tail]; omega), wz.tail, h941, bd943_, ls ++ [v942], a950, no + 1, c951, rfl, ⟨by rw [List.length_append, List.length_singleton, ← List.drop_drop, ← pa, List.drop_one], by rw [List.length_append, List.length_singleton]; omega, rn_step hrn pa hn944 (by omega), tail_size hsw⟩, by kernel_rfl, ((((((((hp959.pull7).pull7).pull7).pull7).pull6).pull6).pull7).sub (.cons_cons _ (.cons_cons _ (.cons_cons _ (.cons_cons _ (.cons_cons _ (.cons_cons _ (.cons_cons _ (.cons _ (.slnil))))))))))⟩
  ·refine WP.exit (thn_x (thn_x (blk_hit (thn_n (WP.seq (wR (oQ 1 {} [.agg #[iI 16, iI 0, iI v913, .string ByteArray.empty, nS, .slice ao no co]] [0, 2, 4, 8, 63] [.string line, pP g3, pP g15, pP g900, .agg #[iI 16, iI 0, iI v913, .string ByteArray.empty, nS, .slice ao no co]] (.cons (lN 31 0 [iI 16, iI 0, iI v913, .string ByteArray.empty, nS, .slice ao no co] hp924.get3) .nil) fun b960 => ?_)))))))
   obtain ⟨xx, hxx⟩ : ∃ z : StepP, z = ⟨16, 0, v913, ByteArray.empty, (⟨#[]⟩ : ByteArray), ls⟩ := ⟨_, rfl⟩
   have hsm : smS xx := by rw [hxx]; exact ⟨⟨in0, hn915.rng, hrn.1⟩, (by simp only; decide), (by simp only; decide), by simp only; omega⟩
   refine OPS.cons (opStep.call (some 64) [.agg #[iI 16, iI 0, iI v913, .string ByteArray.empty, nS, .slice ao no co]] (by kernel_rfl) (sc_Line (⟨16, 0, v913, ByteArray.empty, ⟨none, 0, 0⟩, ⟨ao, no, co⟩⟩ : GStep) xx _ (hls.fram hp924.fr) (by rw [hxx]; exact (StR.of rfl rfl rfl rfl (⟨rfl, slr_nil0 _⟩) (own_flat (f := i64c) (sz := 1) (fun _ => rfl) (by decide) hp924.get0).symm (SlR.own hp924.get0))) hsm) ?_)
   rintro _ w963 ⟨rfl, hf964⟩
   refine ⟨_, rfl, ?_⟩
   have hp965 := hp924.step hf964
   refine oP 5 [0, 2, 4, 8, 9, 10] (qa12 line g3 g15 g900 xx) fun b966 => ?_
   refine OPS.nil (thn_n ?_)
   refine WP.cut (fun e1008 w1009 => ∃ (x1006 : Bool), (True) ∧ Bp x1006 ((¬ (bz = true)) ∧ ((chkI xx) = 0) ∧ ((lineV xx) = line)) ∧ List.map e1008 [2, 3] = [pP g3, .bool x1006] ∧ Hp w Non [Res.own 3 1 (.slice ao no co) no (List.flatMap i64c ls), Res.row g15 [.slice hz.a hz.n hz.c, .bool bz] 75, Res.lst g10 hz wz, Res.row g900 [iI 16, iI 0, iI v913, .string ByteArray.empty, nS, .slice ao no co] 31, Res.row g894 qa26 56, Res.row g27 (qa1 line ByteArray.empty) 9, Res.row g3 [iI 16, iI 0, iI v913, .string ByteArray.empty, nS, .slice ao no co] 31] w1009) ?_ ?_
   ·have hp968 := hp965.drew
    refine WP.held (fun w969 => Ld Tryd.prog w969 31 ⟨g900, 0, none⟩ (.agg #[iI 16, iI 0, iI v913, .string ByteArray.empty, nS, .slice ao no co]) ∧ Ld Tryd.prog w969 4 ⟨g15, 1, none⟩ (.bool bz) ∧ True) [] [(0, true), (1, true), (2, true), (3, true), (4, true), (5, true), (6, true), (7, true), (8, true), (9, true), (10, true), (11, true), (12, true), (13, true), (14, true), (15, false), (16, true)] (np_thn np_body) (by kernel_rfl) ?_
    refine hQ 7 {} [.agg #[iI 16, iI 0, iI v913, .string ByteArray.empty, nS, .slice ao no co], .bool bz] [0, 2, 9, 10, 67, 73] [.string line, pP g3, .string (lineV xx), iI (chkI xx), .agg #[iI 16, iI 0, iI v913, .string ByteArray.empty, nS, .slice ao no co], .bool (!bz)] ⟨(lN 31 0 [iI 16, iI 0, iI v913, .string ByteArray.empty, nS, .slice ao no co] hp968.get3), (l1 4 1 (.bool bz) hp968.get1), trivial⟩ (fun w970 hS971 => (.cons (hS971.1) (.cons (hS971.2.1) .nil))) fun b972 => ?_
    by_cases h973 : bz = true
    ·refine hP 0 [0, 2, 9, 10, 67, 73] [.string line, pP g3, .string (lineV xx), iI (chkI xx), .agg #[iI 16, iI 0, iI v913, .string ByteArray.empty, nS, .slice ao no co], .bool (!bz)] ⟨(lN 31 0 [iI 16, iI 0, iI v913, .string ByteArray.empty, nS, .slice ao no co] hp968.get3), (l1 4 1 (.bool bz) hp968.get1), trivial⟩ fun b997 => ?_
     refine HOPS.re [.string line, pP g3, .string (lineV xx), iI (chkI xx), .agg #[iI 16, iI 0, iI v913, .string ByteArray.empty, nS, .slice ao no co], bF] (by rw [show (!bz) = false from (Bp.not Bp.var).ff (fun k => k h973)]) ?_
     refine hQ 8 { wraps := [76, 81] } [] [2, 67, 81] [pP g3, .agg #[iI 16, iI 0, iI v913, .string ByteArray.empty, nS, .slice ao no co], bF] ⟨(lN 31 0 [iI 16, iI 0, iI v913, .string ByteArray.empty, nS, .slice ao no co] hp968.get3), (l1 4 1 (.bool bz) hp968.get1), trivial⟩ (fun w998 hS999 => .nil) fun b1000 => ?_
     refine HOPS.eff _ rfl (opStep.store6 hp968 rfl [iI 16, iI 0, iI v913, .string ByteArray.empty, nS, .slice ao no co] [iI 16, iI 0, iI v913, .string ByteArray.empty, nS, .slice ao no co] (by kernel_rfl) (fun w1001 hp1002 => ?_))
     refine ⟨.inr ⟨(lN 31 0 [iI 16, iI 0, iI v913, .string ByteArray.empty, nS, .slice ao no co] hp1002.get3), (l1 4 1 (.bool bz) hp1002.get1), trivial⟩, ?_⟩
     refine hP 1 [2, 3] [pP g3, bF] ⟨(lN 31 0 [iI 16, iI 0, iI v913, .string ByteArray.empty, nS, .slice ao no co] hp1002.get3), (l1 4 1 (.bool bz) hp1002.get1), trivial⟩ fun b1005 => ?_
     refine HOPS.nil (thn_n ?_)
     exact ⟨false, trivial, Bp.of Bp.f (by first | (simp [h973]; done) | grind | (simp_all; done)), by kernel_rfl, hp1002⟩
    ·refine hP 0 [0, 2, 9, 10, 67, 73] [.string line, pP g3, .string (lineV xx), iI (chkI xx), .agg #[iI 16, iI 0, iI v913, .string ByteArray.empty, nS, .slice ao no co], .bool (!bz)] ⟨(lN 31 0 [iI 16, iI 0, iI v913, .string ByteArray.empty, nS, .slice ao no co] hp968.get3), (l1 4 1 (.bool bz) hp968.get1), trivial⟩ fun b974 => ?_
     refine HOPS.re [.string line, pP g3, .string (lineV xx), iI (chkI xx), .agg #[iI 16, iI 0, iI v913, .string ByteArray.empty, nS, .slice ao no co], bT] (by rw [show (!bz) = true from (Bp.not Bp.var).tt h973]) ?_
     refine hQ 4 { wraps := [76] } [] [0, 2, 9, 67, 77] [.string line, pP g3, .string (lineV xx), .agg #[iI 16, iI 0, iI v913, .string ByteArray.empty, nS, .slice ao no co], .bool (decide ((chkI xx) = 0))] ⟨(lN 31 0 [iI 16, iI 0, iI v913, .string ByteArray.empty, nS, .slice ao no co] hp968.get3), (l1 4 1 (.bool bz) hp968.get1), trivial⟩ (fun w975 hS976 => .nil) fun b977 => ?_
     by_cases h978 : (chkI xx) = 0
     ·refine hP 0 [0, 2, 9, 67, 77] [.string line, pP g3, .string (lineV xx), .agg #[iI 16, iI 0, iI v913, .string ByteArray.empty, nS, .slice ao no co], .bool (decide ((chkI xx) = 0))] ⟨(lN 31 0 [iI 16, iI 0, iI v913, .string ByteArray.empty, nS, .slice ao no co] hp968.get3), (l1 4 1 (.bool bz) hp968.get1), trivial⟩ fun b979 => ?_
      refine HOPS.re [.string line, pP g3, .string (lineV xx), .agg #[iI 16, iI 0, iI v913, .string ByteArray.empty, nS, .slice ao no co], bT] (by rw [show (decide ((chkI xx) = 0)) = true from Bp.dec.tt h978]) ?_
      refine hQ 4 { wraps := [81] } [] [2, 67, 81] [pP g3, .agg #[iI 16, iI 0, iI v913, .string ByteArray.empty, nS, .slice ao no co], .bool (decide ((lineV xx) = line))] ⟨(lN 31 0 [iI 16, iI 0, iI v913, .string ByteArray.empty, nS, .slice ao no co] hp968.get3), (l1 4 1 (.bool bz) hp968.get1), trivial⟩ (fun w980 hS981 => .nil) fun b982 => ?_
      refine HOPS.eff _ rfl (opStep.store6 hp968 rfl [iI 16, iI 0, iI v913, .string ByteArray.empty, nS, .slice ao no co] [iI 16, iI 0, iI v913, .string ByteArray.empty, nS, .slice ao no co] (by kernel_rfl) (fun w983 hp984 => ?_))
      refine ⟨.inr ⟨(lN 31 0 [iI 16, iI 0, iI v913, .string ByteArray.empty, nS, .slice ao no co] hp984.get3), (l1 4 1 (.bool bz) hp984.get1), trivial⟩, ?_⟩
      refine hP 1 [2, 3] [pP g3, .bool (decide ((lineV xx) = line))] ⟨(lN 31 0 [iI 16, iI 0, iI v913, .string ByteArray.empty, nS, .slice ao no co] hp984.get3), (l1 4 1 (.bool bz) hp984.get1), trivial⟩ fun b987 => ?_
      refine HOPS.nil (thn_n ?_)
      exact ⟨decide ((lineV xx) = line), trivial, Bp.of Bp.dec (by first | (simp [h973, h978]; done) | grind | (simp_all; done)), by kernel_rfl, hp984⟩
     ·refine hP 0 [0, 2, 9, 67, 77] [.string line, pP g3, .string (lineV xx), .agg #[iI 16, iI 0, iI v913, .string ByteArray.empty, nS, .slice ao no co], .bool (decide ((chkI xx) = 0))] ⟨(lN 31 0 [iI 16, iI 0, iI v913, .string ByteArray.empty, nS, .slice ao no co] hp968.get3), (l1 4 1 (.bool bz) hp968.get1), trivial⟩ fun b988 => ?_
      refine HOPS.re [.string line, pP g3, .string (lineV xx), .agg #[iI 16, iI 0, iI v913, .string ByteArray.empty, nS, .slice ao no co], bF] (by rw [show (decide ((chkI xx) = 0)) = false from Bp.dec.ff h978]) ?_
      refine hQ 4 { wraps := [81] } [] [2, 67, 81] [pP g3, .agg #[iI 16, iI 0, iI v913, .string ByteArray.empty, nS, .slice ao no co], bF] ⟨(lN 31 0 [iI 16, iI 0, iI v913, .string ByteArray.empty, nS, .slice ao no co] hp968.get3), (l1 4 1 (.bool bz) hp968.get1), trivial⟩ (fun w989 hS990 => .nil) fun b991 => ?_
      refine HOPS.eff _ rfl (opStep.store6 hp968 rfl [iI 16, iI 0, iI v913, .string ByteArray.empty, nS, .slice ao no co] [iI 16, iI 0, iI v913, .string ByteArray.empty, nS, .slice ao no co] (by kernel_rfl) (fun w992 hp993 => ?_))
      refine ⟨.inr ⟨(lN 31 0 [iI 16, iI 0, iI v913, .string ByteArray.empty, nS, .slice ao no co] hp993.get3), (l1 4 1 (.bool bz) hp993.get1), trivial⟩, ?_⟩
      refine hP 1 [2, 3] [pP g3, bF] ⟨(lN 31 0 [iI 16, iI 0, iI v913, .string ByteArray.empty, nS, .slice ao no co] hp993.get3), (l1 4 1 (.bool bz) hp993.get1), trivial⟩ fun b996 => ?_
      refine HOPS.nil (thn_n ?_)
      exact ⟨false, trivial, Bp.of Bp.f (by first | (simp [h973, h978]; done) | grind | (simp_all; done)), by kernel_rfl, hp993⟩
   rintro e1008 w1009 ⟨x1006, hd1011, hb1007, hE1012, hp1010⟩
   obtain ⟨b1013, rfl⟩ := toMk hE1012
   clear hE1012
   clear hd1011
   refine WP.ret ?_
   refine bodyQ.of _ rfl [.agg #[iI 16, iI 0, iI v913, .string ByteArray.empty, nS, .slice ao no co], .bool x1006] ⟨⟨_, rfl, (lN 31 0 [iI 16, iI 0, iI v913, .string ByteArray.empty, nS, .slice ao no co] hp1010.get6)⟩, rfl, trivial⟩ ?_
   have hre := fun y (h1 : okS y) (h2 : inS y) (h3 : y.Kind = 16) (h4 : lineS y = line) => (show _ ∧ xx = y from hxx ▸ read_ok (k := 16) (line := line) rfl rfl (.f rfl ⟨rfl, rfl, rfl⟩) (.t rfl ⟨hn915, rfl⟩) (.f rfl ⟨rfl, rfl, rfl⟩) (.f rfl ⟨rfl, rfl, rfl⟩) (rn_end hrn pa (by omega)) h1 h2 h3 h4)
   have hfin := step_fin (P := (¬ (bz = true)) ∧ ((chkI xx) = 0) ∧ ((lineV xx) = line)) hk38 hsm.1 hre (by have q0_ := h929 ; first | grind | (simp_all; done))
   exact ⟨(⟨16, 0, v913, ByteArray.empty, ⟨none, 0, 0⟩, ⟨ao, no, co⟩⟩ : GStep), xx, _, _, rfl, ⟨fun h => hfin.1 (Bp.tr hb1007 h), fun h => hfin.2 (Bp.fa hb1007 h)⟩, (by rw [hxx]; exact Hp.soMake0 (⟨16, 0, v913, ByteArray.empty, ⟨none, 0, 0⟩, ⟨ao, no, co⟩⟩ : GStep) _ rfl rfl rfl rfl rfl rfl (hp1010.sub (.cons_cons _ (.cons _ (.cons _ (.cons _ (.cons _ (.cons _ (.cons _ (.slnil))))))))))⟩
 ·rw [hk38]
  have hpr := hpa.rng
  refine oP 1 [0, 2, 4, 6] [.string line, pP g3, pP g15, iI k] fun b1014 => ?_
  refine OPS.nil (thn_n (WP.seq (WP.seq (wP [0, 2, 4, 6, 21] [.string line, pP g3, pP g15, iI k, .bool (decide (k < 1))] fun b1015 => ?_))))
  refine thn_n ?_
  refine WP.test (p := k < 1) rfl Bp.dec (fun h1016 => ?_) (fun h1016 => ?_)
  ·refine WP.seq (wR (oP 1 [2, 22] (qa2 g3 ByteArray.empty) fun b1017 => ?_))
   refine OPS.cons (opStep.store3 hp37 rfl (qa0 ByteArray.empty) (qa0 ByteArray.empty) (by kernel_rfl) (fun w1018 hp1019 => ?_))
   refine oP 1 [2, 3] [pP g3, bF] fun b1020 => ?_
   refine OPS.nil (thn_n (WP.ret (thn_r ?_)))
   refine bodyQ.of _ rfl (qa3 ByteArray.empty) ⟨⟨_, rfl, (lN 31 0 (qa0 ByteArray.empty) hp1019.get3)⟩, rfl, trivial⟩ ?_
   exfalso
   omega
  ·refine WP.skip (thn_n (WP.seq (wR (oQ 3 {} [.agg #[.string (kWord k), bT, bF, bF, bF, bF, bF]] [0, 2, 4, 6, 25] [.string line, pP g3, pP g15, iI k, .agg #[.string (kWord k), bT, bF, bF, bF, bF, bF]] (.cons (show InB (k) (17) from ⟨by omega, by omega⟩) (.cons (fm_a hpa (hls.fram hp37.fr)) .nil)) fun b1021 => ?_))))
   refine OPS.cons (opStep.alloc hp37 (qa6 ByteArray.empty) (by kernel_rfl) (fun g1024 w1022 hp1023 => ?_))
   refine OPS.cons (opStep.store0 hp1023 rfl (qa27 k) (qa27 k) (by kernel_rfl) (fun w1025 hp1026 => ?_))
   refine OPS.nil (thn_n (WP.seq (wR (oP 2 [0, 2, 4, 7, 27] [.string line, pP g3, pP g15, pP g1024, .agg #[iI k, iI 0, iI 0, .string ByteArray.empty, nS, nS]] fun b1027 => ?_))))
   refine OPS.cons (opStep.alloc hp1026 (qa0 ByteArray.empty) (by kernel_rfl) (fun g1030 w1028 hp1029 => ?_))
   refine OPS.cons (opStep.store0 hp1029 rfl [iI k, iI 0, iI 0, .string ByteArray.empty, nS, nS] [iI k, iI 0, iI 0, .string ByteArray.empty, nS, nS] (by kernel_rfl) (fun w1031 hp1032 => ?_))
   refine OPS.nil (thn_n (WP.seq (WP.seq (wQ {} [bT] [0, 2, 4, 7, 8, 29] (qa7 line g3 g15 g1024 g1030) (.cons (l1 4 1 (bT) hp1032.get1) .nil) fun b1033 => ?_))))
   refine thn_n (WP.condT rfl (wR (oP 1 [0, 2, 4, 7, 8, 30] (qa8 line g3 g15 g1024 g1030) fun b1034 => ?_)))
   have hp1037 := hp1032.pull4
   have hp1038 := hp1037.pull4
   refine OPS.cons (opStep.call (some 31) [pP g15] (by kernel_rfl) (w_number _ _ g15 g10 h24 ((wordsB line).tail) (false || (wordsB line).isEmpty) _ hl (tail_size hsz) hp1038) ?_)
   rintro _ w1039 ⟨h1041, v1042, bd1043_, rfl, hn1044, hp1040⟩
   refine ⟨_, rfl, ?_⟩
   have hn1044a := hn1044.rng.1
   have hn1044b := hn1044.rng.2
   have hn1044z := itoaT_size hn1044a hn1044b
   refine oP 1 [0, 2, 4, 7, 8, 31, 32] (qa9 line g3 g15 g1024 g1030 v1042) fun b1045 => ?_
   refine OPS.cons (opStep.store2 hp1040 rfl [iI v1042] [iI k, iI v1042, iI 0, .string ByteArray.empty, nS, nS] (by kernel_rfl) (fun w1046 hp1047 => ?_))
   refine OPS.nil (thn_n (WP.seq (WP.seq (wQ {} [bF] [0, 2, 4, 7, 8, 34] (qa10 line g3 g15 g1024 g1030) (.cons (l1 4 2 (bF) hp1047.get3) .nil) fun b1048 => ?_))))
   refine thn_n (WP.condF rfl (WP.skip (thn_n (WP.seq (WP.seq (wQ {} [bF] [0, 2, 4, 7, 8, 39] (qa10 line g3 g15 g1024 g1030) (.cons (l1 4 3 (bF) hp1047.get3) .nil) fun b1049 => ?_))))))
   refine thn_n (WP.condF rfl (WP.skip (thn_n (WP.seq (WP.seq (wQ {} [bF] [0, 2, 4, 8, 44] (qa15 line g3 g15 g1030) (.cons (l1 4 4 (bF) hp1047.get3) .nil) fun b1050 => ?_))))))
   refine thn_n (WP.condF rfl (WP.skip (thn_n (WP.seq (WP.block ?_)))))
   have hp1051 := (show Hp w Non [Res.own 3 1 (nS) 0 (List.flatMap i64c ([] : List Int)), Res.row g15 [.slice h1041.a h1041.n h1041.c, .bool bd1043_] 75, Res.lst g10 h1041 (((wordsB line).tail).tail), Res.row g1030 [iI k, iI v1042, iI 0, .string ByteArray.empty, nS, nS] 31, Res.row g1024 (qa27 k) 56, Res.row g27 (qa1 line ByteArray.empty) 9, Res.row g3 (qa0 ByteArray.empty) 31] w1046 from hp1047.nilOwn 3 1)
   refine WP.loop (fun mz_ e1052 w1053 => ∃ (wz : List ByteArray) (hz : SlH) (bz : Bool) (ls : List Int) (ao : Option Addr) (no : Nat) (co : Nat), mz_ = wz.length ∧ (wz = List.drop ls.length (((wordsB line).tail).tail) ∧ ls.length ≤ (wordsB line).length ∧ RnI bd1043_ (((wordsB line).tail).tail) ls bz ∧ (∀ x ∈ wz, x.size ≤ 281474976710656)) ∧ List.map e1052 [0, 2, 4, 8] = (qa11 line g3 g15 g1030) ∧ Hp w Non [Res.own 3 1 (.slice ao no co) no (List.flatMap i64c ls), Res.row g15 [.slice hz.a hz.n hz.c, .bool bz] 75, Res.lst g10 hz wz, Res.row g1030 [iI k, iI v1042, iI 0, .string ByteArray.empty, nS, .slice ao no co] 31, Res.row g1024 (qa27 k) 56, Res.row g27 (qa1 line ByteArray.empty) 9, Res.row g3 (qa0 ByteArray.empty) 31] w1053) ((((wordsB line).tail).tail).length) ⟨((wordsB line).tail).tail, h1041, bd1043_, [], none, 0, 0, rfl, ⟨rfl, Nat.zero_le _, rn_start _ _, (tail_size (tail_size hsz))⟩, by kernel_rfl, hp1051⟩ ?_
   rintro _ e1052 w1053 ⟨wz, hz, bz, ls, ao, no, co, rfl, hI1055, hE1056, hp1054⟩
   obtain ⟨b1057, rfl⟩ := toMk hE1056
   clear hE1056
   obtain ⟨pa, pb, hrn, hsw⟩ := hI1055
   have hlz := lst_len hp1054.get2
   have hsz := hsw
   have pe := own_flat (f := i64c) (sz := 1) (fun _ => rfl) (by decide) hp1054.get0
   have hdl := congrArg List.length pa
   rw [List.length_drop] at hdl
   have hw4 : (((wordsB line).tail).tail).length ≤ (wordsB line).length := by simp only [List.length_tail]; omega
   refine WP.seq (WP.seq (wQ {} [.slice hz.a hz.n hz.c] [0, 2, 4, 8, 54] [.string line, pP g3, pP g15, pP g1030, .bool (decide (0 < ((hz.n : Nat) : Int)))] (.cons (l1 36 0 (.slice hz.a hz.n hz.c) hp1054.get1) .nil) fun b1058 => ?_))
   refine thn_n ?_
   refine WP.test (p := 0 < ((hz.n : Nat) : Int)) rfl Bp.dec (fun h1059 => ?_) (fun h1059 => ?_)
   ·refine WP.skip (thn_n (WP.block ?_))
    have hp1060 := hp1054.drew
    refine WP.held (fun w1061 => Ld Tryd.prog w1061 29 ⟨g1030, 5, none⟩ (.slice ao no co) ∧ True) [7] [(0, true), (1, true), (2, true), (3, false), (4, false), (5, false), (6, true), (7, false)] (np_blk (np_thn (np_blk (np_thn np_body)))) (by kernel_rfl) ?_
    refine hQ 3 {} [.slice ao no co] [0, 2, 4, 8, 56, 57] [.string line, pP g3, pP g15, pP g1030, .slice ao no co, pP g15] ⟨(l1 29 5 (.slice ao no co) hp1060.get3), trivial⟩ (fun w1062 hS1063 => (.cons (hS1063.1) .nil)) fun b1064 => ?_
    have hp1067 := hp1060.pull2
    have hp1068 := hp1067.pull2
    refine HOPS.eff _ rfl (opStep.call (some 58) [pP g15] (by kernel_rfl) (w_number _ _ g15 g10 hz wz bz _ hl hsz hp1068) ?_)
    rintro _ w1069 ⟨h1071, v1072, bd1073_, rfl, hn1074, hp1070⟩
    refine ⟨_, rfl, ?_⟩
    have hn1074a := hn1074.rng.1
    have hn1074b := hn1074.rng.2
    have hn1074z := itoaT_size hn1074a hn1074b
    refine ⟨.inr ⟨(l1 29 5 (.slice ao no co) hp1070.get3), trivial⟩, ?_⟩
    refine HOPS.eff _ rfl (opStep.buildSlice (E := 3) hp1070 [iI v1072] (by kernel_rfl) (fun g1077 w1075 hp1076 => ?_))
    refine ⟨.inr ⟨(l1 29 5 (.slice ao no co) hp1076.get4), trivial⟩, ?_⟩
    refine HOPS.eff _ rfl (opStep.append3 [iI v1072] hp1076 8 (by kernel_rfl) rfl rfl rfl (SlR.row (n := 1) hp1076.get0 rfl).rd (List.all_eq_true.1 (by kernel_rfl)) (by decide) (by omega) (by omega) (fun a1080 c1081 w1082 hp1083 hn1084 => ?_))
    rw [(show List.flatMap i64c ls ++ [iI v1072] = List.flatMap i64c (ls ++ [v1072]) from (List.flatMap_append (xs := ls) (ys := [v1072])).symm)] at hp1083
    refine ⟨.inr ⟨(l1 29 5 (.slice ao no co) hp1083.get4), trivial⟩, ?_⟩
    refine hP 1 [0, 2, 4, 8, 60, 61] [.string line, pP g3, pP g15, pP g1030, .slice a1080 (no + 1) c1081, .pointer (some ⟨g1030, 5, none⟩)] ⟨(l1 29 5 (.slice ao no co) hp1083.get4), trivial⟩ fun b1087 => ?_
    refine HOPS.eff _ rfl (opStep.store4 hp1083 rfl [.slice a1080 (no + 1) c1081] [iI k, iI v1042, iI 0, .string ByteArray.empty, nS, .slice a1080 (no + 1) c1081] (by kernel_rfl) (fun w1088 hp1089 => ?_))
    refine ⟨.inl rfl, ?_⟩
    refine HOPS.nil (blk_n (thn_n ?_))
    exact ⟨(wz.tail).length, (by rw [List.length_tail]; omega), wz.tail, h1071, bd1073_, ls ++ [v1072], a1080, no + 1, c1081, rfl, ⟨by rw [List.length_append, List.length_singleton, ← List.drop_drop, ← pa, List.drop_one], by rw [List.length_append, List.length_singleton]; omega, rn_step hrn pa hn1074 (by omega), tail_size hsw⟩, by kernel_rfl, ((((((((hp1089.pull7).pull7).pull7).pull7).pull6).pull6).pull7).sub (.cons_cons _ (.cons_cons _ (.cons_cons _ (.cons_cons _ (.cons_cons _ (.cons_cons _ (.cons_cons _ (.cons _ (.slnil))))))))))⟩
   ·refine WP.exit (thn_x (thn_x (blk_hit (thn_n (WP.seq (wR (oQ 1 {} [.agg #[iI k, iI v1042, iI 0, .string ByteArray.empty, nS, .slice ao no co]] [0, 2, 4, 8, 63] [.string line, pP g3, pP g15, pP g1030, .agg #[iI k, iI v1042, iI 0, .string ByteArray.empty, nS, .slice ao no co]] (.cons (lN 31 0 [iI k, iI v1042, iI 0, .string ByteArray.empty, nS, .slice ao no co] hp1054.get3) .nil) fun b1090 => ?_)))))))
    obtain ⟨xx, hxx⟩ : ∃ z : StepP, z = ⟨k, v1042, 0, ByteArray.empty, (⟨#[]⟩ : ByteArray), ls⟩ := ⟨_, rfl⟩
    have hsm : smS xx := by rw [hxx]; exact ⟨⟨hn1044.rng, in0, hrn.1⟩, (by simp only; decide), (by simp only; decide), by simp only; omega⟩
    refine OPS.cons (opStep.call (some 64) [.agg #[iI k, iI v1042, iI 0, .string ByteArray.empty, nS, .slice ao no co]] (by kernel_rfl) (sc_Line (⟨k, v1042, 0, ByteArray.empty, ⟨none, 0, 0⟩, ⟨ao, no, co⟩⟩ : GStep) xx _ (hls.fram hp1054.fr) (by rw [hxx]; exact (StR.of rfl rfl rfl rfl (⟨rfl, slr_nil0 _⟩) (own_flat (f := i64c) (sz := 1) (fun _ => rfl) (by decide) hp1054.get0).symm (SlR.own hp1054.get0))) hsm) ?_)
    rintro _ w1093 ⟨rfl, hf1094⟩
    refine ⟨_, rfl, ?_⟩
    have hp1095 := hp1054.step hf1094
    refine oP 5 [0, 2, 4, 8, 9, 10] (qa12 line g3 g15 g1030 xx) fun b1096 => ?_
    refine OPS.nil (thn_n ?_)
    refine WP.cut (fun e1138 w1139 => ∃ (x1136 : Bool), (True) ∧ Bp x1136 ((¬ (bz = true)) ∧ ((chkI xx) = 0) ∧ ((lineV xx) = line)) ∧ List.map e1138 [2, 3] = [pP g3, .bool x1136] ∧ Hp w Non [Res.own 3 1 (.slice ao no co) no (List.flatMap i64c ls), Res.row g15 [.slice hz.a hz.n hz.c, .bool bz] 75, Res.lst g10 hz wz, Res.row g1030 [iI k, iI v1042, iI 0, .string ByteArray.empty, nS, .slice ao no co] 31, Res.row g1024 (qa27 k) 56, Res.row g27 (qa1 line ByteArray.empty) 9, Res.row g3 [iI k, iI v1042, iI 0, .string ByteArray.empty, nS, .slice ao no co] 31] w1139) ?_ ?_
    ·have hp1098 := hp1095.drew
     refine WP.held (fun w1099 => Ld Tryd.prog w1099 31 ⟨g1030, 0, none⟩ (.agg #[iI k, iI v1042, iI 0, .string ByteArray.empty, nS, .slice ao no co]) ∧ Ld Tryd.prog w1099 4 ⟨g15, 1, none⟩ (.bool bz) ∧ True) [] [(0, true), (1, true), (2, true), (3, true), (4, true), (5, true), (6, true), (7, true), (8, true), (9, true), (10, true), (11, true), (12, true), (13, true), (14, true), (15, false), (16, true)] (np_thn np_body) (by kernel_rfl) ?_
     refine hQ 7 {} [.agg #[iI k, iI v1042, iI 0, .string ByteArray.empty, nS, .slice ao no co], .bool bz] [0, 2, 9, 10, 67, 73] [.string line, pP g3, .string (lineV xx), iI (chkI xx), .agg #[iI k, iI v1042, iI 0, .string ByteArray.empty, nS, .slice ao no co], .bool (!bz)] ⟨(lN 31 0 [iI k, iI v1042, iI 0, .string ByteArray.empty, nS, .slice ao no co] hp1098.get3), (l1 4 1 (.bool bz) hp1098.get1), trivial⟩ (fun w1100 hS1101 => (.cons (hS1101.1) (.cons (hS1101.2.1) .nil))) fun b1102 => ?_
     by_cases h1103 : bz = true
     ·refine hP 0 [0, 2, 9, 10, 67, 73] [.string line, pP g3, .string (lineV xx), iI (chkI xx), .agg #[iI k, iI v1042, iI 0, .string ByteArray.empty, nS, .slice ao no co], .bool (!bz)] ⟨(lN 31 0 [iI k, iI v1042, iI 0, .string ByteArray.empty, nS, .slice ao no co] hp1098.get3), (l1 4 1 (.bool bz) hp1098.get1), trivial⟩ fun b1127 => ?_
      refine HOPS.re [.string line, pP g3, .string (lineV xx), iI (chkI xx), .agg #[iI k, iI v1042, iI 0, .string ByteArray.empty, nS, .slice ao no co], bF] (by rw [show (!bz) = false from (Bp.not Bp.var).ff (fun k => k h1103)]) ?_
      refine hQ 8 { wraps := [76, 81] } [] [2, 67, 81] [pP g3, .agg #[iI k, iI v1042, iI 0, .string ByteArray.empty, nS, .slice ao no co], bF] ⟨(lN 31 0 [iI k, iI v1042, iI 0, .string ByteArray.empty, nS, .slice ao no co] hp1098.get3), (l1 4 1 (.bool bz) hp1098.get1), trivial⟩ (fun w1128 hS1129 => .nil) fun b1130 => ?_
      refine HOPS.eff _ rfl (opStep.store6 hp1098 rfl [iI k, iI v1042, iI 0, .string ByteArray.empty, nS, .slice ao no co] [iI k, iI v1042, iI 0, .string ByteArray.empty, nS, .slice ao no co] (by kernel_rfl) (fun w1131 hp1132 => ?_))
      refine ⟨.inr ⟨(lN 31 0 [iI k, iI v1042, iI 0, .string ByteArray.empty, nS, .slice ao no co] hp1132.get3), (l1 4 1 (.bool bz) hp1132.get1), trivial⟩, ?_⟩
      refine hP 1 [2, 3] [pP g3, bF] ⟨(lN 31 0 [iI k, iI v1042, iI 0, .string ByteArray.empty, nS, .slice ao no co] hp1132.get3), (l1 4 1 (.bool bz) hp1132.get1), trivial⟩ fun b1135 => ?_
      refine HOPS.nil (thn_n ?_)
      exact ⟨false, trivial, Bp.of Bp.f (by first | (simp [h1103]; done) | grind | (simp_all; done)), by kernel_rfl, hp1132⟩
     ·refine hP 0 [0, 2, 9, 10, 67, 73] [.string line, pP g3, .string (lineV xx), iI (chkI xx), .agg #[iI k, iI v1042, iI 0, .string ByteArray.empty, nS, .slice ao no co], .bool (!bz)] ⟨(lN 31 0 [iI k, iI v1042, iI 0, .string ByteArray.empty, nS, .slice ao no co] hp1098.get3), (l1 4 1 (.bool bz) hp1098.get1), trivial⟩ fun b1104 => ?_
      refine HOPS.re [.string line, pP g3, .string (lineV xx), iI (chkI xx), .agg #[iI k, iI v1042, iI 0, .string ByteArray.empty, nS, .slice ao no co], bT] (by rw [show (!bz) = true from (Bp.not Bp.var).tt h1103]) ?_
      refine hQ 4 { wraps := [76] } [] [0, 2, 9, 67, 77] [.string line, pP g3, .string (lineV xx), .agg #[iI k, iI v1042, iI 0, .string ByteArray.empty, nS, .slice ao no co], .bool (decide ((chkI xx) = 0))] ⟨(lN 31 0 [iI k, iI v1042, iI 0, .string ByteArray.empty, nS, .slice ao no co] hp1098.get3), (l1 4 1 (.bool bz) hp1098.get1), trivial⟩ (fun w1105 hS1106 => .nil) fun b1107 => ?_
      by_cases h1108 : (chkI xx) = 0
      ·refine hP 0 [0, 2, 9, 67, 77] [.string line, pP g3, .string (lineV xx), .agg #[iI k, iI v1042, iI 0, .string ByteArray.empty, nS, .slice ao no co], .bool (decide ((chkI xx) = 0))] ⟨(lN 31 0 [iI k, iI v1042, iI 0, .string ByteArray.empty, nS, .slice ao no co] hp1098.get3), (l1 4 1 (.bool bz) hp1098.get1), trivial⟩ fun b1109 => ?_
       refine HOPS.re [.string line, pP g3, .string (lineV xx), .agg #[iI k, iI v1042, iI 0, .string ByteArray.empty, nS, .slice ao no co], bT] (by rw [show (decide ((chkI xx) = 0)) = true from Bp.dec.tt h1108]) ?_
       refine hQ 4 { wraps := [81] } [] [2, 67, 81] [pP g3, .agg #[iI k, iI v1042, iI 0, .string ByteArray.empty, nS, .slice ao no co], .bool (decide ((lineV xx) = line))] ⟨(lN 31 0 [iI k, iI v1042, iI 0, .string ByteArray.empty, nS, .slice ao no co] hp1098.get3), (l1 4 1 (.bool bz) hp1098.get1), trivial⟩ (fun w1110 hS1111 => .nil) fun b1112 => ?_
       refine HOPS.eff _ rfl (opStep.store6 hp1098 rfl [iI k, iI v1042, iI 0, .string ByteArray.empty, nS, .slice ao no co] [iI k, iI v1042, iI 0, .string ByteArray.empty, nS, .slice ao no co] (by kernel_rfl) (fun w1113 hp1114 => ?_))
       refine ⟨.inr ⟨(lN 31 0 [iI k, iI v1042, iI 0, .string ByteArray.empty, nS, .slice ao no co] hp1114.get3), (l1 4 1 (.bool bz) hp1114.get1), trivial⟩, ?_⟩
       refine hP 1 [2, 3] [pP g3, .bool (decide ((lineV xx) = line))] ⟨(lN 31 0 [iI k, iI v1042, iI 0, .string ByteArray.empty, nS, .slice ao no co] hp1114.get3), (l1 4 1 (.bool bz) hp1114.get1), trivial⟩ fun b1117 => ?_
       refine HOPS.nil (thn_n ?_)
       exact ⟨decide ((lineV xx) = line), trivial, Bp.of Bp.dec (by first | (simp [h1103, h1108]; done) | grind | (simp_all; done)), by kernel_rfl, hp1114⟩
      ·refine hP 0 [0, 2, 9, 67, 77] [.string line, pP g3, .string (lineV xx), .agg #[iI k, iI v1042, iI 0, .string ByteArray.empty, nS, .slice ao no co], .bool (decide ((chkI xx) = 0))] ⟨(lN 31 0 [iI k, iI v1042, iI 0, .string ByteArray.empty, nS, .slice ao no co] hp1098.get3), (l1 4 1 (.bool bz) hp1098.get1), trivial⟩ fun b1118 => ?_
       refine HOPS.re [.string line, pP g3, .string (lineV xx), .agg #[iI k, iI v1042, iI 0, .string ByteArray.empty, nS, .slice ao no co], bF] (by rw [show (decide ((chkI xx) = 0)) = false from Bp.dec.ff h1108]) ?_
       refine hQ 4 { wraps := [81] } [] [2, 67, 81] [pP g3, .agg #[iI k, iI v1042, iI 0, .string ByteArray.empty, nS, .slice ao no co], bF] ⟨(lN 31 0 [iI k, iI v1042, iI 0, .string ByteArray.empty, nS, .slice ao no co] hp1098.get3), (l1 4 1 (.bool bz) hp1098.get1), trivial⟩ (fun w1119 hS1120 => .nil) fun b1121 => ?_
       refine HOPS.eff _ rfl (opStep.store6 hp1098 rfl [iI k, iI v1042, iI 0, .string ByteArray.empty, nS, .slice ao no co] [iI k, iI v1042, iI 0, .string ByteArray.empty, nS, .slice ao no co] (by kernel_rfl) (fun w1122 hp1123 => ?_))
       refine ⟨.inr ⟨(lN 31 0 [iI k, iI v1042, iI 0, .string ByteArray.empty, nS, .slice ao no co] hp1123.get3), (l1 4 1 (.bool bz) hp1123.get1), trivial⟩, ?_⟩
       refine hP 1 [2, 3] [pP g3, bF] ⟨(lN 31 0 [iI k, iI v1042, iI 0, .string ByteArray.empty, nS, .slice ao no co] hp1123.get3), (l1 4 1 (.bool bz) hp1123.get1), trivial⟩ fun b1126 => ?_
       refine HOPS.nil (thn_n ?_)
       exact ⟨false, trivial, Bp.of Bp.f (by first | (simp [h1103, h1108]; done) | grind | (simp_all; done)), by kernel_rfl, hp1123⟩
    rintro e1138 w1139 ⟨x1136, hd1141, hb1137, hE1142, hp1140⟩
    obtain ⟨b1143, rfl⟩ := toMk hE1142
    clear hE1142
    clear hd1141
    refine WP.ret ?_
    refine bodyQ.of _ rfl [.agg #[iI k, iI v1042, iI 0, .string ByteArray.empty, nS, .slice ao no co], .bool x1136] ⟨⟨_, rfl, (lN 31 0 [iI k, iI v1042, iI 0, .string ByteArray.empty, nS, .slice ao no co] hp1140.get6)⟩, rfl, trivial⟩ ?_
    have hre := fun y (h1 : okS y) (h2 : inS y) (h3 : y.Kind = k) (h4 : lineS y = line) => (show _ ∧ xx = y from hxx ▸ read_ok (k := k) (line := line) rfl rfl (.t hpa.fl.1 ⟨hn1044, rfl⟩) (.f hpa.fl.2.1 ⟨rfl, rfl, rfl⟩) (.f hpa.fl.2.2.1 ⟨rfl, rfl, rfl⟩) (.f hpa.fl.2.2.2.1 ⟨rfl, rfl, rfl⟩) (rn_end hrn pa (by omega)) h1 h2 h3 h4)
    have hfin := step_fin (P := (¬ (bz = true)) ∧ ((chkI xx) = 0) ∧ ((lineV xx) = line)) hk38 hsm.1 hre (by have q0_ := h1016 ; have q1_ := h1059 ; first | grind | (simp_all; done))
    exact ⟨(⟨k, v1042, 0, ByteArray.empty, ⟨none, 0, 0⟩, ⟨ao, no, co⟩⟩ : GStep), xx, _, _, rfl, ⟨fun h => hfin.1 (Bp.tr hb1137 h), fun h => hfin.2 (Bp.fa hb1137 h)⟩, (by rw [hxx]; exact Hp.soMake0 (⟨k, v1042, 0, ByteArray.empty, ⟨none, 0, 0⟩, ⟨ao, no, co⟩⟩ : GStep) _ rfl rfl rfl rfl rfl rfl (hp1140.sub (.cons_cons _ (.cons _ (.cons _ (.cons _ (.cons _ (.cons _ (.cons _ (.slnil))))))))))⟩

end Go.Proofs.YtbpedjefoajegaaDoor.K
