/- The walks of WTagTexts: what each function computes. -/
import Derived.Test.YtpmcjhjlajmljaaDoorRRRRProg
import Derived.Test.YtpmcjhjlajmljaaDoorRRRRCoreO
import Derived.Test.YtpmcjhjlajmljaaDoorRRRRTagX
import Derived.Test.YtpmcjhjlajmljaaDoorRRRROpen
namespace Go.Proofs.YtpmcjhjlajmljaaDoorRRRR.K
open Go Go.Proofs Go.RowKit
set_option linter.unusedVariables false
set_option linter.unusedSimpArgs false
set_option maxRecDepth 20000
set_option maxHeartbeats 4000000

theorem TagTexts (t : GTag) (s : ByteArray) (h0 : -9223372036854775808 ≤ t.Count) (h1 : t.Count ≤ 9223372036854775807) (h2 : -9223372036854775808 ≤ t.Client) (h3 : t.Client ≤ 9223372036854775807) (hs : s.size ≤ 1048576) (w : World) (hl : LibP w) :
    Calls Tryd.prog 3 #[GTag.val t, .string s] w (fun x w' => x = .returned (.bool true) ∧ Fram Non w w') := by
  have hz := textT_size (t := t)
  have hr1 := parse_rng (s := s)
  have hr2 := parse_rng (s := textT t)
  refine calls_of Tryd.func3 rfl 61 rfl (by simp) ?_
  have hp0 := Hp.init w
  have he0 : List.map (env0 [GTag.val t, .string s]) [0, 1] = [GTag.val t, .string s] := by kernel_rfl
  obtain ⟨b0, he0⟩ := toMk he0
  rw [he0]
  clear he0
  refine WP.seq ?_
  refine WP.region _ rfl (by kernel_rfl) ?_
  refine OPS.cons (opStep.box hp0 [.int .i64 t.Count, .int .i64 t.Client] (by kernel_rfl) (fun g3 w1 hp2 => ?_))
  refine OPS.batch 1 {} [] [1, 2] [.string s, .pointer (some ⟨g3, 0, none⟩)] .nil (by kernel_rfl) (fun b4 => ?_)
  refine OPS.nil ?_
  refine thn_n ?_
  refine WP.seq ?_
  refine WP.cut (fun e26 w27 => ∃ (x24 : Bool), (True) ∧ Bp x24 (((¬ ((textT (⟨12, 3⟩ : GTag)) = ⟨#[49, 50, 46, 51]⟩))) ∨ (((textT (⟨12, 3⟩ : GTag)) = ⟨#[49, 50, 46, 51]⟩) ∧ (¬ ((textT (⟨0, 0⟩ : GTag)) = ⟨#[48, 46, 48]⟩)))) ∧ List.map e26 [1, 2, 15] = [.string s, .pointer (some ⟨g3, 0, none⟩), .bool x24] ∧ Hp w Non [Res.row g3 [.int .i64 t.Count, .int .i64 t.Client] 23] w27) ?_ ?_
  · refine WP.region _ rfl (by kernel_rfl) ?_
    refine OPS.batch 1 {} [] [1, 2, 8] [.string s, .pointer (some ⟨g3, 0, none⟩), .agg #[.int .i64 12, .int .i64 3]] .nil (by kernel_rfl) (fun b6 => ?_)
    refine OPS.cons (opStep.call (some 9) [.agg #[.int .i64 12, .int .i64 3]] (by kernel_rfl) (tag_Text (⟨12, 3⟩ : GTag) (by first | omega | decide | (show _ ≤ _; omega)) (by first | omega | decide | (show _ ≤ _; omega)) (by first | omega | decide | (show _ ≤ _; omega)) (by first | omega | decide | (show _ ≤ _; omega)) _ (hl.fram hp2.fr)) ?_)
    rintro _ w9 ⟨rfl, hf10⟩
    refine ⟨_, rfl, ?_⟩
    have hp11 := hp2.step hf10
    refine OPS.batch 2 {} [] [1, 2, 11] [.string s, .pointer (some ⟨g3, 0, none⟩), .bool (decide (¬ ((textT (⟨12, 3⟩ : GTag)) = ⟨#[49, 50, 46, 51]⟩)))] .nil (by kernel_rfl) (fun b12 => ?_)
    by_cases h13 : (textT (⟨12, 3⟩ : GTag)) = ⟨#[49, 50, 46, 51]⟩
    · refine OPS.batch 0 {} [] [1, 2, 11] [.string s, .pointer (some ⟨g3, 0, none⟩), .bool (decide (¬ ((textT (⟨12, 3⟩ : GTag)) = ⟨#[49, 50, 46, 51]⟩)))] .nil (by kernel_rfl) (fun b16 => ?_)
      refine OPS.re [.string s, .pointer (some ⟨g3, 0, none⟩), .bool false] (by rw [show (decide (¬ ((textT (⟨12, 3⟩ : GTag)) = ⟨#[49, 50, 46, 51]⟩))) = false from Bp.dec.ff (fun k => k h13)]) ?_
      refine OPS.batch 1 {} [] [1, 2, 11, 12] [.string s, .pointer (some ⟨g3, 0, none⟩), .bool false, .agg #[.int .i64 0, .int .i64 0]] .nil (by kernel_rfl) (fun b17 => ?_)
      refine OPS.want (by kernel_rfl) ?_
      refine OPS.cons (opStep.call (some 13) [.agg #[.int .i64 0, .int .i64 0]] (by kernel_rfl) (tag_Text (⟨0, 0⟩ : GTag) (by first | omega | decide | (show _ ≤ _; omega)) (by first | omega | decide | (show _ ≤ _; omega)) (by first | omega | decide | (show _ ≤ _; omega)) (by first | omega | decide | (show _ ≤ _; omega)) _ (hl.fram hp11.fr)) ?_)
      rintro _ w20 ⟨rfl, hf21⟩
      refine ⟨_, rfl, ?_⟩
      have hp22 := hp11.step hf21
      refine OPS.batch 2 { wraps := [15] } [] [1, 2, 15] [.string s, .pointer (some ⟨g3, 0, none⟩), .bool (decide (¬ ((textT (⟨0, 0⟩ : GTag)) = ⟨#[48, 46, 48]⟩)))] .nil (by kernel_rfl) (fun b23 => ?_)
      refine OPS.nil ?_
      refine thn_n ?_
      exact ⟨decide (¬ ((textT (⟨0, 0⟩ : GTag)) = ⟨#[48, 46, 48]⟩)), trivial, Bp.of Bp.dec (by first | (simp only [h13, iff_false, false_iff, iff_true, true_iff, Classical.not_not, and_true, true_and, and_false, false_and, or_true, true_or, or_false, false_or, not_true_eq_false, not_false_eq_true, and_self, or_self, iff_self]; done) | (simp [h13]; done) | simp_all), by kernel_rfl, hp22⟩
    · refine OPS.batch 0 {} [] [1, 2, 11] [.string s, .pointer (some ⟨g3, 0, none⟩), .bool (decide (¬ ((textT (⟨12, 3⟩ : GTag)) = ⟨#[49, 50, 46, 51]⟩)))] .nil (by kernel_rfl) (fun b14 => ?_)
      refine OPS.re [.string s, .pointer (some ⟨g3, 0, none⟩), .bool true] (by rw [show (decide (¬ ((textT (⟨12, 3⟩ : GTag)) = ⟨#[49, 50, 46, 51]⟩))) = true from Bp.dec.tt h13]) ?_
      refine OPS.batch 4 { wraps := [15] } [] [1, 2, 15] [.string s, .pointer (some ⟨g3, 0, none⟩), .bool true] .nil (by kernel_rfl) (fun b15 => ?_)
      refine OPS.nil ?_
      refine thn_n ?_
      exact ⟨true, trivial, Bp.of Bp.t (by first | (simp only [h13, iff_false, false_iff, iff_true, true_iff, Classical.not_not, and_true, true_and, and_false, false_and, or_true, true_or, or_false, false_or, not_true_eq_false, not_false_eq_true, and_self, or_self, iff_self]; done) | (simp [h13]; done) | simp_all), by kernel_rfl, hp11⟩
  rintro e26 w27 ⟨x24, hd29, hb25, hE30, hp28⟩
  obtain ⟨b31, rfl⟩ := toMk hE30
  clear hE30
  clear hd29
  refine WP.test (p := ((¬ ((textT (⟨12, 3⟩ : GTag)) = ⟨#[49, 50, 46, 51]⟩))) ∨ (((textT (⟨12, 3⟩ : GTag)) = ⟨#[49, 50, 46, 51]⟩) ∧ (¬ ((textT (⟨0, 0⟩ : GTag)) = ⟨#[48, 46, 48]⟩)))) rfl hb25 (fun h32 => ?_) (fun h32 => ?_)
  · refine WP.seq ?_
    refine WP.pure {} [] [4] [.bool false] .nil (by kernel_rfl) (fun b33 => ?_)
    refine thn_n ?_
    refine WP.ret ?_
    refine thn_r ?_
    refine bodyQ.of _ rfl [.bool false] ⟨rfl, trivial⟩ ?_
    exfalso
    simp only [text_12, text_00, not_true_eq_false, and_false, or_false] at h32
  · refine WP.skip ?_
    refine thn_n ?_
    refine WP.seq ?_
    refine WP.region _ rfl (by kernel_rfl) ?_
    refine OPS.batch 1 {} [GTag.val t] [1, 2, 16] [.string s, .pointer (some ⟨g3, 0, none⟩), GTag.val t] (.cons (show Ld Tryd.prog w27 23 ⟨g3, 0, none⟩ (GTag.val t) from Ld.rowN (cs := [.int .i64 t.Count, .int .i64 t.Client]) hp28.get0 (by kernel_rfl)) .nil) (by kernel_rfl) (fun b34 => ?_)
    refine OPS.cons (opStep.call (some 17) [GTag.val t] (by kernel_rfl) (tag_Text t (by first | omega | decide | (show _ ≤ _; omega)) (by first | omega | decide | (show _ ≤ _; omega)) (by first | omega | decide | (show _ ≤ _; omega)) (by first | omega | decide | (show _ ≤ _; omega)) _ (hl.fram hp28.fr)) ?_)
    rintro _ w37 ⟨rfl, hf38⟩
    refine ⟨_, rfl, ?_⟩
    have hp39 := hp28.step hf38
    refine OPS.batch 1 {} [] [1, 2, 5] [.string s, .pointer (some ⟨g3, 0, none⟩), .string (textT t)] .nil (by kernel_rfl) (fun b40 => ?_)
    refine OPS.nil ?_
    refine thn_n ?_
    refine WP.seq ?_
    refine WP.seq ?_
    refine WP.region _ rfl (by kernel_rfl) ?_
    refine OPS.batch 1 {} [GTag.val t] [1, 2, 5, 18] [.string s, .pointer (some ⟨g3, 0, none⟩), .string (textT t), GTag.val t] (.cons (show Ld Tryd.prog w37 23 ⟨g3, 0, none⟩ (GTag.val t) from Ld.rowN (cs := [.int .i64 t.Count, .int .i64 t.Client]) hp39.get0 (by kernel_rfl)) .nil) (by kernel_rfl) (fun b41 => ?_)
    refine OPS.cons (opStep.call (some 19) [GTag.val t] (by kernel_rfl) (tag_Valid t _) ?_)
    rintro _ w44 ⟨b47, rfl, hb48, hf45⟩
    refine ⟨_, rfl, ?_⟩
    have hp46 := hp39.step hf45
    refine OPS.batch 3 {} [] [1, 2, 5, 22] [.string s, .pointer (some ⟨g3, 0, none⟩), .string (textT t), .bool (!(b47 == (decide (¬ ((textT t) = ⟨#[]⟩)))))] .nil (by kernel_rfl) (fun b49 => ?_)
    refine OPS.nil ?_
    refine thn_n ?_
    refine WP.test (p := ¬ (((tagValid t) ↔ (¬ ((textT t) = ⟨#[]⟩))))) rfl (Bp.not (Bp.beq hb48 Bp.dec)) (fun h50 => ?_) (fun h50 => ?_)
    · refine WP.seq ?_
      refine WP.pure {} [] [4] [.bool false] .nil (by kernel_rfl) (fun b51 => ?_)
      refine thn_n ?_
      refine WP.ret ?_
      refine thn_r ?_
      refine bodyQ.of _ rfl [.bool false] ⟨rfl, trivial⟩ ?_
      exfalso
      exact h50 ⟨text_ne, fun q => Classical.byContradiction fun e => q (text_no e)⟩
    · replace h50 := Classical.not_not.1 h50
      refine WP.skip ?_
      refine thn_n ?_
      refine WP.seq ?_
      refine WP.region _ rfl (by kernel_rfl) ?_
      refine OPS.batch 1 {} [] [1, 2, 5, 24] [.string s, .pointer (some ⟨g3, 0, none⟩), .string (textT t), .string (textT t)] .nil (by kernel_rfl) (fun b52 => ?_)
      refine OPS.cons (opStep.call (some 25) [.string (textT t)] (by kernel_rfl) (tag_Parse (textT t) (by omega) _ (hl.fram hp46.fr)) ?_)
      rintro _ w55 ⟨rfl, hf56⟩
      refine ⟨_, rfl, ?_⟩
      have hp57 := hp46.step hf56
      refine OPS.batch 3 {} [] [1, 2, 5, 26, 27] [.string s, .pointer (some ⟨g3, 0, none⟩), .string (textT t), GTag.val ((parseT (textT t)).1), .int .i64 ((parseT (textT t)).2)] .nil (by kernel_rfl) (fun b58 => ?_)
      refine OPS.cons (opStep.alloc hp57 [.int .i64 0, .int .i64 0] (by kernel_rfl) (fun g61 w59 hp60 => ?_))
      refine OPS.cons (opStep.store0 hp60 rfl [.int .i64 ((parseT (textT t)).1.Count), .int .i64 ((parseT (textT t)).1.Client)] [.int .i64 ((parseT (textT t)).1.Count), .int .i64 ((parseT (textT t)).1.Client)] (by kernel_rfl) (fun w62 hp63 => ?_))
      refine OPS.batch 1 {} [] [1, 2, 5, 6, 7] [.string s, .pointer (some ⟨g3, 0, none⟩), .string (textT t), .pointer (some ⟨g61, 0, none⟩), .int .i64 ((parseT (textT t)).2)] .nil (by kernel_rfl) (fun b64 => ?_)
      refine OPS.nil ?_
      refine thn_n ?_
      refine WP.seq ?_
      refine WP.cut (fun e79 w80 => ∃ (x77 : Bool), (True) ∧ Bp x77 (((¬ ((textT t) = ⟨#[]⟩)) ∧ (¬ (((parseT (textT t)).2) = 0))) ∨ ((¬ ((textT t) = ⟨#[]⟩)) ∧ (((parseT (textT t)).2) = 0) ∧ (¬ ((((parseT (textT t)).1.Count) = t.Count) ∧ (((parseT (textT t)).1.Client) = t.Client))))) ∧ List.map e79 [1, 6, 38] = [.string s, .pointer (some ⟨g61, 0, none⟩), .bool x77] ∧ Hp w Non [Res.row g61 [.int .i64 ((parseT (textT t)).1.Count), .int .i64 ((parseT (textT t)).1.Client)] 23, Res.row g3 [.int .i64 t.Count, .int .i64 t.Client] 23] w80) ?_ ?_
      · refine WP.region _ rfl (by kernel_rfl) ?_
        refine OPS.batch 3 {} [] [1, 2, 6, 7, 30] [.string s, .pointer (some ⟨g3, 0, none⟩), .pointer (some ⟨g61, 0, none⟩), .int .i64 ((parseT (textT t)).2), .bool (decide (¬ ((textT t) = ⟨#[]⟩)))] .nil (by kernel_rfl) (fun b66 => ?_)
        by_cases h67 : (textT t) = ⟨#[]⟩
        · refine OPS.batch 0 {} [] [1, 2, 6, 7, 30] [.string s, .pointer (some ⟨g3, 0, none⟩), .pointer (some ⟨g61, 0, none⟩), .int .i64 ((parseT (textT t)).2), .bool (decide (¬ ((textT t) = ⟨#[]⟩)))] .nil (by kernel_rfl) (fun b75 => ?_)
          refine OPS.re [.string s, .pointer (some ⟨g3, 0, none⟩), .pointer (some ⟨g61, 0, none⟩), .int .i64 ((parseT (textT t)).2), .bool false] (by rw [show (decide (¬ ((textT t) = ⟨#[]⟩))) = false from Bp.dec.ff (fun k => k h67)]) ?_
          refine OPS.batch 8 { wraps := [38] } [] [1, 6, 38] [.string s, .pointer (some ⟨g61, 0, none⟩), .bool false] .nil (by kernel_rfl) (fun b76 => ?_)
          refine OPS.nil ?_
          refine thn_n ?_
          exact ⟨false, trivial, Bp.of Bp.f (by first | (simp only [h67, iff_false, false_iff, iff_true, true_iff, Classical.not_not, and_true, true_and, and_false, false_and, or_true, true_or, or_false, false_or, not_true_eq_false, not_false_eq_true, and_self, or_self, iff_self]; done) | (simp [h67]; done) | simp_all), by kernel_rfl, hp63⟩
        · refine OPS.batch 0 {} [] [1, 2, 6, 7, 30] [.string s, .pointer (some ⟨g3, 0, none⟩), .pointer (some ⟨g61, 0, none⟩), .int .i64 ((parseT (textT t)).2), .bool (decide (¬ ((textT t) = ⟨#[]⟩)))] .nil (by kernel_rfl) (fun b68 => ?_)
          refine OPS.re [.string s, .pointer (some ⟨g3, 0, none⟩), .pointer (some ⟨g61, 0, none⟩), .int .i64 ((parseT (textT t)).2), .bool true] (by rw [show (decide (¬ ((textT t) = ⟨#[]⟩))) = true from Bp.dec.tt h67]) ?_
          refine OPS.batch 3 {} [] [1, 2, 6, 30, 33] [.string s, .pointer (some ⟨g3, 0, none⟩), .pointer (some ⟨g61, 0, none⟩), .bool true, .bool (decide (¬ (((parseT (textT t)).2) = 0)))] .nil (by kernel_rfl) (fun b69 => ?_)
          by_cases h70 : ((parseT (textT t)).2) = 0
          · refine OPS.batch 0 {} [] [1, 2, 6, 30, 33] [.string s, .pointer (some ⟨g3, 0, none⟩), .pointer (some ⟨g61, 0, none⟩), .bool true, .bool (decide (¬ (((parseT (textT t)).2) = 0)))] .nil (by kernel_rfl) (fun b73 => ?_)
            refine OPS.re [.string s, .pointer (some ⟨g3, 0, none⟩), .pointer (some ⟨g61, 0, none⟩), .bool true, .bool false] (by rw [show (decide (¬ (((parseT (textT t)).2) = 0))) = false from Bp.dec.ff (fun k => k h70)]) ?_
            refine OPS.batch 5 { wraps := [37, 38] } [GTag.val ((parseT (textT t)).1), GTag.val t] [1, 6, 38] [.string s, .pointer (some ⟨g61, 0, none⟩), .bool (!((decide (((parseT (textT t)).1.Count) = t.Count)) && ((decide (((parseT (textT t)).1.Client) = t.Client)) && true)))] (.cons (show Ld Tryd.prog w62 23 ⟨g61, 0, none⟩ (GTag.val ((parseT (textT t)).1)) from Ld.rowN (cs := [.int .i64 ((parseT (textT t)).1.Count), .int .i64 ((parseT (textT t)).1.Client)]) hp63.get0 (by kernel_rfl)) (.cons (show Ld Tryd.prog w62 23 ⟨g3, 0, none⟩ (GTag.val t) from Ld.rowN (cs := [.int .i64 t.Count, .int .i64 t.Client]) hp63.get1 (by kernel_rfl)) .nil)) (by kernel_rfl) (fun b74 => ?_)
            refine OPS.nil ?_
            refine thn_n ?_
            exact ⟨!((decide (((parseT (textT t)).1.Count) = t.Count)) && ((decide (((parseT (textT t)).1.Client) = t.Client)) && true)), trivial, Bp.of (Bp.not (Bp.band Bp.dec (Bp.band1 Bp.dec))) (by first | (simp only [h67, h70, iff_false, false_iff, iff_true, true_iff, Classical.not_not, and_true, true_and, and_false, false_and, or_true, true_or, or_false, false_or, not_true_eq_false, not_false_eq_true, and_self, or_self, iff_self]; done) | (simp [h67, h70]; done) | simp_all), by kernel_rfl, hp63⟩
          · refine OPS.batch 0 {} [] [1, 2, 6, 30, 33] [.string s, .pointer (some ⟨g3, 0, none⟩), .pointer (some ⟨g61, 0, none⟩), .bool true, .bool (decide (¬ (((parseT (textT t)).2) = 0)))] .nil (by kernel_rfl) (fun b71 => ?_)
            refine OPS.re [.string s, .pointer (some ⟨g3, 0, none⟩), .pointer (some ⟨g61, 0, none⟩), .bool true, .bool true] (by rw [show (decide (¬ (((parseT (textT t)).2) = 0))) = true from Bp.dec.tt h70]) ?_
            refine OPS.batch 5 { wraps := [37, 38] } [] [1, 6, 38] [.string s, .pointer (some ⟨g61, 0, none⟩), .bool true] .nil (by kernel_rfl) (fun b72 => ?_)
            refine OPS.nil ?_
            refine thn_n ?_
            exact ⟨true, trivial, Bp.of Bp.t (by first | (simp only [h67, h70, iff_false, false_iff, iff_true, true_iff, Classical.not_not, and_true, true_and, and_false, false_and, or_true, true_or, or_false, false_or, not_true_eq_false, not_false_eq_true, and_self, or_self, iff_self]; done) | (simp [h67, h70]; done) | simp_all), by kernel_rfl, hp63⟩
      rintro e79 w80 ⟨x77, hd82, hb78, hE83, hp81⟩
      obtain ⟨b84, rfl⟩ := toMk hE83
      clear hE83
      clear hd82
      refine WP.test (p := ((¬ ((textT t) = ⟨#[]⟩)) ∧ (¬ (((parseT (textT t)).2) = 0))) ∨ ((¬ ((textT t) = ⟨#[]⟩)) ∧ (((parseT (textT t)).2) = 0) ∧ (¬ ((((parseT (textT t)).1.Count) = t.Count) ∧ (((parseT (textT t)).1.Client) = t.Client))))) rfl hb78 (fun h85 => ?_) (fun h85 => ?_)
      · refine WP.seq ?_
        refine WP.pure {} [] [4] [.bool false] .nil (by kernel_rfl) (fun b86 => ?_)
        refine thn_n ?_
        refine WP.ret ?_
        refine thn_r ?_
        refine bodyQ.of _ rfl [.bool false] ⟨rfl, trivial⟩ ?_
        exfalso
        by_cases hv : tagValid t
        · rw [text_back hv] at h85; simp at h85
        · simp [text_no hv] at h85
      · refine WP.skip ?_
        refine thn_n ?_
        refine WP.seq ?_
        refine WP.region _ rfl (by kernel_rfl) ?_
        refine OPS.batch 1 {} [] [1, 6, 40] [.string s, .pointer (some ⟨g61, 0, none⟩), .string s] .nil (by kernel_rfl) (fun b87 => ?_)
        refine OPS.cons (opStep.call (some 41) [.string s] (by kernel_rfl) (tag_Parse s (by omega) _ (hl.fram hp81.fr)) ?_)
        rintro _ w90 ⟨rfl, hf91⟩
        refine ⟨_, rfl, ?_⟩
        have hp92 := hp81.step hf91
        refine OPS.batch 3 {} [] [1, 6, 42, 43] [.string s, .pointer (some ⟨g61, 0, none⟩), GTag.val ((parseT s).1), .int .i64 ((parseT s).2)] .nil (by kernel_rfl) (fun b93 => ?_)
        refine OPS.cons (opStep.store0 hp92 rfl [.int .i64 ((parseT s).1.Count), .int .i64 ((parseT s).1.Client)] [.int .i64 ((parseT s).1.Count), .int .i64 ((parseT s).1.Client)] (by kernel_rfl) (fun w94 hp95 => ?_))
        refine OPS.batch 1 {} [] [1, 6, 7] [.string s, .pointer (some ⟨g61, 0, none⟩), .int .i64 ((parseT s).2)] .nil (by kernel_rfl) (fun b96 => ?_)
        refine OPS.nil ?_
        refine thn_n ?_
        refine WP.seq ?_
        refine WP.seq ?_
        refine WP.pure {} [] [1, 6, 7, 45] [.string s, .pointer (some ⟨g61, 0, none⟩), .int .i64 ((parseT s).2), .bool (decide (¬ (((parseT s).2) = 0)))] .nil (by kernel_rfl) (fun b97 => ?_)
        refine thn_n ?_
        refine WP.test (p := ¬ (((parseT s).2) = 0)) rfl Bp.dec (fun h98 => ?_) (fun h98 => ?_)
        · refine WP.cut (fun e108 w109 => ∃ (x106 : Bool), (True) ∧ Bp x106 ((((parseT s).2) = 31) ∧ ((((parseT s).1.Count) = 0) ∧ (((parseT s).1.Client) = 0))) ∧ List.map e108 [4] = [.bool x106] ∧ Hp w Non [Res.row g61 [.int .i64 ((parseT s).1.Count), .int .i64 ((parseT s).1.Client)] 23, Res.row g3 [.int .i64 t.Count, .int .i64 t.Client] 23] w109) ?_ ?_
          · refine WP.region _ rfl (by kernel_rfl) ?_
            refine OPS.batch 3 {} [] [6, 48] [.pointer (some ⟨g61, 0, none⟩), .bool (decide (((parseT s).2) = 31))] .nil (by kernel_rfl) (fun b100 => ?_)
            by_cases h101 : ((parseT s).2) = 31
            · refine OPS.batch 0 {} [] [6, 48] [.pointer (some ⟨g61, 0, none⟩), .bool (decide (((parseT s).2) = 31))] .nil (by kernel_rfl) (fun b102 => ?_)
              refine OPS.re [.pointer (some ⟨g61, 0, none⟩), .bool true] (by rw [show (decide (((parseT s).2) = 31)) = true from Bp.dec.tt h101]) ?_
              refine OPS.batch 5 { wraps := [52] } [GTag.val ((parseT s).1)] [4] [.bool ((decide (((parseT s).1.Count) = 0)) && ((decide (((parseT s).1.Client) = 0)) && true))] (.cons (show Ld Tryd.prog w94 23 ⟨g61, 0, none⟩ (GTag.val ((parseT s).1)) from Ld.rowN (cs := [.int .i64 ((parseT s).1.Count), .int .i64 ((parseT s).1.Client)]) hp95.get0 (by kernel_rfl)) .nil) (by kernel_rfl) (fun b103 => ?_)
              refine OPS.nil ?_
              refine thn_n ?_
              exact ⟨(decide (((parseT s).1.Count) = 0)) && ((decide (((parseT s).1.Client) = 0)) && true), trivial, Bp.of (Bp.band Bp.dec (Bp.band1 Bp.dec)) (by first | (simp only [h101, iff_false, false_iff, iff_true, true_iff, Classical.not_not, and_true, true_and, and_false, false_and, or_true, true_or, or_false, false_or, not_true_eq_false, not_false_eq_true, and_self, or_self, iff_self]; done) | (simp [h101]; done) | simp_all), by kernel_rfl, hp95⟩
            · refine OPS.batch 0 {} [] [6, 48] [.pointer (some ⟨g61, 0, none⟩), .bool (decide (((parseT s).2) = 31))] .nil (by kernel_rfl) (fun b104 => ?_)
              refine OPS.re [.pointer (some ⟨g61, 0, none⟩), .bool false] (by rw [show (decide (((parseT s).2) = 31)) = false from Bp.dec.ff h101]) ?_
              refine OPS.batch 5 { wraps := [52] } [] [4] [.bool false] .nil (by kernel_rfl) (fun b105 => ?_)
              refine OPS.nil ?_
              refine thn_n ?_
              exact ⟨false, trivial, Bp.of Bp.f (by first | (simp only [h101, iff_false, false_iff, iff_true, true_iff, Classical.not_not, and_true, true_and, and_false, false_and, or_true, true_or, or_false, false_or, not_true_eq_false, not_false_eq_true, and_self, or_self, iff_self]; done) | (simp [h101]; done) | simp_all), by kernel_rfl, hp95⟩
          rintro e108 w109 ⟨x106, hd111, hb107, hE112, hp110⟩
          obtain ⟨b113, rfl⟩ := toMk hE112
          clear hE112
          clear hd111
          refine WP.ret ?_
          refine thn_r ?_
          refine bodyQ.of _ rfl [.bool x106] ⟨rfl, trivial⟩ ?_
          exact ⟨congrArg (fun b => Ending.returned (.bool b)) (Bp.tt hb107 (by rw [parse_no h98]; exact ⟨rfl, rfl, rfl⟩)), hp110.fr⟩
        · replace h98 := Classical.not_not.1 h98
          refine WP.skip ?_
          refine thn_n ?_
          refine WP.cut (fun e135 w136 => ∃ (x133 : Bool), (True) ∧ Bp x133 ((tagValid ((parseT s).1)) ∧ ((textT ((parseT s).1)) = s)) ∧ List.map e135 [4] = [.bool x133] ∧ Hp w Non [Res.row g61 [.int .i64 ((parseT s).1.Count), .int .i64 ((parseT s).1.Client)] 23, Res.row g3 [.int .i64 t.Count, .int .i64 t.Client] 23] w136) ?_ ?_
          · refine WP.region _ rfl (by kernel_rfl) ?_
            refine OPS.batch 1 {} [GTag.val ((parseT s).1)] [1, 6, 53] [.string s, .pointer (some ⟨g61, 0, none⟩), GTag.val ((parseT s).1)] (.cons (show Ld Tryd.prog w94 23 ⟨g61, 0, none⟩ (GTag.val ((parseT s).1)) from Ld.rowN (cs := [.int .i64 ((parseT s).1.Count), .int .i64 ((parseT s).1.Client)]) hp95.get0 (by kernel_rfl)) .nil) (by kernel_rfl) (fun b115 => ?_)
            refine OPS.cons (opStep.call (some 54) [GTag.val ((parseT s).1)] (by kernel_rfl) (tag_Valid ((parseT s).1) _) ?_)
            rintro _ w118 ⟨b121, rfl, hb122, hf119⟩
            refine ⟨_, rfl, ?_⟩
            have hp120 := hp95.step hf119
            refine OPS.batch 1 {} [] [1, 6, 55] [.string s, .pointer (some ⟨g61, 0, none⟩), .bool b121] .nil (by kernel_rfl) (fun b123 => ?_)
            by_cases h124 : tagValid ((parseT s).1)
            · rw [show b121 = true from hb122.tt h124]
              refine OPS.batch 1 {} [GTag.val ((parseT s).1)] [1, 55, 56] [.string s, .bool true, GTag.val ((parseT s).1)] (.cons (show Ld Tryd.prog w118 23 ⟨g61, 0, none⟩ (GTag.val ((parseT s).1)) from Ld.rowN (cs := [.int .i64 ((parseT s).1.Count), .int .i64 ((parseT s).1.Client)]) hp120.get0 (by kernel_rfl)) .nil) (by kernel_rfl) (fun b125 => ?_)
              refine OPS.want (by kernel_rfl) ?_
              refine OPS.cons (opStep.call (some 57) [GTag.val ((parseT s).1)] (by kernel_rfl) (tag_Text ((parseT s).1) (by first | omega | decide | (show _ ≤ _; omega)) (by first | omega | decide | (show _ ≤ _; omega)) (by first | omega | decide | (show _ ≤ _; omega)) (by first | omega | decide | (show _ ≤ _; omega)) _ (hl.fram hp120.fr)) ?_)
              rintro _ w128 ⟨rfl, hf129⟩
              refine ⟨_, rfl, ?_⟩
              have hp130 := hp120.step hf129
              refine OPS.batch 4 { wraps := [60] } [] [4] [.bool (decide ((textT ((parseT s).1)) = s))] .nil (by kernel_rfl) (fun b131 => ?_)
              refine OPS.nil ?_
              refine thn_n ?_
              exact ⟨decide ((textT ((parseT s).1)) = s), trivial, Bp.of Bp.dec (by first | (simp only [h124, iff_false, false_iff, iff_true, true_iff, Classical.not_not, and_true, true_and, and_false, false_and, or_true, true_or, or_false, false_or, not_true_eq_false, not_false_eq_true, and_self, or_self, iff_self]; done) | (simp [h124]; done) | simp_all), by kernel_rfl, hp130⟩
            · rw [show b121 = false from hb122.ff h124]
              refine OPS.batch 6 { wraps := [60] } [] [4] [.bool false] .nil (by kernel_rfl) (fun b132 => ?_)
              refine OPS.nil ?_
              refine thn_n ?_
              exact ⟨false, trivial, Bp.of Bp.f (by first | (simp only [h124, iff_false, false_iff, iff_true, true_iff, Classical.not_not, and_true, true_and, and_false, false_and, or_true, true_or, or_false, false_or, not_true_eq_false, not_false_eq_true, and_self, or_self, iff_self]; done) | (simp [h124]; done) | simp_all), by kernel_rfl, hp120⟩
          rintro e135 w136 ⟨x133, hd138, hb134, hE139, hp137⟩
          obtain ⟨b140, rfl⟩ := toMk hE139
          clear hE139
          clear hd138
          refine WP.ret ?_
          refine bodyQ.of _ rfl [.bool x133] ⟨rfl, trivial⟩ ?_
          exact ⟨congrArg (fun b => Ending.returned (.bool b)) (Bp.tt hb134 (by exact parse_ok h98)), hp137.fr⟩

end Go.Proofs.YtpmcjhjlajmljaaDoorRRRR.K
