/- The walks of WScriptBack: what each function computes. -/
import Derived.Test.YtbpedjefoajegaaDoorProg
import Derived.Test.YtbpedjefoajegaaDoorCoreO
import Derived.Test.YtbpedjefoajegaaDoorSbkB
import Derived.Test.YtbpedjefoajegaaDoorOpen
import Derived.Test.YtbpedjefoajegaaDoorCoreF
import Derived.Test.YtbpedjefoajegaaDoorCoreV
namespace Go.Proofs.YtbpedjefoajegaaDoor.K
open Go Go.Proofs Go.RowKit
set_option linter.unusedVariables false
set_option linter.unusedSimpArgs false
set_option maxRecDepth 20000
set_option maxHeartbeats 4000000

theorem ScriptBack (cl : List GStep) (xs : List StepP) (a : Option Addr) (n c : Nat) (text : ByteArray) (hts : text.size ≤ 1048576) (w : World) (hls : LibS w) (hn : n = cl.length) (hb : cl.length ≤ 1048576) (hsl : SlR w a n (cl.flatMap GStep.cells)) (hst : StL w Tr cl xs) (hsm : ∀ x ∈ xs, smS x) (hT : ∀ x ∈ xs, (lineS x).size ≤ 34359738) :
    Calls Tryd.prog 3 #[.slice a n c, .string text] w (fun x w' => x = .returned (.bool true) ∧ Fram Non w w') := by
  have hxl := hst.1
  have h10 : (⟨#[10]⟩ : ByteArray).size = 1 := rfl
  refine calls_of Tryd.func3 rfl 142 rfl (by simp) ?_
  have hp0 := Hp.init w
  have he0 : List.map (env0 [.slice a n c, .string text]) [0, 1] = [.slice a n c, .string text] := by kernel_rfl
  obtain ⟨b0, he0⟩ := toMk he0
  rw [he0]
  clear he0
  refine WP.seq ?_
  refine WP.pure {} [] [0, 1] [.slice a n c, .string text] .nil (by kernel_rfl) (fun b1 => ?_)
  refine thn_n ?_
  refine WP.seq ?_
  refine WP.seq ?_
  refine WP.region _ rfl (by kernel_rfl) ?_
  refine OPS.cons (opStep.call (some 20) [] (by kernel_rfl) (sb_awake _ (hls.fram hp0.fr)) ?_)
  rintro _ w4 ⟨rfl, hf5⟩
  refine ⟨_, rfl, ?_⟩
  have hp6 := hp0.step hf5
  refine OPS.batch 1 {} [] [0, 1, 21] [.slice a n c, .string text, .bool false] .nil (by kernel_rfl) (fun b7 => ?_)
  refine OPS.nil ?_
  refine thn_n ?_
  refine WP.condF rfl ?_
  refine WP.skip ?_
  refine thn_n ?_
  refine WP.seq ?_
  refine WP.region _ rfl (by kernel_rfl) ?_
  refine OPS.batch 1 {} [] [0, 1, 23] [.slice a n c, .string text, .slice a n c] .nil (by kernel_rfl) (fun b8 => ?_)
  refine OPS.cons (opStep.call (some 24) [.slice a n c] (by kernel_rfl) (sc_Text cl xs a n c _ (hls.fram hp6.fr) hn (by omega) (SlR.fram hsl hp6.fr) (hst.fram hp6.fr) hsm (fun x hx => Nat.le_trans (hT x hx) (by decide))) ?_)
  rintro _ w11 ⟨t12, e13, rfl, hq14, hf15⟩
  have hq14g := hq14.good
  have hq14s := hq14.size hT (by decide)
  refine ⟨_, rfl, ?_⟩
  have hp16 := hp6.step hf15
  refine OPS.batch 5 {} [] [0, 1, 5, 6] [.slice a n c, .string text, .string t12, .int .i64 e13] .nil (by kernel_rfl) (fun b17 => ?_)
  refine OPS.nil ?_
  refine thn_n ?_
  refine WP.seq ?_
  refine WP.pure {} [] [0, 1, 5, 6, 7] [.slice a n c, .string text, .string t12, .int .i64 e13, .int .i64 0] .nil (by kernel_rfl) (fun b18 => ?_)
  refine thn_n ?_
  refine WP.seq ?_
  refine WP.seq ?_
  refine WP.pure {} [] [0, 1, 5, 6, 7, 8] [.slice a n c, .string text, .string t12, .int .i64 e13, .int .i64 0, .int .i64 0] .nil (by kernel_rfl) (fun b19 => ?_)
  refine thn_n ?_
  refine WP.block ?_
  refine WP.loop (fun mz_ e20 w21 => ∃ (k : Nat) (bd : Int), mz_ = n - k ∧ (k ≤ n ∧ BkI xs k bd) ∧ List.map e20 [0, 1, 5, 6, 7, 8] = [.slice a n c, .string text, .string t12, .int .i64 e13, .int .i64 bd, .int .i64 (k : Int)] ∧ Hp w Non [] w21) (n - (0)) ⟨0, 0, rfl, ⟨Nat.zero_le _, BkI.start xs⟩, by kernel_rfl, hp16⟩ ?_
  rintro _ e20 w21 ⟨k, bd, rfl, hI23, hE24, hp22⟩
  obtain ⟨b25, rfl⟩ := toMk hE24
  clear hE24
  obtain ⟨pa, ps⟩ := hI23
  refine WP.seq ?_
  refine WP.cut (fun e35 w36 => ∃ (x33 : Bool), (True) ∧ Bp x33 (((k : Int) < ((n : Nat) : Int)) ∧ (bd = 0)) ∧ List.map e35 [0, 1, 5, 6, 7, 8, 34] = [.slice a n c, .string text, .string t12, .int .i64 e13, .int .i64 bd, .int .i64 (k : Int), .bool x33] ∧ Hp w Non [] w36) ?_ ?_
  · refine WP.region _ rfl (by kernel_rfl) ?_
    refine OPS.batch 5 {} [] [0, 1, 5, 6, 7, 8, 31] [.slice a n c, .string text, .string t12, .int .i64 e13, .int .i64 bd, .int .i64 (k : Int), .bool (decide ((k : Int) < ((n : Nat) : Int)))] .nil (by kernel_rfl) (fun b27 => ?_)
    by_cases h28 : (k : Int) < ((n : Nat) : Int)
    · refine OPS.batch 0 {} [] [0, 1, 5, 6, 7, 8, 31] [.slice a n c, .string text, .string t12, .int .i64 e13, .int .i64 bd, .int .i64 (k : Int), .bool (decide ((k : Int) < ((n : Nat) : Int)))] .nil (by kernel_rfl) (fun b29 => ?_)
      refine OPS.re [.slice a n c, .string text, .string t12, .int .i64 e13, .int .i64 bd, .int .i64 (k : Int), .bool true] (by rw [show (decide ((k : Int) < ((n : Nat) : Int))) = true from Bp.dec.tt h28]) ?_
      refine OPS.batch 3 { wraps := [34] } [] [0, 1, 5, 6, 7, 8, 34] [.slice a n c, .string text, .string t12, .int .i64 e13, .int .i64 bd, .int .i64 (k : Int), .bool (decide (bd = 0))] .nil (by kernel_rfl) (fun b30 => ?_)
      refine OPS.nil ?_
      refine thn_n ?_
      exact ⟨decide (bd = 0), trivial, Bp.of Bp.dec (by first | (simp only [h28, iff_false, false_iff, iff_true, true_iff, Classical.not_not, and_true, true_and, and_false, false_and, or_true, true_or, or_false, false_or, not_true_eq_false, not_false_eq_true, and_self, or_self, iff_self]; done) | (simp [h28]; done) | grind | (simp_all; done)), by kernel_rfl, hp22⟩
    · refine OPS.batch 0 {} [] [0, 1, 5, 6, 7, 8, 31] [.slice a n c, .string text, .string t12, .int .i64 e13, .int .i64 bd, .int .i64 (k : Int), .bool (decide ((k : Int) < ((n : Nat) : Int)))] .nil (by kernel_rfl) (fun b31 => ?_)
      refine OPS.re [.slice a n c, .string text, .string t12, .int .i64 e13, .int .i64 bd, .int .i64 (k : Int), .bool false] (by rw [show (decide ((k : Int) < ((n : Nat) : Int))) = false from Bp.dec.ff h28]) ?_
      refine OPS.batch 3 { wraps := [34] } [] [0, 1, 5, 6, 7, 8, 34] [.slice a n c, .string text, .string t12, .int .i64 e13, .int .i64 bd, .int .i64 (k : Int), .bool false] .nil (by kernel_rfl) (fun b32 => ?_)
      refine OPS.nil ?_
      refine thn_n ?_
      exact ⟨false, trivial, Bp.of Bp.f (by first | (simp only [h28, iff_false, false_iff, iff_true, true_iff, Classical.not_not, and_true, true_and, and_false, false_and, or_true, true_or, or_false, false_or, not_true_eq_false, not_false_eq_true, and_self, or_self, iff_self]; done) | (simp [h28]; done) | grind | (simp_all; done)), by kernel_rfl, hp22⟩
  rintro e35 w36 ⟨x33, hd38, hb34, hE39, hp37⟩
  obtain ⟨b40, rfl⟩ := toMk hE39
  clear hE39
  clear hd38
  refine WP.test (p := ((k : Int) < ((n : Nat) : Int)) ∧ (bd = 0)) rfl hb34 (fun h41 => ?_) (fun h41 => ?_)
  · refine WP.skip ?_
    refine thn_n ?_
    refine WP.seq ?_
    refine WP.block ?_
    refine WP.region _ rfl (by kernel_rfl) ?_
    have hy45 : (cl)[k]? = some cl[k]! := get_bang (by first | (first | omega | (simp only [ByteArray.size_append]; omega)) | (simp only [List.length_append, List.length_cons, List.length_nil]; omega) | (simp only [List.length_take, List.length_append, List.length_cons, List.length_nil]; omega))
    refine OPS.batch 4 {} [GStep.val (cl[k]!)] [0, 1, 5, 6, 8, 40] [.slice a n c, .string text, .string t12, .int .i64 e13, .int .i64 (k : Int), GStep.val (cl[k]!)] (.cons (show InB ((k : Int)) (n) from ⟨by first | omega | (simp only [ByteArray.size_append]; omega), by first | omega | (simp only [ByteArray.size_append]; omega)⟩) (.cons ((hsl.at hp37).some (by first | omega | (simp only [ByteArray.size_append]; omega))) (.cons (Ld.add0 (Ld.elN (P := Tryd.prog) (t := 31) (hsl.at hp37).rd 6 (fun _ => rfl) hy45 (o := 0) (cs := [.int .i64 (cl[k]!.Kind), .int .i64 (cl[k]!.A), .int .i64 (cl[k]!.B), .string (cl[k]!.Key), .slice (cl[k]!.Value.a) (cl[k]!.Value.n) (cl[k]!.Value.c), .slice (cl[k]!.L.a) (cl[k]!.L.n) (cl[k]!.L.c)]) (by kernel_rfl))) .nil))) (by kernel_rfl) (fun b46 => ?_)
    refine OPS.cons (opStep.call (some 41) [GStep.val (cl[k]!)] (by kernel_rfl) (sc_Check cl[k]! xs[k]! _ (hls.fram hp37.fr) ((hst.2 k (by omega)).fram hp37.fr)) ?_)
    rintro _ w49 ⟨rfl, hf50⟩
    refine ⟨_, rfl, ?_⟩
    have hp51 := hp37.step hf50
    refine OPS.batch 1 {} [] [0, 1, 5, 6, 7, 8] [.slice a n c, .string text, .string t12, .int .i64 e13, .int .i64 (chkI xs[k]!), .int .i64 (k : Int)] .nil (by kernel_rfl) (fun b52 => ?_)
    refine OPS.nil ?_
    refine blk_n ?_
    refine thn_n ?_
    refine WP.pure {} [] [0, 1, 5, 6, 7, 8] [.slice a n c, .string text, .string t12, .int .i64 e13, .int .i64 (chkI xs[k]!), .int .i64 ((k : Int) + 1)] (.cons (show Rng .i64 ((k : Int) + 1) from Rng.i64 (by first | omega | (simp only [ByteArray.size_append]; omega))) .nil) (by kernel_rfl) (fun b53 => ?_)
    refine thn_n ?_
    exact ⟨n - (k + 1), (by omega), k + 1, chkI xs[k]!, rfl, ⟨by omega, ps.more (by omega) (by omega)⟩, by kernel_rfl, hp51⟩
  · refine WP.exit ?_
    refine thn_x ?_
    refine thn_x ?_
    refine blk_hit ?_
    refine thn_n ?_
    refine WP.seq ?_
    refine WP.seq ?_
    refine WP.pure {} [] [0, 1, 5, 6, 7, 44] [.slice a n c, .string text, .string t12, .int .i64 e13, .int .i64 bd, .bool (decide (4096 < ((n : Nat) : Int)))] .nil (by kernel_rfl) (fun b54 => ?_)
    refine thn_n ?_
    refine WP.test (p := 4096 < ((n : Nat) : Int)) rfl Bp.dec (fun h55 => ?_) (fun h55 => ?_)
    · refine WP.pure {} [] [0, 1, 5, 6, 7] [.slice a n c, .string text, .string t12, .int .i64 e13, .int .i64 2] .nil (by kernel_rfl) (fun b56 => ?_)
      refine thn_n ?_
      refine WP.seq ?_
      refine WP.cut (fun e66 w67 => ∃ (x64 : Bool), (True) ∧ Bp x64 ((¬ (e13 = 0)) ∧ (¬ (t12 = ⟨#[]⟩))) ∧ List.map e66 [0, 1, 5, 6, 55] = [.slice a n c, .string text, .string t12, .int .i64 e13, .bool x64] ∧ Hp w Non [] w67) ?_ ?_
      · have hE := ps.fin (by omega) hq14
        refine WP.region _ rfl (by kernel_rfl) ?_
        refine OPS.batch 7 { subs := [47] } [.bool false] [0, 1, 5, 6, 48, 51] [.slice a n c, .string text, .string t12, .int .i64 e13, .bool false, .bool (decide (¬ (e13 = 0)))] (.cons (show (.bool (decide (¬ (e13 = 2))) : Go.Value) = .bool false from congrArg Value.bool (decide_eq_false (fun q_ => q_ (by first | rfl | assumption | omega)))) .nil) (by kernel_rfl) (fun b58 => ?_)
        by_cases h59 : e13 = 0
        · refine OPS.batch 0 {} [] [0, 1, 5, 6, 48, 51] [.slice a n c, .string text, .string t12, .int .i64 e13, .bool false, .bool (decide (¬ (e13 = 0)))] .nil (by kernel_rfl) (fun b62 => ?_)
          refine OPS.re [.slice a n c, .string text, .string t12, .int .i64 e13, .bool false, .bool false] (by rw [show (decide (¬ (e13 = 0))) = false from Bp.dec.ff (fun k => k h59)]) ?_
          refine OPS.batch 4 { wraps := [54, 55] } [] [0, 1, 5, 6, 55] [.slice a n c, .string text, .string t12, .int .i64 e13, .bool false] .nil (by kernel_rfl) (fun b63 => ?_)
          refine OPS.nil ?_
          refine thn_n ?_
          exact ⟨false, trivial, Bp.of Bp.f (by first | (simp only [h59, iff_false, false_iff, iff_true, true_iff, Classical.not_not, and_true, true_and, and_false, false_and, or_true, true_or, or_false, false_or, not_true_eq_false, not_false_eq_true, and_self, or_self, iff_self]; done) | (simp [h59]; done) | grind | (simp_all; done)), by kernel_rfl, hp37⟩
        · refine OPS.batch 0 {} [] [0, 1, 5, 6, 48, 51] [.slice a n c, .string text, .string t12, .int .i64 e13, .bool false, .bool (decide (¬ (e13 = 0)))] .nil (by kernel_rfl) (fun b60 => ?_)
          refine OPS.re [.slice a n c, .string text, .string t12, .int .i64 e13, .bool false, .bool true] (by rw [show (decide (¬ (e13 = 0))) = true from Bp.dec.tt h59]) ?_
          refine OPS.batch 4 { wraps := [54, 55] } [] [0, 1, 5, 6, 55] [.slice a n c, .string text, .string t12, .int .i64 e13, .bool (decide (¬ (t12 = ⟨#[]⟩)))] .nil (by kernel_rfl) (fun b61 => ?_)
          refine OPS.nil ?_
          refine thn_n ?_
          exact ⟨decide (¬ (t12 = ⟨#[]⟩)), trivial, Bp.of Bp.dec (by first | (simp only [h59, iff_false, false_iff, iff_true, true_iff, Classical.not_not, and_true, true_and, and_false, false_and, or_true, true_or, or_false, false_or, not_true_eq_false, not_false_eq_true, and_self, or_self, iff_self]; done) | (simp [h59]; done) | grind | (simp_all; done)), by kernel_rfl, hp37⟩
      rintro e66 w67 ⟨x64, hd69, hb65, hE70, hp68⟩
      obtain ⟨b71, rfl⟩ := toMk hE70
      clear hE70
      clear hd69
      refine WP.test (p := (¬ (e13 = 0)) ∧ (¬ (t12 = ⟨#[]⟩))) rfl hb65 (fun h72 => ?_) (fun h72 => ?_)
      · refine WP.seq ?_
        refine WP.pure {} [] [4] [.bool false] .nil (by kernel_rfl) (fun b73 => ?_)
        refine thn_n ?_
        refine WP.ret ?_
        refine thn_r ?_
        refine bodyQ.of _ rfl [.bool false] ⟨rfl, trivial⟩ ?_
        exfalso
        have h_ := h72
        first | exact h_.2 (hq14g.2.2 h_.1) | omega | (simp at h_; done) | (simp_all; done)
      · refine WP.skip ?_
        refine thn_n ?_
        refine WP.cut (fun e129 w130 => ∃ (_ : Unit), (((e13 = 0) ∧ (0 < (t12.size : Int)) ∧ True) ∨ ((e13 = 0) ∧ (¬ (0 < (t12.size : Int))) ∧ True) ∨ ((¬ (e13 = 0)) ∧ True)) ∧ List.map e129 [1] = [.string text] ∧ Hp w Non [] w130) ?_ ?_
        · refine WP.seq ?_
          refine WP.pure {} [] [0, 1, 5, 57] [.slice a n c, .string text, .string t12, .bool (decide (e13 = 0))] .nil (by kernel_rfl) (fun b75 => ?_)
          refine thn_n ?_
          refine WP.test (p := e13 = 0) rfl Bp.dec (fun h76 => ?_) (fun h76 => ?_)
          · refine WP.seq ?_
            have he0 := h76
            have hgo := hq14g.1.1 he0
            have hlx1 : linesB t12 = xs.map lineS := by rw [hq14g.2.1 he0]; exact lines_textS hgo.2
            refine WP.region _ rfl (by kernel_rfl) ?_
            refine OPS.batch 1 {} [] [0, 1, 5, 59] [.slice a n c, .string text, .string t12, .string t12] .nil (by kernel_rfl) (fun b77 => ?_)
            refine OPS.cons (opStep.call (some 60) [.string t12] (by kernel_rfl) (sc_Parse t12 hq14s.1 hq14s.2 _ (hls.fram hp68.fr)) ?_)
            rintro _ w80 ⟨a82, n83, c84, cl85, F86, xs87, m88, e89, rfl, hq90, hp81⟩
            have hq90a := own_flat (f := GStep.cells) (sz := 6) (fun _ => rfl) (by decide) hp81.get0
            have hq90b := hp81.get1.1
            refine ⟨_, rfl, ?_⟩
            have hp91 := hp68.madeQ hp81
            simp only [List.cons_append, List.nil_append] at hp91
            obtain ⟨hz1_, hz2_, hz3_⟩ := hq90.of (ys := xs) hlx1 (fun y hy => ⟨hgo.2 y hy, (hsm y hy).1⟩) hgo.1
            subst hz1_ hz2_
            cases hz3_
            refine OPS.batch 7 {} [] [0, 1, 5, 9, 10, 11] [.slice a n c, .string text, .string t12, .slice a82 n83 c84, .int .i64 0, .int .i64 0] .nil (by kernel_rfl) (fun b94 => ?_)
            refine OPS.nil ?_
            refine thn_n ?_
            refine WP.seq ?_
            refine WP.seq ?_
            refine WP.region _ rfl (by kernel_rfl) ?_
            refine OPS.batch 9 { wraps := [69] } [] [0, 1, 5, 70, 71, 72] [.slice a n c, .string text, .string t12, .bool false, .slice a82 n83 c84, .slice a n c] .nil (by kernel_rfl) (fun b95 => ?_)
            refine OPS.want (by kernel_rfl) ?_
            refine OPS.cons (opStep.call (some 73) [.slice a82 n83 c84, .slice a n c] (by kernel_rfl) (sb_sames cl85 cl xs a82 a n83 n c84 c _ (own_flat (f := GStep.cells) (sz := 6) (fun _ => rfl) (by decide) hp91.get0).symm hn (by have h_ := (own_flat (f := GStep.cells) (sz := 6) (fun _ => rfl) (by decide) hp91.get0); omega) (SlR.own hp91.get0) (SlR.fram hsl hp91.fr) (hp91.get1).tr (hst.fram hp91.fr) (fun i hi => by have h_ := (mem_all hsm hi).2.2.2; omega)) ?_)
            rintro _ w98 ⟨rfl, hf99⟩
            refine ⟨_, rfl, ?_⟩
            have hp100 := hp91.step hf99
            refine OPS.batch 2 { wraps := [75] } [] [0, 1, 5, 75] [.slice a n c, .string text, .string t12, .bool false] .nil (by kernel_rfl) (fun b101 => ?_)
            refine OPS.nil ?_
            refine thn_n ?_
            refine WP.condF rfl ?_
            refine WP.skip ?_
            refine thn_n ?_
            refine WP.seq ?_
            refine WP.pure {} [] [0, 1, 5, 78] [.slice a n c, .string text, .string t12, .bool (decide (0 < (t12.size : Int)))] .nil (by kernel_rfl) (fun b102 => ?_)
            refine thn_n ?_
            refine WP.test (p := 0 < (t12.size : Int)) rfl Bp.dec (fun h103 => ?_) (fun h103 => ?_)
            · refine WP.seq ?_
              have hlx2 : linesB (t12.extract 0 ((((t12.size : Nat) : Int) - 1).toNat)) = xs.map lineS := by rw [show ((((t12.size : Nat) : Int) - 1).toNat) = t12.size - 1 from by omega, hq14g.2.1 he0]; exact lines_textS2 hgo.2
              refine WP.region _ rfl (by kernel_rfl) ?_
              refine OPS.batch 5 {} [] [0, 1, 84] [.slice a n c, .string text, .string (t12.extract 0 (((t12.size : Int) - 1 : Int).toNat))] (.cons (show Rng .i64 ((t12.size : Int) - 1) from Rng.i64 (by first | omega | (simp only [ByteArray.size_append]; omega))) (.cons (show (0 : Int) ≤ ((t12.size : Int) - 1) ∧ ((t12.size : Int) - 1) ≤ (t12.size : Int) from ⟨by first | omega | (simp only [ByteArray.size_append]; omega), by first | omega | (simp only [ByteArray.size_append]; omega)⟩) .nil)) (by kernel_rfl) (fun b104 => ?_)
              refine OPS.cons (opStep.call (some 85) [.string (t12.extract 0 (((t12.size : Int) - 1 : Int).toNat))] (by kernel_rfl) (sc_Parse (t12.extract 0 (((t12.size : Int) - 1 : Int).toNat)) (by rw [ByteArray.size_extract]; have h_ := hq14s.1; omega) (fun x hx => by rw [hlx2] at hx; obtain ⟨y, hy, rfl⟩ := List.mem_map.1 hx; exact Nat.le_trans (hT y hy) (by decide)) _ (hls.fram hp100.fr)) ?_)
              rintro _ w107 ⟨a109, n110, c111, cl112, F113, xs114, m115, e116, rfl, hq117, hp108⟩
              have hq117a := own_flat (f := GStep.cells) (sz := 6) (fun _ => rfl) (by decide) hp108.get0
              have hq117b := hp108.get1.1
              refine ⟨_, rfl, ?_⟩
              have hp118 := hp100.madeQ hp108
              simp only [List.cons_append, List.nil_append] at hp118
              obtain ⟨hz1_, hz2_, hz3_⟩ := hq117.of (ys := xs) hlx2 (fun y hy => ⟨hgo.2 y hy, (hsm y hy).1⟩) hgo.1
              subst hz1_ hz2_
              cases hz3_
              refine OPS.batch 7 {} [] [0, 1, 12, 14] [.slice a n c, .string text, .slice a109 n110 c111, .int .i64 0] .nil (by kernel_rfl) (fun b121 => ?_)
              refine OPS.nil ?_
              refine thn_n ?_
              refine WP.seq ?_
              refine WP.region _ rfl (by kernel_rfl) ?_
              refine OPS.batch 5 {} [] [1, 91, 92, 93] [.string text, .bool false, .slice a109 n110 c111, .slice a n c] .nil (by kernel_rfl) (fun b122 => ?_)
              refine OPS.want (by kernel_rfl) ?_
              refine OPS.cons (opStep.call (some 94) [.slice a109 n110 c111, .slice a n c] (by kernel_rfl) (sb_sames cl112 cl xs a109 a n110 n c111 c _ (own_flat (f := GStep.cells) (sz := 6) (fun _ => rfl) (by decide) hp118.get0).symm hn (by have h_ := (own_flat (f := GStep.cells) (sz := 6) (fun _ => rfl) (by decide) hp118.get0); omega) (SlR.own hp118.get0) (SlR.fram hsl hp118.fr) (hp118.get1).tr (hst.fram hp118.fr) (fun i hi => by have h_ := (mem_all hsm hi).2.2.2; omega)) ?_)
              rintro _ w125 ⟨rfl, hf126⟩
              refine ⟨_, rfl, ?_⟩
              have hp127 := hp118.step hf126
              refine OPS.batch 2 { wraps := [96] } [] [1, 96] [.string text, .bool false] .nil (by kernel_rfl) (fun b128 => ?_)
              refine OPS.nil ?_
              refine thn_n ?_
              refine WP.condF rfl ?_
              refine WP.skip ?_
              refine thn_n ?_
              exact ⟨(), Or.inl ⟨h76, h103, trivial⟩, by kernel_rfl, (hp127.sub (.cons _ (.cons _ (.cons _ (.cons _ (.slnil))))))⟩
            · refine WP.skip ?_
              refine thn_n ?_
              exact ⟨(), Or.inr (Or.inl ⟨h76, h103, trivial⟩), by kernel_rfl, (hp100.sub (.cons _ (.cons _ (.slnil))))⟩
          · refine WP.skip ?_
            refine thn_n ?_
            exact ⟨(), Or.inr (Or.inr (⟨h76, trivial⟩)), by kernel_rfl, hp68⟩
        rintro e129 w130 ⟨_, hd132, hE133, hp131⟩
        obtain ⟨b134, rfl⟩ := toMk hE133
        clear hE133
        refine WP.seq ?_
        refine WP.region _ rfl (by kernel_rfl) ?_
        refine OPS.batch 1 {} [] [1, 98] [.string text, .string text] .nil (by kernel_rfl) (fun b135 => ?_)
        refine OPS.cons (opStep.call (some 99) [.string text] (by kernel_rfl) (sc_Parse text (by omega) (fun x hx => Nat.le_trans (linesB_size hx) (by omega)) _ (hls.fram hp131.fr)) ?_)
        rintro _ w138 ⟨a140, n141, c142, cl143, F144, xs145, m146, e147, rfl, hq148, hp139⟩
        have hq148a := own_flat (f := GStep.cells) (sz := 6) (fun _ => rfl) (by decide) hp139.get0
        have hq148b := hp139.get1.1
        refine ⟨_, rfl, ?_⟩
        have hp149 := hp131.madeQ hp139
        simp only [List.cons_append, List.nil_append] at hp149
        refine OPS.batch 7 {} [] [1, 15, 16, 17] [.string text, .slice a140 n141 c142, .int .i64 m146, .int .i64 e147] .nil (by kernel_rfl) (fun b152 => ?_)
        refine OPS.nil ?_
        refine thn_n ?_
        refine WP.seq ?_
        refine WP.seq ?_
        refine WP.pure {} [] [1, 15, 16, 17, 104] [.string text, .slice a140 n141 c142, .int .i64 m146, .int .i64 e147, .bool (decide (¬ (e147 = 0)))] .nil (by kernel_rfl) (fun b153 => ?_)
        refine thn_n ?_
        refine WP.test (p := ¬ (e147 = 0)) rfl Bp.dec (fun h154 => ?_) (fun h154 => ?_)
        · refine WP.cut (fun e174 w175 => ∃ (x172 : Bool), (True) ∧ Bp x172 (((((n141 : Nat) : Int) = 0) ∧ (0 ≤ m146) ∧ (e147 = 2)) ∨ ((((n141 : Nat) : Int) = 0) ∧ (0 ≤ m146) ∧ (¬ (e147 = 2)) ∧ (e147 = 82))) ∧ List.map e174 [4] = [.bool x172] ∧ Hp w Non [Res.own 31 6 (.slice a140 n141 c142) n141 (List.flatMap GStep.cells cl143), Res.sv F144 cl143 xs145] w175) ?_ ?_
          · obtain ⟨hxs9, hcs⟩ := hq148.not h154
            have hxn9 := congrArg List.length hxs9
            simp only [List.length_nil] at hxn9
            have g3 : 0 ≤ m146 ∧ (e147 = 2 ∨ e147 = 82) := by rcases hcs with ⟨_, q1, q2⟩ | ⟨_, q1, q2, _⟩ <;> omega
            clear hcs
            refine WP.region _ rfl (by kernel_rfl) ?_
            refine OPS.batch 4 {} [] [16, 17, 108] [.int .i64 m146, .int .i64 e147, .bool (decide (((n141 : Nat) : Int) = 0))] .nil (by kernel_rfl) (fun b156 => ?_)
            by_cases h157 : ((n141 : Nat) : Int) = 0
            · refine OPS.batch 0 {} [] [16, 17, 108] [.int .i64 m146, .int .i64 e147, .bool (decide (((n141 : Nat) : Int) = 0))] .nil (by kernel_rfl) (fun b158 => ?_)
              refine OPS.re [.int .i64 m146, .int .i64 e147, .bool true] (by rw [show (decide (((n141 : Nat) : Int) = 0)) = true from Bp.dec.tt h157]) ?_
              refine OPS.batch 4 { wraps := [111] } [] [17, 112] [.int .i64 e147, .bool (decide (0 ≤ m146))] .nil (by kernel_rfl) (fun b159 => ?_)
              by_cases h160 : 0 ≤ m146
              · refine OPS.batch 0 {} [] [17, 112] [.int .i64 e147, .bool (decide (0 ≤ m146))] .nil (by kernel_rfl) (fun b161 => ?_)
                refine OPS.re [.int .i64 e147, .bool true] (by rw [show (decide (0 ≤ m146)) = true from Bp.dec.tt h160]) ?_
                refine OPS.batch 3 {} [] [17, 112, 115] [.int .i64 e147, .bool true, .bool (decide (e147 = 2))] .nil (by kernel_rfl) (fun b162 => ?_)
                by_cases h163 : e147 = 2
                · refine OPS.batch 0 {} [] [17, 112, 115] [.int .i64 e147, .bool true, .bool (decide (e147 = 2))] .nil (by kernel_rfl) (fun b164 => ?_)
                  refine OPS.re [.int .i64 e147, .bool true, .bool true] (by rw [show (decide (e147 = 2)) = true from Bp.dec.tt h163]) ?_
                  refine OPS.batch 5 { wraps := [118, 119] } [] [4] [.bool true] .nil (by kernel_rfl) (fun b165 => ?_)
                  refine OPS.nil ?_
                  refine thn_n ?_
                  exact ⟨true, trivial, Bp.of Bp.t (by first | (simp only [h157, h160, h163, iff_false, false_iff, iff_true, true_iff, Classical.not_not, and_true, true_and, and_false, false_and, or_true, true_or, or_false, false_or, not_true_eq_false, not_false_eq_true, and_self, or_self, iff_self]; done) | (simp [h157, h160, h163]; done) | grind | (simp_all; done)), by kernel_rfl, hp149⟩
                · refine OPS.batch 0 {} [] [17, 112, 115] [.int .i64 e147, .bool true, .bool (decide (e147 = 2))] .nil (by kernel_rfl) (fun b166 => ?_)
                  refine OPS.re [.int .i64 e147, .bool true, .bool false] (by rw [show (decide (e147 = 2)) = false from Bp.dec.ff h163]) ?_
                  refine OPS.batch 5 { wraps := [118, 119] } [] [4] [.bool (decide (e147 = 82))] .nil (by kernel_rfl) (fun b167 => ?_)
                  refine OPS.nil ?_
                  refine thn_n ?_
                  exact ⟨decide (e147 = 82), trivial, Bp.of Bp.dec (by first | (simp only [h157, h160, h163, iff_false, false_iff, iff_true, true_iff, Classical.not_not, and_true, true_and, and_false, false_and, or_true, true_or, or_false, false_or, not_true_eq_false, not_false_eq_true, and_self, or_self, iff_self]; done) | (simp [h157, h160, h163]; done) | grind | (simp_all; done)), by kernel_rfl, hp149⟩
              · refine OPS.batch 0 {} [] [17, 112] [.int .i64 e147, .bool (decide (0 ≤ m146))] .nil (by kernel_rfl) (fun b168 => ?_)
                refine OPS.re [.int .i64 e147, .bool false] (by rw [show (decide (0 ≤ m146)) = false from Bp.dec.ff h160]) ?_
                refine OPS.batch 8 { wraps := [119] } [] [4] [.bool false] .nil (by kernel_rfl) (fun b169 => ?_)
                refine OPS.nil ?_
                refine thn_n ?_
                exact ⟨false, trivial, Bp.of Bp.f (by first | (simp only [h157, h160, iff_false, false_iff, iff_true, true_iff, Classical.not_not, and_true, true_and, and_false, false_and, or_true, true_or, or_false, false_or, not_true_eq_false, not_false_eq_true, and_self, or_self, iff_self]; done) | (simp [h157, h160]; done) | grind | (simp_all; done)), by kernel_rfl, hp149⟩
            · refine OPS.batch 0 {} [] [16, 17, 108] [.int .i64 m146, .int .i64 e147, .bool (decide (((n141 : Nat) : Int) = 0))] .nil (by kernel_rfl) (fun b170 => ?_)
              refine OPS.re [.int .i64 m146, .int .i64 e147, .bool false] (by rw [show (decide (((n141 : Nat) : Int) = 0)) = false from Bp.dec.ff h157]) ?_
              refine OPS.batch 12 { wraps := [111, 119] } [] [4] [.bool false] .nil (by kernel_rfl) (fun b171 => ?_)
              refine OPS.nil ?_
              refine thn_n ?_
              exact ⟨false, trivial, Bp.of Bp.f (by first | (simp only [h157, iff_false, false_iff, iff_true, true_iff, Classical.not_not, and_true, true_and, and_false, false_and, or_true, true_or, or_false, false_or, not_true_eq_false, not_false_eq_true, and_self, or_self, iff_self]; done) | (simp [h157]; done) | grind | (simp_all; done)), by kernel_rfl, hp149⟩
          rintro e174 w175 ⟨x172, hd177, hb173, hE178, hp176⟩
          obtain ⟨b179, rfl⟩ := toMk hE178
          clear hE178
          clear hd177
          refine WP.ret ?_
          refine thn_r ?_
          refine bodyQ.of _ rfl [.bool x172] ⟨rfl, trivial⟩ ?_
          obtain ⟨hxs9, hcs⟩ := hq148.not h154
          have hxn9 := congrArg List.length hxs9
          simp only [List.length_nil] at hxn9
          have g3 : 0 ≤ m146 ∧ (e147 = 2 ∨ e147 = 82) := by rcases hcs with ⟨_, q1, q2⟩ | ⟨_, q1, q2, _⟩ <;> omega
          clear hcs hxs9
          exact ⟨congrArg (fun b => Ending.returned (.bool b)) (Bp.tt hb173 (by first | omega | (simp; done) | exact hte2 | exact ⟨⟨rfl, rfl⟩, hte2⟩ | (simp_all; done))), hp176.fr⟩
        · replace h154 := Classical.not_not.1 h154
          refine WP.skip ?_
          refine thn_n ?_
          refine WP.seq ?_
          have hgot := hq148.zero h154
          have hm0 := hgot.1
          have hte := text_of_lines hgot.2.2.1
          have hte2 : textS xs145 = text ∨ ¬ (textS xs145 = text) ∧ textS xs145 = text ++ (⟨#[10]⟩ : ByteArray) := hte.elim .inl fun q => (Classical.em _).elim .inl fun z => .inr ⟨z, q⟩
          refine WP.region _ rfl (by kernel_rfl) ?_
          refine OPS.batch 1 {} [] [1, 16, 121] [.string text, .int .i64 m146, .slice a140 n141 c142] .nil (by kernel_rfl) (fun b180 => ?_)
          refine OPS.cons (opStep.call (some 122) [.slice a140 n141 c142] (by kernel_rfl) (sc_Text cl143 xs145 a140 n141 c142 _ (hls.fram hp149.fr) (own_flat (f := GStep.cells) (sz := 6) (fun _ => rfl) (by decide) hp149.get0).symm (by have h_ := (own_flat (f := GStep.cells) (sz := 6) (fun _ => rfl) (by decide) hp149.get0); omega) (SlR.own hp149.get0) (hp149.get1).tr (got_sm hgot hts) (fun x hx => Nat.le_trans (got_T hgot hts x hx) (by decide))) ?_)
          rintro _ w183 ⟨t184, e185, rfl, hq186, hf187⟩
          obtain rfl : e185 = 0 := hq186.good.1.2 ⟨hgot.2.1, fun x hx => (hgot.2.2.2 x hx).1⟩
          obtain rfl : t184 = textS xs145 := hq186.good.2.1 rfl
          refine ⟨_, rfl, ?_⟩
          have hp188 := hp149.step hf187
          refine OPS.batch 5 {} [] [1, 16, 18, 19] [.string text, .int .i64 m146, .string (textS xs145), .int .i64 0] .nil (by kernel_rfl) (fun b189 => ?_)
          refine OPS.nil ?_
          refine thn_n ?_
          refine WP.cut (fun e204 w205 => ∃ (x202 : Bool), (True) ∧ Bp x202 (((m146 = 0) ∧ ((textS xs145) = text)) ∨ ((m146 = 0) ∧ (¬ ((textS xs145) = text)) ∧ ((textS xs145) = (text ++ (⟨#[10]⟩ : ByteArray))))) ∧ List.map e204 [4] = [.bool x202] ∧ Hp w Non [Res.own 31 6 (.slice a140 n141 c142) n141 (List.flatMap GStep.cells cl143), Res.sv F144 cl143 xs145] w205) ?_ ?_
          · refine WP.region _ rfl (by kernel_rfl) ?_
            refine OPS.batch 7 { wraps := [130] } [] [1, 18, 131] [.string text, .string (textS xs145), .bool (decide (m146 = 0))] .nil (by kernel_rfl) (fun b191 => ?_)
            by_cases h192 : m146 = 0
            · refine OPS.batch 0 {} [] [1, 18, 131] [.string text, .string (textS xs145), .bool (decide (m146 = 0))] .nil (by kernel_rfl) (fun b193 => ?_)
              refine OPS.re [.string text, .string (textS xs145), .bool true] (by rw [show (decide (m146 = 0)) = true from Bp.dec.tt h192]) ?_
              refine OPS.batch 4 {} [] [1, 18, 131, 135] [.string text, .string (textS xs145), .bool true, .bool (decide ((textS xs145) = text))] .nil (by kernel_rfl) (fun b194 => ?_)
              by_cases h195 : (textS xs145) = text
              · refine OPS.batch 0 {} [] [1, 18, 131, 135] [.string text, .string (textS xs145), .bool true, .bool (decide ((textS xs145) = text))] .nil (by kernel_rfl) (fun b196 => ?_)
                refine OPS.re [.string text, .string (textS xs145), .bool true, .bool true] (by rw [show (decide ((textS xs145) = text)) = true from Bp.dec.tt h195]) ?_
                refine OPS.batch 7 { wraps := [140, 141] } [] [4] [.bool true] .nil (by kernel_rfl) (fun b197 => ?_)
                refine OPS.nil ?_
                refine thn_n ?_
                exact ⟨true, trivial, Bp.of Bp.t (by first | (simp only [h192, h195, iff_false, false_iff, iff_true, true_iff, Classical.not_not, and_true, true_and, and_false, false_and, or_true, true_or, or_false, false_or, not_true_eq_false, not_false_eq_true, and_self, or_self, iff_self]; done) | (simp [h192, h195]; done) | grind | (simp_all; done)), by kernel_rfl, hp188⟩
              · refine OPS.batch 0 {} [] [1, 18, 131, 135] [.string text, .string (textS xs145), .bool true, .bool (decide ((textS xs145) = text))] .nil (by kernel_rfl) (fun b198 => ?_)
                refine OPS.re [.string text, .string (textS xs145), .bool true, .bool false] (by rw [show (decide ((textS xs145) = text)) = false from Bp.dec.ff h195]) ?_
                refine OPS.batch 7 { wraps := [140, 141] } [] [4] [.bool (decide ((textS xs145) = (text ++ (⟨#[10]⟩ : ByteArray))))] (.cons (show text.size + (⟨#[10]⟩ : ByteArray).size ≤ 9223372036854775807 from by first | omega | (simp only [ByteArray.size_append]; omega)) .nil) (by kernel_rfl) (fun b199 => ?_)
                refine OPS.nil ?_
                refine thn_n ?_
                exact ⟨decide ((textS xs145) = (text ++ (⟨#[10]⟩ : ByteArray))), trivial, Bp.of Bp.dec (by first | (simp only [h192, h195, iff_false, false_iff, iff_true, true_iff, Classical.not_not, and_true, true_and, and_false, false_and, or_true, true_or, or_false, false_or, not_true_eq_false, not_false_eq_true, and_self, or_self, iff_self]; done) | (simp [h192, h195]; done) | grind | (simp_all; done)), by kernel_rfl, hp188⟩
            · refine OPS.batch 0 {} [] [1, 18, 131] [.string text, .string (textS xs145), .bool (decide (m146 = 0))] .nil (by kernel_rfl) (fun b200 => ?_)
              refine OPS.re [.string text, .string (textS xs145), .bool false] (by rw [show (decide (m146 = 0)) = false from Bp.dec.ff h192]) ?_
              refine OPS.batch 11 { wraps := [141] } [] [4] [.bool false] .nil (by kernel_rfl) (fun b201 => ?_)
              refine OPS.nil ?_
              refine thn_n ?_
              exact ⟨false, trivial, Bp.of Bp.f (by first | (simp only [h192, iff_false, false_iff, iff_true, true_iff, Classical.not_not, and_true, true_and, and_false, false_and, or_true, true_or, or_false, false_or, not_true_eq_false, not_false_eq_true, and_self, or_self, iff_self]; done) | (simp [h192]; done) | grind | (simp_all; done)), by kernel_rfl, hp188⟩
          rintro e204 w205 ⟨x202, hd207, hb203, hE208, hp206⟩
          obtain ⟨b209, rfl⟩ := toMk hE208
          clear hE208
          clear hd207
          refine WP.ret ?_
          refine bodyQ.of _ rfl [.bool x202] ⟨rfl, trivial⟩ ?_
          exact ⟨congrArg (fun b => Ending.returned (.bool b)) (Bp.tt hb203 (by first | omega | (simp; done) | exact hte2 | exact ⟨⟨rfl, rfl⟩, hte2⟩ | (simp_all; done))), hp206.fr⟩
    · refine WP.skip ?_
      refine thn_n ?_
      refine WP.seq ?_
      refine WP.cut (fun e219 w220 => ∃ (x217 : Bool), (True) ∧ Bp x217 ((¬ (e13 = 0)) ∧ (¬ (t12 = ⟨#[]⟩))) ∧ List.map e219 [0, 1, 5, 6, 55] = [.slice a n c, .string text, .string t12, .int .i64 e13, .bool x217] ∧ Hp w Non [] w220) ?_ ?_
      · have hE := ps.fin (by omega) hq14
        refine WP.region _ rfl (by kernel_rfl) ?_
        refine OPS.batch 7 { subs := [47] } [.bool false] [0, 1, 5, 6, 48, 51] [.slice a n c, .string text, .string t12, .int .i64 e13, .bool false, .bool (decide (¬ (e13 = 0)))] (.cons (show (.bool (decide (¬ (e13 = bd))) : Go.Value) = .bool false from congrArg Value.bool (decide_eq_false (fun q_ => q_ (by first | rfl | assumption | omega)))) .nil) (by kernel_rfl) (fun b211 => ?_)
        by_cases h212 : e13 = 0
        · refine OPS.batch 0 {} [] [0, 1, 5, 6, 48, 51] [.slice a n c, .string text, .string t12, .int .i64 e13, .bool false, .bool (decide (¬ (e13 = 0)))] .nil (by kernel_rfl) (fun b215 => ?_)
          refine OPS.re [.slice a n c, .string text, .string t12, .int .i64 e13, .bool false, .bool false] (by rw [show (decide (¬ (e13 = 0))) = false from Bp.dec.ff (fun k => k h212)]) ?_
          refine OPS.batch 4 { wraps := [54, 55] } [] [0, 1, 5, 6, 55] [.slice a n c, .string text, .string t12, .int .i64 e13, .bool false] .nil (by kernel_rfl) (fun b216 => ?_)
          refine OPS.nil ?_
          refine thn_n ?_
          exact ⟨false, trivial, Bp.of Bp.f (by first | (simp only [h212, iff_false, false_iff, iff_true, true_iff, Classical.not_not, and_true, true_and, and_false, false_and, or_true, true_or, or_false, false_or, not_true_eq_false, not_false_eq_true, and_self, or_self, iff_self]; done) | (simp [h212]; done) | grind | (simp_all; done)), by kernel_rfl, hp37⟩
        · refine OPS.batch 0 {} [] [0, 1, 5, 6, 48, 51] [.slice a n c, .string text, .string t12, .int .i64 e13, .bool false, .bool (decide (¬ (e13 = 0)))] .nil (by kernel_rfl) (fun b213 => ?_)
          refine OPS.re [.slice a n c, .string text, .string t12, .int .i64 e13, .bool false, .bool true] (by rw [show (decide (¬ (e13 = 0))) = true from Bp.dec.tt h212]) ?_
          refine OPS.batch 4 { wraps := [54, 55] } [] [0, 1, 5, 6, 55] [.slice a n c, .string text, .string t12, .int .i64 e13, .bool (decide (¬ (t12 = ⟨#[]⟩)))] .nil (by kernel_rfl) (fun b214 => ?_)
          refine OPS.nil ?_
          refine thn_n ?_
          exact ⟨decide (¬ (t12 = ⟨#[]⟩)), trivial, Bp.of Bp.dec (by first | (simp only [h212, iff_false, false_iff, iff_true, true_iff, Classical.not_not, and_true, true_and, and_false, false_and, or_true, true_or, or_false, false_or, not_true_eq_false, not_false_eq_true, and_self, or_self, iff_self]; done) | (simp [h212]; done) | grind | (simp_all; done)), by kernel_rfl, hp37⟩
      rintro e219 w220 ⟨x217, hd222, hb218, hE223, hp221⟩
      obtain ⟨b224, rfl⟩ := toMk hE223
      clear hE223
      clear hd222
      refine WP.test (p := (¬ (e13 = 0)) ∧ (¬ (t12 = ⟨#[]⟩))) rfl hb218 (fun h225 => ?_) (fun h225 => ?_)
      · refine WP.seq ?_
        refine WP.pure {} [] [4] [.bool false] .nil (by kernel_rfl) (fun b226 => ?_)
        refine thn_n ?_
        refine WP.ret ?_
        refine thn_r ?_
        refine bodyQ.of _ rfl [.bool false] ⟨rfl, trivial⟩ ?_
        exfalso
        have h_ := h225
        first | exact h_.2 (hq14g.2.2 h_.1) | omega | (simp at h_; done) | (simp_all; done)
      · refine WP.skip ?_
        refine thn_n ?_
        refine WP.cut (fun e282 w283 => ∃ (_ : Unit), (((e13 = 0) ∧ (0 < (t12.size : Int)) ∧ True) ∨ ((e13 = 0) ∧ (¬ (0 < (t12.size : Int))) ∧ True) ∨ ((¬ (e13 = 0)) ∧ True)) ∧ List.map e282 [1] = [.string text] ∧ Hp w Non [] w283) ?_ ?_
        · refine WP.seq ?_
          refine WP.pure {} [] [0, 1, 5, 57] [.slice a n c, .string text, .string t12, .bool (decide (e13 = 0))] .nil (by kernel_rfl) (fun b228 => ?_)
          refine thn_n ?_
          refine WP.test (p := e13 = 0) rfl Bp.dec (fun h229 => ?_) (fun h229 => ?_)
          · refine WP.seq ?_
            have he0 := h229
            have hgo := hq14g.1.1 he0
            have hlx1 : linesB t12 = xs.map lineS := by rw [hq14g.2.1 he0]; exact lines_textS hgo.2
            refine WP.region _ rfl (by kernel_rfl) ?_
            refine OPS.batch 1 {} [] [0, 1, 5, 59] [.slice a n c, .string text, .string t12, .string t12] .nil (by kernel_rfl) (fun b230 => ?_)
            refine OPS.cons (opStep.call (some 60) [.string t12] (by kernel_rfl) (sc_Parse t12 hq14s.1 hq14s.2 _ (hls.fram hp221.fr)) ?_)
            rintro _ w233 ⟨a235, n236, c237, cl238, F239, xs240, m241, e242, rfl, hq243, hp234⟩
            have hq243a := own_flat (f := GStep.cells) (sz := 6) (fun _ => rfl) (by decide) hp234.get0
            have hq243b := hp234.get1.1
            refine ⟨_, rfl, ?_⟩
            have hp244 := hp221.madeQ hp234
            simp only [List.cons_append, List.nil_append] at hp244
            obtain ⟨hz1_, hz2_, hz3_⟩ := hq243.of (ys := xs) hlx1 (fun y hy => ⟨hgo.2 y hy, (hsm y hy).1⟩) hgo.1
            subst hz1_ hz2_
            cases hz3_
            refine OPS.batch 7 {} [] [0, 1, 5, 9, 10, 11] [.slice a n c, .string text, .string t12, .slice a235 n236 c237, .int .i64 0, .int .i64 0] .nil (by kernel_rfl) (fun b247 => ?_)
            refine OPS.nil ?_
            refine thn_n ?_
            refine WP.seq ?_
            refine WP.seq ?_
            refine WP.region _ rfl (by kernel_rfl) ?_
            refine OPS.batch 9 { wraps := [69] } [] [0, 1, 5, 70, 71, 72] [.slice a n c, .string text, .string t12, .bool false, .slice a235 n236 c237, .slice a n c] .nil (by kernel_rfl) (fun b248 => ?_)
            refine OPS.want (by kernel_rfl) ?_
            refine OPS.cons (opStep.call (some 73) [.slice a235 n236 c237, .slice a n c] (by kernel_rfl) (sb_sames cl238 cl xs a235 a n236 n c237 c _ (own_flat (f := GStep.cells) (sz := 6) (fun _ => rfl) (by decide) hp244.get0).symm hn (by have h_ := (own_flat (f := GStep.cells) (sz := 6) (fun _ => rfl) (by decide) hp244.get0); omega) (SlR.own hp244.get0) (SlR.fram hsl hp244.fr) (hp244.get1).tr (hst.fram hp244.fr) (fun i hi => by have h_ := (mem_all hsm hi).2.2.2; omega)) ?_)
            rintro _ w251 ⟨rfl, hf252⟩
            refine ⟨_, rfl, ?_⟩
            have hp253 := hp244.step hf252
            refine OPS.batch 2 { wraps := [75] } [] [0, 1, 5, 75] [.slice a n c, .string text, .string t12, .bool false] .nil (by kernel_rfl) (fun b254 => ?_)
            refine OPS.nil ?_
            refine thn_n ?_
            refine WP.condF rfl ?_
            refine WP.skip ?_
            refine thn_n ?_
            refine WP.seq ?_
            refine WP.pure {} [] [0, 1, 5, 78] [.slice a n c, .string text, .string t12, .bool (decide (0 < (t12.size : Int)))] .nil (by kernel_rfl) (fun b255 => ?_)
            refine thn_n ?_
            refine WP.test (p := 0 < (t12.size : Int)) rfl Bp.dec (fun h256 => ?_) (fun h256 => ?_)
            · refine WP.seq ?_
              have hlx2 : linesB (t12.extract 0 ((((t12.size : Nat) : Int) - 1).toNat)) = xs.map lineS := by rw [show ((((t12.size : Nat) : Int) - 1).toNat) = t12.size - 1 from by omega, hq14g.2.1 he0]; exact lines_textS2 hgo.2
              refine WP.region _ rfl (by kernel_rfl) ?_
              refine OPS.batch 5 {} [] [0, 1, 84] [.slice a n c, .string text, .string (t12.extract 0 (((t12.size : Int) - 1 : Int).toNat))] (.cons (show Rng .i64 ((t12.size : Int) - 1) from Rng.i64 (by first | omega | (simp only [ByteArray.size_append]; omega))) (.cons (show (0 : Int) ≤ ((t12.size : Int) - 1) ∧ ((t12.size : Int) - 1) ≤ (t12.size : Int) from ⟨by first | omega | (simp only [ByteArray.size_append]; omega), by first | omega | (simp only [ByteArray.size_append]; omega)⟩) .nil)) (by kernel_rfl) (fun b257 => ?_)
              refine OPS.cons (opStep.call (some 85) [.string (t12.extract 0 (((t12.size : Int) - 1 : Int).toNat))] (by kernel_rfl) (sc_Parse (t12.extract 0 (((t12.size : Int) - 1 : Int).toNat)) (by rw [ByteArray.size_extract]; have h_ := hq14s.1; omega) (fun x hx => by rw [hlx2] at hx; obtain ⟨y, hy, rfl⟩ := List.mem_map.1 hx; exact Nat.le_trans (hT y hy) (by decide)) _ (hls.fram hp253.fr)) ?_)
              rintro _ w260 ⟨a262, n263, c264, cl265, F266, xs267, m268, e269, rfl, hq270, hp261⟩
              have hq270a := own_flat (f := GStep.cells) (sz := 6) (fun _ => rfl) (by decide) hp261.get0
              have hq270b := hp261.get1.1
              refine ⟨_, rfl, ?_⟩
              have hp271 := hp253.madeQ hp261
              simp only [List.cons_append, List.nil_append] at hp271
              obtain ⟨hz1_, hz2_, hz3_⟩ := hq270.of (ys := xs) hlx2 (fun y hy => ⟨hgo.2 y hy, (hsm y hy).1⟩) hgo.1
              subst hz1_ hz2_
              cases hz3_
              refine OPS.batch 7 {} [] [0, 1, 12, 14] [.slice a n c, .string text, .slice a262 n263 c264, .int .i64 0] .nil (by kernel_rfl) (fun b274 => ?_)
              refine OPS.nil ?_
              refine thn_n ?_
              refine WP.seq ?_
              refine WP.region _ rfl (by kernel_rfl) ?_
              refine OPS.batch 5 {} [] [1, 91, 92, 93] [.string text, .bool false, .slice a262 n263 c264, .slice a n c] .nil (by kernel_rfl) (fun b275 => ?_)
              refine OPS.want (by kernel_rfl) ?_
              refine OPS.cons (opStep.call (some 94) [.slice a262 n263 c264, .slice a n c] (by kernel_rfl) (sb_sames cl265 cl xs a262 a n263 n c264 c _ (own_flat (f := GStep.cells) (sz := 6) (fun _ => rfl) (by decide) hp271.get0).symm hn (by have h_ := (own_flat (f := GStep.cells) (sz := 6) (fun _ => rfl) (by decide) hp271.get0); omega) (SlR.own hp271.get0) (SlR.fram hsl hp271.fr) (hp271.get1).tr (hst.fram hp271.fr) (fun i hi => by have h_ := (mem_all hsm hi).2.2.2; omega)) ?_)
              rintro _ w278 ⟨rfl, hf279⟩
              refine ⟨_, rfl, ?_⟩
              have hp280 := hp271.step hf279
              refine OPS.batch 2 { wraps := [96] } [] [1, 96] [.string text, .bool false] .nil (by kernel_rfl) (fun b281 => ?_)
              refine OPS.nil ?_
              refine thn_n ?_
              refine WP.condF rfl ?_
              refine WP.skip ?_
              refine thn_n ?_
              exact ⟨(), Or.inl ⟨h229, h256, trivial⟩, by kernel_rfl, (hp280.sub (.cons _ (.cons _ (.cons _ (.cons _ (.slnil))))))⟩
            · refine WP.skip ?_
              refine thn_n ?_
              exact ⟨(), Or.inr (Or.inl ⟨h229, h256, trivial⟩), by kernel_rfl, (hp253.sub (.cons _ (.cons _ (.slnil))))⟩
          · refine WP.skip ?_
            refine thn_n ?_
            exact ⟨(), Or.inr (Or.inr (⟨h229, trivial⟩)), by kernel_rfl, hp221⟩
        rintro e282 w283 ⟨_, hd285, hE286, hp284⟩
        obtain ⟨b287, rfl⟩ := toMk hE286
        clear hE286
        refine WP.seq ?_
        refine WP.region _ rfl (by kernel_rfl) ?_
        refine OPS.batch 1 {} [] [1, 98] [.string text, .string text] .nil (by kernel_rfl) (fun b288 => ?_)
        refine OPS.cons (opStep.call (some 99) [.string text] (by kernel_rfl) (sc_Parse text (by omega) (fun x hx => Nat.le_trans (linesB_size hx) (by omega)) _ (hls.fram hp284.fr)) ?_)
        rintro _ w291 ⟨a293, n294, c295, cl296, F297, xs298, m299, e300, rfl, hq301, hp292⟩
        have hq301a := own_flat (f := GStep.cells) (sz := 6) (fun _ => rfl) (by decide) hp292.get0
        have hq301b := hp292.get1.1
        refine ⟨_, rfl, ?_⟩
        have hp302 := hp284.madeQ hp292
        simp only [List.cons_append, List.nil_append] at hp302
        refine OPS.batch 7 {} [] [1, 15, 16, 17] [.string text, .slice a293 n294 c295, .int .i64 m299, .int .i64 e300] .nil (by kernel_rfl) (fun b305 => ?_)
        refine OPS.nil ?_
        refine thn_n ?_
        refine WP.seq ?_
        refine WP.seq ?_
        refine WP.pure {} [] [1, 15, 16, 17, 104] [.string text, .slice a293 n294 c295, .int .i64 m299, .int .i64 e300, .bool (decide (¬ (e300 = 0)))] .nil (by kernel_rfl) (fun b306 => ?_)
        refine thn_n ?_
        refine WP.test (p := ¬ (e300 = 0)) rfl Bp.dec (fun h307 => ?_) (fun h307 => ?_)
        · refine WP.cut (fun e327 w328 => ∃ (x325 : Bool), (True) ∧ Bp x325 (((((n294 : Nat) : Int) = 0) ∧ (0 ≤ m299) ∧ (e300 = 2)) ∨ ((((n294 : Nat) : Int) = 0) ∧ (0 ≤ m299) ∧ (¬ (e300 = 2)) ∧ (e300 = 82))) ∧ List.map e327 [4] = [.bool x325] ∧ Hp w Non [Res.own 31 6 (.slice a293 n294 c295) n294 (List.flatMap GStep.cells cl296), Res.sv F297 cl296 xs298] w328) ?_ ?_
          · obtain ⟨hxs9, hcs⟩ := hq301.not h307
            have hxn9 := congrArg List.length hxs9
            simp only [List.length_nil] at hxn9
            have g3 : 0 ≤ m299 ∧ (e300 = 2 ∨ e300 = 82) := by rcases hcs with ⟨_, q1, q2⟩ | ⟨_, q1, q2, _⟩ <;> omega
            clear hcs
            refine WP.region _ rfl (by kernel_rfl) ?_
            refine OPS.batch 4 {} [] [16, 17, 108] [.int .i64 m299, .int .i64 e300, .bool (decide (((n294 : Nat) : Int) = 0))] .nil (by kernel_rfl) (fun b309 => ?_)
            by_cases h310 : ((n294 : Nat) : Int) = 0
            · refine OPS.batch 0 {} [] [16, 17, 108] [.int .i64 m299, .int .i64 e300, .bool (decide (((n294 : Nat) : Int) = 0))] .nil (by kernel_rfl) (fun b311 => ?_)
              refine OPS.re [.int .i64 m299, .int .i64 e300, .bool true] (by rw [show (decide (((n294 : Nat) : Int) = 0)) = true from Bp.dec.tt h310]) ?_
              refine OPS.batch 4 { wraps := [111] } [] [17, 112] [.int .i64 e300, .bool (decide (0 ≤ m299))] .nil (by kernel_rfl) (fun b312 => ?_)
              by_cases h313 : 0 ≤ m299
              · refine OPS.batch 0 {} [] [17, 112] [.int .i64 e300, .bool (decide (0 ≤ m299))] .nil (by kernel_rfl) (fun b314 => ?_)
                refine OPS.re [.int .i64 e300, .bool true] (by rw [show (decide (0 ≤ m299)) = true from Bp.dec.tt h313]) ?_
                refine OPS.batch 3 {} [] [17, 112, 115] [.int .i64 e300, .bool true, .bool (decide (e300 = 2))] .nil (by kernel_rfl) (fun b315 => ?_)
                by_cases h316 : e300 = 2
                · refine OPS.batch 0 {} [] [17, 112, 115] [.int .i64 e300, .bool true, .bool (decide (e300 = 2))] .nil (by kernel_rfl) (fun b317 => ?_)
                  refine OPS.re [.int .i64 e300, .bool true, .bool true] (by rw [show (decide (e300 = 2)) = true from Bp.dec.tt h316]) ?_
                  refine OPS.batch 5 { wraps := [118, 119] } [] [4] [.bool true] .nil (by kernel_rfl) (fun b318 => ?_)
                  refine OPS.nil ?_
                  refine thn_n ?_
                  exact ⟨true, trivial, Bp.of Bp.t (by first | (simp only [h310, h313, h316, iff_false, false_iff, iff_true, true_iff, Classical.not_not, and_true, true_and, and_false, false_and, or_true, true_or, or_false, false_or, not_true_eq_false, not_false_eq_true, and_self, or_self, iff_self]; done) | (simp [h310, h313, h316]; done) | grind | (simp_all; done)), by kernel_rfl, hp302⟩
                · refine OPS.batch 0 {} [] [17, 112, 115] [.int .i64 e300, .bool true, .bool (decide (e300 = 2))] .nil (by kernel_rfl) (fun b319 => ?_)
                  refine OPS.re [.int .i64 e300, .bool true, .bool false] (by rw [show (decide (e300 = 2)) = false from Bp.dec.ff h316]) ?_
                  refine OPS.batch 5 { wraps := [118, 119] } [] [4] [.bool (decide (e300 = 82))] .nil (by kernel_rfl) (fun b320 => ?_)
                  refine OPS.nil ?_
                  refine thn_n ?_
                  exact ⟨decide (e300 = 82), trivial, Bp.of Bp.dec (by first | (simp only [h310, h313, h316, iff_false, false_iff, iff_true, true_iff, Classical.not_not, and_true, true_and, and_false, false_and, or_true, true_or, or_false, false_or, not_true_eq_false, not_false_eq_true, and_self, or_self, iff_self]; done) | (simp [h310, h313, h316]; done) | grind | (simp_all; done)), by kernel_rfl, hp302⟩
              · refine OPS.batch 0 {} [] [17, 112] [.int .i64 e300, .bool (decide (0 ≤ m299))] .nil (by kernel_rfl) (fun b321 => ?_)
                refine OPS.re [.int .i64 e300, .bool false] (by rw [show (decide (0 ≤ m299)) = false from Bp.dec.ff h313]) ?_
                refine OPS.batch 8 { wraps := [119] } [] [4] [.bool false] .nil (by kernel_rfl) (fun b322 => ?_)
                refine OPS.nil ?_
                refine thn_n ?_
                exact ⟨false, trivial, Bp.of Bp.f (by first | (simp only [h310, h313, iff_false, false_iff, iff_true, true_iff, Classical.not_not, and_true, true_and, and_false, false_and, or_true, true_or, or_false, false_or, not_true_eq_false, not_false_eq_true, and_self, or_self, iff_self]; done) | (simp [h310, h313]; done) | grind | (simp_all; done)), by kernel_rfl, hp302⟩
            · refine OPS.batch 0 {} [] [16, 17, 108] [.int .i64 m299, .int .i64 e300, .bool (decide (((n294 : Nat) : Int) = 0))] .nil (by kernel_rfl) (fun b323 => ?_)
              refine OPS.re [.int .i64 m299, .int .i64 e300, .bool false] (by rw [show (decide (((n294 : Nat) : Int) = 0)) = false from Bp.dec.ff h310]) ?_
              refine OPS.batch 12 { wraps := [111, 119] } [] [4] [.bool false] .nil (by kernel_rfl) (fun b324 => ?_)
              refine OPS.nil ?_
              refine thn_n ?_
              exact ⟨false, trivial, Bp.of Bp.f (by first | (simp only [h310, iff_false, false_iff, iff_true, true_iff, Classical.not_not, and_true, true_and, and_false, false_and, or_true, true_or, or_false, false_or, not_true_eq_false, not_false_eq_true, and_self, or_self, iff_self]; done) | (simp [h310]; done) | grind | (simp_all; done)), by kernel_rfl, hp302⟩
          rintro e327 w328 ⟨x325, hd330, hb326, hE331, hp329⟩
          obtain ⟨b332, rfl⟩ := toMk hE331
          clear hE331
          clear hd330
          refine WP.ret ?_
          refine thn_r ?_
          refine bodyQ.of _ rfl [.bool x325] ⟨rfl, trivial⟩ ?_
          obtain ⟨hxs9, hcs⟩ := hq301.not h307
          have hxn9 := congrArg List.length hxs9
          simp only [List.length_nil] at hxn9
          have g3 : 0 ≤ m299 ∧ (e300 = 2 ∨ e300 = 82) := by rcases hcs with ⟨_, q1, q2⟩ | ⟨_, q1, q2, _⟩ <;> omega
          clear hcs hxs9
          exact ⟨congrArg (fun b => Ending.returned (.bool b)) (Bp.tt hb326 (by first | omega | (simp; done) | exact hte2 | exact ⟨⟨rfl, rfl⟩, hte2⟩ | (simp_all; done))), hp329.fr⟩
        · replace h307 := Classical.not_not.1 h307
          refine WP.skip ?_
          refine thn_n ?_
          refine WP.seq ?_
          have hgot := hq301.zero h307
          have hm0 := hgot.1
          have hte := text_of_lines hgot.2.2.1
          have hte2 : textS xs298 = text ∨ ¬ (textS xs298 = text) ∧ textS xs298 = text ++ (⟨#[10]⟩ : ByteArray) := hte.elim .inl fun q => (Classical.em _).elim .inl fun z => .inr ⟨z, q⟩
          refine WP.region _ rfl (by kernel_rfl) ?_
          refine OPS.batch 1 {} [] [1, 16, 121] [.string text, .int .i64 m299, .slice a293 n294 c295] .nil (by kernel_rfl) (fun b333 => ?_)
          refine OPS.cons (opStep.call (some 122) [.slice a293 n294 c295] (by kernel_rfl) (sc_Text cl296 xs298 a293 n294 c295 _ (hls.fram hp302.fr) (own_flat (f := GStep.cells) (sz := 6) (fun _ => rfl) (by decide) hp302.get0).symm (by have h_ := (own_flat (f := GStep.cells) (sz := 6) (fun _ => rfl) (by decide) hp302.get0); omega) (SlR.own hp302.get0) (hp302.get1).tr (got_sm hgot hts) (fun x hx => Nat.le_trans (got_T hgot hts x hx) (by decide))) ?_)
          rintro _ w336 ⟨t337, e338, rfl, hq339, hf340⟩
          obtain rfl : e338 = 0 := hq339.good.1.2 ⟨hgot.2.1, fun x hx => (hgot.2.2.2 x hx).1⟩
          obtain rfl : t337 = textS xs298 := hq339.good.2.1 rfl
          refine ⟨_, rfl, ?_⟩
          have hp341 := hp302.step hf340
          refine OPS.batch 5 {} [] [1, 16, 18, 19] [.string text, .int .i64 m299, .string (textS xs298), .int .i64 0] .nil (by kernel_rfl) (fun b342 => ?_)
          refine OPS.nil ?_
          refine thn_n ?_
          refine WP.cut (fun e357 w358 => ∃ (x355 : Bool), (True) ∧ Bp x355 (((m299 = 0) ∧ ((textS xs298) = text)) ∨ ((m299 = 0) ∧ (¬ ((textS xs298) = text)) ∧ ((textS xs298) = (text ++ (⟨#[10]⟩ : ByteArray))))) ∧ List.map e357 [4] = [.bool x355] ∧ Hp w Non [Res.own 31 6 (.slice a293 n294 c295) n294 (List.flatMap GStep.cells cl296), Res.sv F297 cl296 xs298] w358) ?_ ?_
          · refine WP.region _ rfl (by kernel_rfl) ?_
            refine OPS.batch 7 { wraps := [130] } [] [1, 18, 131] [.string text, .string (textS xs298), .bool (decide (m299 = 0))] .nil (by kernel_rfl) (fun b344 => ?_)
            by_cases h345 : m299 = 0
            · refine OPS.batch 0 {} [] [1, 18, 131] [.string text, .string (textS xs298), .bool (decide (m299 = 0))] .nil (by kernel_rfl) (fun b346 => ?_)
              refine OPS.re [.string text, .string (textS xs298), .bool true] (by rw [show (decide (m299 = 0)) = true from Bp.dec.tt h345]) ?_
              refine OPS.batch 4 {} [] [1, 18, 131, 135] [.string text, .string (textS xs298), .bool true, .bool (decide ((textS xs298) = text))] .nil (by kernel_rfl) (fun b347 => ?_)
              by_cases h348 : (textS xs298) = text
              · refine OPS.batch 0 {} [] [1, 18, 131, 135] [.string text, .string (textS xs298), .bool true, .bool (decide ((textS xs298) = text))] .nil (by kernel_rfl) (fun b349 => ?_)
                refine OPS.re [.string text, .string (textS xs298), .bool true, .bool true] (by rw [show (decide ((textS xs298) = text)) = true from Bp.dec.tt h348]) ?_
                refine OPS.batch 7 { wraps := [140, 141] } [] [4] [.bool true] .nil (by kernel_rfl) (fun b350 => ?_)
                refine OPS.nil ?_
                refine thn_n ?_
                exact ⟨true, trivial, Bp.of Bp.t (by first | (simp only [h345, h348, iff_false, false_iff, iff_true, true_iff, Classical.not_not, and_true, true_and, and_false, false_and, or_true, true_or, or_false, false_or, not_true_eq_false, not_false_eq_true, and_self, or_self, iff_self]; done) | (simp [h345, h348]; done) | grind | (simp_all; done)), by kernel_rfl, hp341⟩
              · refine OPS.batch 0 {} [] [1, 18, 131, 135] [.string text, .string (textS xs298), .bool true, .bool (decide ((textS xs298) = text))] .nil (by kernel_rfl) (fun b351 => ?_)
                refine OPS.re [.string text, .string (textS xs298), .bool true, .bool false] (by rw [show (decide ((textS xs298) = text)) = false from Bp.dec.ff h348]) ?_
                refine OPS.batch 7 { wraps := [140, 141] } [] [4] [.bool (decide ((textS xs298) = (text ++ (⟨#[10]⟩ : ByteArray))))] (.cons (show text.size + (⟨#[10]⟩ : ByteArray).size ≤ 9223372036854775807 from by first | omega | (simp only [ByteArray.size_append]; omega)) .nil) (by kernel_rfl) (fun b352 => ?_)
                refine OPS.nil ?_
                refine thn_n ?_
                exact ⟨decide ((textS xs298) = (text ++ (⟨#[10]⟩ : ByteArray))), trivial, Bp.of Bp.dec (by first | (simp only [h345, h348, iff_false, false_iff, iff_true, true_iff, Classical.not_not, and_true, true_and, and_false, false_and, or_true, true_or, or_false, false_or, not_true_eq_false, not_false_eq_true, and_self, or_self, iff_self]; done) | (simp [h345, h348]; done) | grind | (simp_all; done)), by kernel_rfl, hp341⟩
            · refine OPS.batch 0 {} [] [1, 18, 131] [.string text, .string (textS xs298), .bool (decide (m299 = 0))] .nil (by kernel_rfl) (fun b353 => ?_)
              refine OPS.re [.string text, .string (textS xs298), .bool false] (by rw [show (decide (m299 = 0)) = false from Bp.dec.ff h345]) ?_
              refine OPS.batch 11 { wraps := [141] } [] [4] [.bool false] .nil (by kernel_rfl) (fun b354 => ?_)
              refine OPS.nil ?_
              refine thn_n ?_
              exact ⟨false, trivial, Bp.of Bp.f (by first | (simp only [h345, iff_false, false_iff, iff_true, true_iff, Classical.not_not, and_true, true_and, and_false, false_and, or_true, true_or, or_false, false_or, not_true_eq_false, not_false_eq_true, and_self, or_self, iff_self]; done) | (simp [h345]; done) | grind | (simp_all; done)), by kernel_rfl, hp341⟩
          rintro e357 w358 ⟨x355, hd360, hb356, hE361, hp359⟩
          obtain ⟨b362, rfl⟩ := toMk hE361
          clear hE361
          clear hd360
          refine WP.ret ?_
          refine bodyQ.of _ rfl [.bool x355] ⟨rfl, trivial⟩ ?_
          exact ⟨congrArg (fun b => Ending.returned (.bool b)) (Bp.tt hb356 (by first | omega | (simp; done) | exact hte2 | exact ⟨⟨rfl, rfl⟩, hte2⟩ | (simp_all; done))), hp359.fr⟩

end Go.Proofs.YtbpedjefoajegaaDoor.K
