/- The walks of ScrG: what each function computes. -/
import Derived.Test.YtbpedjefoajegaaDoorProg
import Derived.Test.YtbpedjefoajegaaDoorCoreO
import Derived.Test.YtbpedjefoajegaaDoorCoreW
import Derived.Test.YtbpedjefoajegaaDoorScrF
namespace Go.Proofs.YtbpedjefoajegaaDoor.K
open Go Go.Proofs Go.RowKit
set_option linter.unusedVariables false
set_option linter.unusedSimpArgs false
set_option maxRecDepth 20000
set_option maxHeartbeats 4000000

theorem step_fin {line : ByteArray} {x : StepP} {bad : Bool} {P : Prop} {k : Int} (hk : kOf ((wordsB line).headD ByteArray.empty) = k) (hi : inS x) (hr : ∀ y, okS y → inS y → y.Kind = k → lineS y = line → bad = false ∧ x = y) (hP : P ↔ bad = false ∧ chkI x = 0 ∧ lineV x = line) : (P → okS x ∧ inS x ∧ lineS x = line) ∧ (¬ P → ¬ isL line) := by
  refine ⟨fun p => ?_, fun p => ?_⟩
  · obtain ⟨_, h2, h3⟩ := hP.1 p
    have ok := chk_ok h2
    exact ⟨ok, hi, (lineV_ok ok).symm.trans h3⟩
  · rintro ⟨y, ok, iy, he⟩
    have hky := line_kind ok
    rw [he, hk] at hky
    obtain ⟨h1, rfl⟩ := hr y ok iy hky.symm he
    exact p (hP.2 ⟨h1, chk_0 ok, (lineV_ok ok).trans he⟩)
theorem in0 : inI 0 := ⟨by decide, by decide⟩
theorem tails_le (l : List ByteArray) : l.tail.length ≤ l.length := by rw [List.length_tail]; omega
theorem head_line {line : ByteArray} (h : ∀ x ∈ wordsB line, x.size ≤ line.size) : ((wordsB line).headD ByteArray.empty).size ≤ line.size := head_size h
theorem Bp.tr {b : Bool} {P : Prop} (h : Bp b P) (e : b = true) : P := by subst e; exact (show _ ↔ _ from h).1 rfl
theorem Bp.fa {b : Bool} {P : Prop} (h : Bp b P) (e : b = false) : ¬ P := fun p => by subst e; exact absurd ((show _ ↔ _ from h).2 p) (by decide)
theorem sc_step (line : ByteArray) (hs : line.size ≤ 4294967280) (w : World) (hls : LibS w) :
    Calls Tryd.prog 25 #[.string line] w (fun r_ w' => ∃ s x ok F, r_ = .returned (.tuple #[GStep.val s, .bool ok]) ∧ ((ok = true → okS x ∧ inS x ∧ lineS x = line) ∧ (ok = false → ¬ isL line)) ∧ Hp w Non [Res.sv F [s] [x]] w') := by
  have hl := hls.lib
  have hsl : ∀ x ∈ wordsB line, x.size ≤ line.size := fun x hx => words_size _ _ _ hx
  have hsz : ∀ x ∈ wordsB line, x.size ≤ 281474976710656 := fun x hx => Nat.le_trans (hsl x hx) (by omega)
  have hsy : ∀ x ∈ wordsB line, x.size ≤ 1099511627776 := fun x hx => Nat.le_trans (hsl x hx) (by omega)
  have hline : line.size ≤ 1099511627776 := by omega
  refine calls_of Tryd.func25 rfl 82 rfl (by simp) ?_
  have hp0 := Hp.init w
  have he0 : List.map (env0 [.string line]) [0] = [.string line] := by kernel_rfl
  obtain ⟨b0, he0⟩ := toMk he0
  rw [he0]
  clear he0
  refine WP.seq ?_
  refine WP.region _ rfl (by kernel_rfl) ?_
  refine OPS.cons (opStep.alloc hp0 [.int .i64 0, .int .i64 0, .int .i64 0, .string ByteArray.empty, .slice none 0 0, .slice none 0 0] (by kernel_rfl) (fun g3 w1 hp2 => ?_))
  refine OPS.batch 1 {} [] [0, 2] [.string line, .pointer (some ⟨g3, 0, none⟩)] .nil (by kernel_rfl) (fun b4 => ?_)
  refine OPS.nil ?_
  refine thn_n ?_
  refine WP.seq ?_
  refine WP.region _ rfl (by kernel_rfl) ?_
  refine OPS.batch 1 {} [] [0, 2, 11] [.string line, .pointer (some ⟨g3, 0, none⟩), .string line] .nil (by kernel_rfl) (fun b5 => ?_)
  refine OPS.cons (opStep.call (some 12) [.string line, .string ⟨#[32]⟩] (by kernel_rfl) (split_c line (by omega) (hl.fram hp2.fr) hp2) ?_)
  rintro _ w8 ⟨g10, n11, rfl, hp9⟩
  have hwl := lst_len (Hp.get0 hp9)
  refine ⟨_, rfl, ?_⟩
  refine OPS.batch 1 {} [] [0, 2, 13] [.string line, .pointer (some ⟨g3, 0, none⟩), .agg #[.slice (some ⟨g10, 0, none⟩) n11 n11, .bool false]] .nil (by kernel_rfl) (fun b12 => ?_)
  refine OPS.cons (opStep.box hp9 [.slice (some ⟨g10, 0, none⟩) n11 n11, .bool false] (by kernel_rfl) (fun g15 w13 hp14 => ?_))
  refine OPS.batch 1 {} [] [0, 2, 4] [.string line, .pointer (some ⟨g3, 0, none⟩), .pointer (some ⟨g15, 0, none⟩)] .nil (by kernel_rfl) (fun b16 => ?_)
  refine OPS.nil ?_
  refine thn_n ?_
  refine WP.seq ?_
  refine WP.region _ rfl (by kernel_rfl) ?_
  refine OPS.batch 1 {} [] [0, 2, 4, 15] [.string line, .pointer (some ⟨g3, 0, none⟩), .pointer (some ⟨g15, 0, none⟩), .pointer (some ⟨g15, 0, none⟩)] .nil (by kernel_rfl) (fun b17 => ?_)
  have hp20 := hp14.pull1
  have hp21 := hp20.pull1
  refine OPS.cons (opStep.call (some 16) [.pointer (some ⟨g15, 0, none⟩)] (by kernel_rfl) (w_next _ _ g15 g10 (⟨some ⟨g10, 0, none⟩, n11, n11⟩ : SlH) (wordsB line) false _ hp21) ?_)
  rintro _ w22 ⟨h24, rfl, hp23⟩
  refine ⟨_, rfl, ?_⟩
  refine OPS.cons (opStep.alloc hp23 [.string ByteArray.empty] (by kernel_rfl) (fun g27 w25 hp26 => ?_))
  refine OPS.cons (opStep.store0 hp26 rfl [.string ((wordsB line).headD ByteArray.empty)] [.string ((wordsB line).headD ByteArray.empty)] (by kernel_rfl) (fun w28 hp29 => ?_))
  refine OPS.nil ?_
  refine thn_n ?_
  refine WP.seq ?_
  refine WP.region _ rfl (by kernel_rfl) ?_
  refine OPS.cons (opStep.sliceArr (a := ⟨0, 0, none⟩) (n := 17) (sz := 7) (by kernel_rfl) (by kernel_rfl) ?_)
  refine OPS.batch 1 {} [] [0, 2, 4, 17, 18] [.string line, .pointer (some ⟨g3, 0, none⟩), .pointer (some ⟨g15, 0, none⟩), .slice (some ⟨0, 0, none⟩) 17 17, .func (.func 47) #[] #[.pointer (some ⟨g27, 0, none⟩)]] .nil (by kernel_rfl) (fun b32 => ?_)
  refine OPS.cons (opStep.call (some 19) [.slice (some ⟨0, 0, none⟩) 17 17, .func (.func 47) #[] #[.pointer (some ⟨g27, 0, none⟩)]] (by kernel_rfl) (sc_index ((wordsB line).headD ByteArray.empty) g27 _ (hls.fram hp29.fr) hp29.get0) ?_)
  rintro _ w35 ⟨rfl, hf36⟩
  refine ⟨_, rfl, ?_⟩
  have hp37 := hp29.step hf36
  have hkr := kOf_rng ((wordsB line).headD ByteArray.empty)
  have hkc : kOf ((wordsB line).headD ByteArray.empty) = -1 ∨ kOf ((wordsB line).headD ByteArray.empty) = 0 ∨ kOf ((wordsB line).headD ByteArray.empty) = 1 ∨ kOf ((wordsB line).headD ByteArray.empty) = 2 ∨ kOf ((wordsB line).headD ByteArray.empty) = 9 ∨ kOf ((wordsB line).headD ByteArray.empty) = 10 ∨ kOf ((wordsB line).headD ByteArray.empty) = 12 ∨ kOf ((wordsB line).headD ByteArray.empty) = 14 ∨ kOf ((wordsB line).headD ByteArray.empty) = 16 ∨ (∃ k, PA k ∧ kOf ((wordsB line).headD ByteArray.empty) = k) := by unfold PA; by_cases hq_ : kOf ((wordsB line).headD ByteArray.empty) = -1 ∨ kOf ((wordsB line).headD ByteArray.empty) = 0 ∨ kOf ((wordsB line).headD ByteArray.empty) = 1 ∨ kOf ((wordsB line).headD ByteArray.empty) = 2 ∨ kOf ((wordsB line).headD ByteArray.empty) = 9 ∨ kOf ((wordsB line).headD ByteArray.empty) = 10 ∨ kOf ((wordsB line).headD ByteArray.empty) = 12 ∨ kOf ((wordsB line).headD ByteArray.empty) = 14 ∨ kOf ((wordsB line).headD ByteArray.empty) = 16; omega; exact .inr (.inr (.inr (.inr (.inr (.inr (.inr (.inr (.inr ⟨_, by omega, rfl⟩))))))))
  rcases hkc with hk38 | hk38 | hk38 | hk38 | hk38 | hk38 | hk38 | hk38 | hk38 | ⟨k, hpa, hk38⟩
  · rw [hk38]
    refine OPS.batch 1 {} [] [0, 2, 4, 6] [.string line, .pointer (some ⟨g3, 0, none⟩), .pointer (some ⟨g15, 0, none⟩), .int .i64 (-1)] .nil (by kernel_rfl) (fun b39 => ?_)
    refine OPS.nil ?_
    refine thn_n ?_
    refine WP.seq ?_
    refine WP.seq ?_
    refine WP.pure {} [] [0, 2, 4, 6, 21] [.string line, .pointer (some ⟨g3, 0, none⟩), .pointer (some ⟨g15, 0, none⟩), .int .i64 (-1), .bool true] .nil (by kernel_rfl) (fun b40 => ?_)
    refine thn_n ?_
    refine WP.condT rfl ?_
    refine WP.seq ?_
    refine WP.region _ rfl (by kernel_rfl) ?_
    refine OPS.batch 1 {} [] [2, 22] [.pointer (some ⟨g3, 0, none⟩), .agg #[.int .i64 0, .int .i64 0, .int .i64 0, .string ByteArray.empty, .slice none 0 0, .slice none 0 0]] .nil (by kernel_rfl) (fun b41 => ?_)
    refine OPS.cons (opStep.store3 hp37 rfl [.int .i64 0, .int .i64 0, .int .i64 0, .string ByteArray.empty, .slice none 0 0, .slice none 0 0] [.int .i64 0, .int .i64 0, .int .i64 0, .string ByteArray.empty, .slice none 0 0, .slice none 0 0] (by kernel_rfl) (fun w42 hp43 => ?_))
    refine OPS.batch 1 {} [] [2, 3] [.pointer (some ⟨g3, 0, none⟩), .bool false] .nil (by kernel_rfl) (fun b44 => ?_)
    refine OPS.nil ?_
    refine thn_n ?_
    refine WP.ret ?_
    refine thn_r ?_
    refine bodyQ.of _ rfl [.agg #[.int .i64 0, .int .i64 0, .int .i64 0, .string ByteArray.empty, .slice none 0 0, .slice none 0 0], .bool false] ⟨⟨_, rfl, (show Ld Tryd.prog w42 31 ⟨g3, 0, none⟩ (.agg #[.int .i64 0, .int .i64 0, .int .i64 0, .string ByteArray.empty, .slice none 0 0, .slice none 0 0]) from Ld.rowN (cs := [.int .i64 0, .int .i64 0, .int .i64 0, .string ByteArray.empty, .slice none 0 0, .slice none 0 0]) hp43.get3 (by kernel_rfl))⟩, rfl, trivial⟩ ?_
    exact ⟨⟨0, 0, 0, ⟨#[]⟩, ⟨none, 0, 0⟩, ⟨none, 0, 0⟩⟩, ⟨0, 0, 0, ⟨#[]⟩, ⟨#[]⟩, []⟩, false, _, rfl, ⟨fun h => (by cases h), fun _ => not_line (by rw [hk38]; decide)⟩, Hp.svMake0 (E := 3) _ _ rfl rfl rfl rfl rfl rfl (hp43.nil.nilOwn 3 1)⟩
  · rw [hk38]
    refine OPS.batch 1 {} [] [0, 2, 4, 6] [.string line, .pointer (some ⟨g3, 0, none⟩), .pointer (some ⟨g15, 0, none⟩), .int .i64 0] .nil (by kernel_rfl) (fun b45 => ?_)
    refine OPS.nil ?_
    refine thn_n ?_
    refine WP.seq ?_
    refine WP.seq ?_
    refine WP.pure {} [] [0, 2, 4, 6, 21] [.string line, .pointer (some ⟨g3, 0, none⟩), .pointer (some ⟨g15, 0, none⟩), .int .i64 0, .bool true] .nil (by kernel_rfl) (fun b46 => ?_)
    refine thn_n ?_
    refine WP.condT rfl ?_
    refine WP.seq ?_
    refine WP.region _ rfl (by kernel_rfl) ?_
    refine OPS.batch 1 {} [] [2, 22] [.pointer (some ⟨g3, 0, none⟩), .agg #[.int .i64 0, .int .i64 0, .int .i64 0, .string ByteArray.empty, .slice none 0 0, .slice none 0 0]] .nil (by kernel_rfl) (fun b47 => ?_)
    refine OPS.cons (opStep.store3 hp37 rfl [.int .i64 0, .int .i64 0, .int .i64 0, .string ByteArray.empty, .slice none 0 0, .slice none 0 0] [.int .i64 0, .int .i64 0, .int .i64 0, .string ByteArray.empty, .slice none 0 0, .slice none 0 0] (by kernel_rfl) (fun w48 hp49 => ?_))
    refine OPS.batch 1 {} [] [2, 3] [.pointer (some ⟨g3, 0, none⟩), .bool false] .nil (by kernel_rfl) (fun b50 => ?_)
    refine OPS.nil ?_
    refine thn_n ?_
    refine WP.ret ?_
    refine thn_r ?_
    refine bodyQ.of _ rfl [.agg #[.int .i64 0, .int .i64 0, .int .i64 0, .string ByteArray.empty, .slice none 0 0, .slice none 0 0], .bool false] ⟨⟨_, rfl, (show Ld Tryd.prog w48 31 ⟨g3, 0, none⟩ (.agg #[.int .i64 0, .int .i64 0, .int .i64 0, .string ByteArray.empty, .slice none 0 0, .slice none 0 0]) from Ld.rowN (cs := [.int .i64 0, .int .i64 0, .int .i64 0, .string ByteArray.empty, .slice none 0 0, .slice none 0 0]) hp49.get3 (by kernel_rfl))⟩, rfl, trivial⟩ ?_
    exact ⟨⟨0, 0, 0, ⟨#[]⟩, ⟨none, 0, 0⟩, ⟨none, 0, 0⟩⟩, ⟨0, 0, 0, ⟨#[]⟩, ⟨#[]⟩, []⟩, false, _, rfl, ⟨fun h => (by cases h), fun _ => not_line (by rw [hk38]; decide)⟩, Hp.svMake0 (E := 3) _ _ rfl rfl rfl rfl rfl rfl (hp49.nil.nilOwn 3 1)⟩
  · rw [hk38]
    refine OPS.batch 1 {} [] [0, 2, 4, 6] [.string line, .pointer (some ⟨g3, 0, none⟩), .pointer (some ⟨g15, 0, none⟩), .int .i64 1] .nil (by kernel_rfl) (fun b51 => ?_)
    refine OPS.nil ?_
    refine thn_n ?_
    refine WP.seq ?_
    refine WP.seq ?_
    refine WP.pure {} [] [0, 2, 4, 6, 21] [.string line, .pointer (some ⟨g3, 0, none⟩), .pointer (some ⟨g15, 0, none⟩), .int .i64 1, .bool false] .nil (by kernel_rfl) (fun b52 => ?_)
    refine thn_n ?_
    refine WP.condF rfl ?_
    refine WP.skip ?_
    refine thn_n ?_
    refine WP.seq ?_
    refine WP.region _ rfl (by kernel_rfl) ?_
    refine OPS.batch 3 {} [.agg #[.string ⟨#[112, 117, 116]⟩, .bool true, .bool false, .bool true, .bool true, .bool false, .bool false]] [0, 2, 4, 6, 25] [.string line, .pointer (some ⟨g3, 0, none⟩), .pointer (some ⟨g15, 0, none⟩), .int .i64 1, .agg #[.string ⟨#[112, 117, 116]⟩, .bool true, .bool false, .bool true, .bool true, .bool false, .bool false]] (.cons (show InB (1) (17) from ⟨by omega, by omega⟩) (.cons (show Ld Tryd.prog w35 56 ⟨0, 7, none⟩ (.agg #[.string ⟨#[112, 117, 116]⟩, .bool true, .bool false, .bool true, .bool true, .bool false, .bool false]) from Ld.rowN (cs := [.string ⟨#[112, 117, 116]⟩, .bool true, .bool false, .bool true, .bool true, .bool false, .bool false]) (row_at hls.tab hp37.fr) (by kernel_rfl)) .nil)) (by kernel_rfl) (fun b53 => ?_)
    refine OPS.cons (opStep.alloc hp37 [.string ByteArray.empty, .bool false, .bool false, .bool false, .bool false, .bool false, .bool false] (by kernel_rfl) (fun g56 w54 hp55 => ?_))
    refine OPS.cons (opStep.store0 hp55 rfl [.string ⟨#[112, 117, 116]⟩, .bool true, .bool false, .bool true, .bool true, .bool false, .bool false] [.string ⟨#[112, 117, 116]⟩, .bool true, .bool false, .bool true, .bool true, .bool false, .bool false] (by kernel_rfl) (fun w57 hp58 => ?_))
    refine OPS.nil ?_
    refine thn_n ?_
    refine WP.seq ?_
    refine WP.region _ rfl (by kernel_rfl) ?_
    refine OPS.batch 2 {} [] [0, 2, 4, 7, 27] [.string line, .pointer (some ⟨g3, 0, none⟩), .pointer (some ⟨g15, 0, none⟩), .pointer (some ⟨g56, 0, none⟩), .agg #[.int .i64 1, .int .i64 0, .int .i64 0, .string ByteArray.empty, .slice none 0 0, .slice none 0 0]] .nil (by kernel_rfl) (fun b59 => ?_)
    refine OPS.cons (opStep.alloc hp58 [.int .i64 0, .int .i64 0, .int .i64 0, .string ByteArray.empty, .slice none 0 0, .slice none 0 0] (by kernel_rfl) (fun g62 w60 hp61 => ?_))
    refine OPS.cons (opStep.store0 hp61 rfl [.int .i64 1, .int .i64 0, .int .i64 0, .string ByteArray.empty, .slice none 0 0, .slice none 0 0] [.int .i64 1, .int .i64 0, .int .i64 0, .string ByteArray.empty, .slice none 0 0, .slice none 0 0] (by kernel_rfl) (fun w63 hp64 => ?_))
    refine OPS.nil ?_
    refine thn_n ?_
    refine WP.seq ?_
    refine WP.seq ?_
    refine WP.pure {} [.bool true] [0, 2, 4, 7, 8, 29] [.string line, .pointer (some ⟨g3, 0, none⟩), .pointer (some ⟨g15, 0, none⟩), .pointer (some ⟨g56, 0, none⟩), .pointer (some ⟨g62, 0, none⟩), .bool true] (.cons (Ld.row1 (P := Tryd.prog) (t := 4) (o := 1) (v := .bool true) hp64.get1 (by kernel_rfl)) .nil) (by kernel_rfl) (fun b65 => ?_)
    refine thn_n ?_
    refine WP.condT rfl ?_
    refine WP.region _ rfl (by kernel_rfl) ?_
    refine OPS.batch 1 {} [] [0, 2, 4, 7, 8, 30] [.string line, .pointer (some ⟨g3, 0, none⟩), .pointer (some ⟨g15, 0, none⟩), .pointer (some ⟨g56, 0, none⟩), .pointer (some ⟨g62, 0, none⟩), .pointer (some ⟨g15, 0, none⟩)] .nil (by kernel_rfl) (fun b66 => ?_)
    have hp69 := hp64.pull4
    have hp70 := hp69.pull4
    refine OPS.cons (opStep.call (some 31) [.pointer (some ⟨g15, 0, none⟩)] (by kernel_rfl) (w_number _ _ g15 g10 h24 ((wordsB line).tail) (false || (wordsB line).isEmpty) _ hl (tail_size hsz) hp70) ?_)
    rintro _ w71 ⟨h73, v74, bd75_, rfl, hn76, hp72⟩
    refine ⟨_, rfl, ?_⟩
    have hn76a := hn76.rng.1
    have hn76b := hn76.rng.2
    have hn76z := itoaT_size hn76a hn76b
    refine OPS.batch 1 {} [] [0, 2, 4, 7, 8, 31, 32] [.string line, .pointer (some ⟨g3, 0, none⟩), .pointer (some ⟨g15, 0, none⟩), .pointer (some ⟨g56, 0, none⟩), .pointer (some ⟨g62, 0, none⟩), .int .i64 v74, .pointer (some ⟨g62, 1, none⟩)] .nil (by kernel_rfl) (fun b77 => ?_)
    refine OPS.cons (opStep.store2 hp72 rfl [.int .i64 v74] [.int .i64 1, .int .i64 v74, .int .i64 0, .string ByteArray.empty, .slice none 0 0, .slice none 0 0] (by kernel_rfl) (fun w78 hp79 => ?_))
    refine OPS.nil ?_
    refine thn_n ?_
    refine WP.seq ?_
    refine WP.seq ?_
    refine WP.pure {} [.bool false] [0, 2, 4, 7, 8, 34] [.string line, .pointer (some ⟨g3, 0, none⟩), .pointer (some ⟨g15, 0, none⟩), .pointer (some ⟨g56, 0, none⟩), .pointer (some ⟨g62, 0, none⟩), .bool false] (.cons (Ld.row1 (P := Tryd.prog) (t := 4) (o := 2) (v := .bool false) hp79.get3 (by kernel_rfl)) .nil) (by kernel_rfl) (fun b80 => ?_)
    refine thn_n ?_
    refine WP.condF rfl ?_
    refine WP.skip ?_
    refine thn_n ?_
    refine WP.seq ?_
    refine WP.seq ?_
    refine WP.pure {} [.bool true] [0, 2, 4, 7, 8, 39] [.string line, .pointer (some ⟨g3, 0, none⟩), .pointer (some ⟨g15, 0, none⟩), .pointer (some ⟨g56, 0, none⟩), .pointer (some ⟨g62, 0, none⟩), .bool true] (.cons (Ld.row1 (P := Tryd.prog) (t := 4) (o := 3) (v := .bool true) hp79.get3 (by kernel_rfl)) .nil) (by kernel_rfl) (fun b81 => ?_)
    refine thn_n ?_
    refine WP.condT rfl ?_
    refine WP.region _ rfl (by kernel_rfl) ?_
    refine OPS.batch 1 {} [] [0, 2, 4, 7, 8, 40] [.string line, .pointer (some ⟨g3, 0, none⟩), .pointer (some ⟨g15, 0, none⟩), .pointer (some ⟨g56, 0, none⟩), .pointer (some ⟨g62, 0, none⟩), .pointer (some ⟨g15, 0, none⟩)] .nil (by kernel_rfl) (fun b82 => ?_)
    have hp85 := hp79.pull1
    have hp86 := hp85.pull1
    refine OPS.cons (opStep.call (some 41) [.pointer (some ⟨g15, 0, none⟩)] (by kernel_rfl) (w_bytes _ _ g15 g10 h73 (((wordsB line).tail).tail) bd75_ _ (tail_size (tail_size hsy)) hp86) ?_)
    rintro _ w87 ⟨h89, v90, bd91_, rfl, hn92, hp88⟩
    refine ⟨_, rfl, ?_⟩
    refine OPS.batch 1 {} [] [0, 2, 4, 7, 8, 41, 42] [.string line, .pointer (some ⟨g3, 0, none⟩), .pointer (some ⟨g15, 0, none⟩), .pointer (some ⟨g56, 0, none⟩), .pointer (some ⟨g62, 0, none⟩), .string v90, .pointer (some ⟨g62, 3, none⟩)] .nil (by kernel_rfl) (fun b93 => ?_)
    refine OPS.cons (opStep.store2 hp88 rfl [.string v90] [.int .i64 1, .int .i64 v74, .int .i64 0, .string v90, .slice none 0 0, .slice none 0 0] (by kernel_rfl) (fun w94 hp95 => ?_))
    refine OPS.nil ?_
    refine thn_n ?_
    refine WP.seq ?_
    refine WP.seq ?_
    refine WP.pure {} [.bool true] [0, 2, 4, 8, 44] [.string line, .pointer (some ⟨g3, 0, none⟩), .pointer (some ⟨g15, 0, none⟩), .pointer (some ⟨g62, 0, none⟩), .bool true] (.cons (Ld.row1 (P := Tryd.prog) (t := 4) (o := 4) (v := .bool true) hp95.get3 (by kernel_rfl)) .nil) (by kernel_rfl) (fun b96 => ?_)
    refine thn_n ?_
    refine WP.condT rfl ?_
    refine WP.region _ rfl (by kernel_rfl) ?_
    refine OPS.batch 1 {} [] [0, 2, 4, 8, 45] [.string line, .pointer (some ⟨g3, 0, none⟩), .pointer (some ⟨g15, 0, none⟩), .pointer (some ⟨g62, 0, none⟩), .pointer (some ⟨g15, 0, none⟩)] .nil (by kernel_rfl) (fun b97 => ?_)
    have hp100 := hp95.pull1
    have hp101 := hp100.pull1
    refine OPS.cons (opStep.call (some 46) [.pointer (some ⟨g15, 0, none⟩)] (by kernel_rfl) (w_bytes _ _ g15 g10 h89 ((((wordsB line).tail).tail).tail) bd91_ _ (tail_size (tail_size (tail_size hsy))) hp101) ?_)
    rintro _ w102 ⟨h104, v105, bd106_, rfl, hn107, hp103⟩
    refine ⟨_, rfl, ?_⟩
    refine OPS.cons (opStep.strBytes hp103 (by kernel_rfl) rfl (fun g110 c111 w108 hp109 => ?_))
    refine OPS.batch 1 {} [] [0, 2, 4, 8, 47, 48] [.string line, .pointer (some ⟨g3, 0, none⟩), .pointer (some ⟨g15, 0, none⟩), .pointer (some ⟨g62, 0, none⟩), .slice (some ⟨g110, 0, none⟩) v105.size c111, .pointer (some ⟨g62, 4, none⟩)] .nil (by kernel_rfl) (fun b112 => ?_)
    refine OPS.cons (opStep.store3 hp109 rfl [.slice (some ⟨g110, 0, none⟩) v105.size c111] [.int .i64 1, .int .i64 v74, .int .i64 0, .string v90, .slice (some ⟨g110, 0, none⟩) v105.size c111, .slice none 0 0] (by kernel_rfl) (fun w113 hp114 => ?_))
    refine OPS.nil ?_
    refine thn_n ?_
    refine WP.seq ?_
    refine WP.block ?_
    have hp115 := (show Hp w Non [Res.own 3 1 (.slice none 0 0) 0 (List.flatMap i64c ([] : List Int)), Res.bs g110 v105, Res.row g15 [.slice h104.a h104.n h104.c, .bool bd106_] 75, Res.lst g10 h104 (((((wordsB line).tail).tail).tail).tail), Res.row g62 [.int .i64 1, .int .i64 v74, .int .i64 0, .string v90, .slice (some ⟨g110, 0, none⟩) v105.size c111, .slice none 0 0] 31, Res.row g56 [.string ⟨#[112, 117, 116]⟩, .bool true, .bool false, .bool true, .bool true, .bool false, .bool false] 56, Res.row g27 [.string ((wordsB line).headD ByteArray.empty)] 9, Res.row g3 [.int .i64 0, .int .i64 0, .int .i64 0, .string ByteArray.empty, .slice none 0 0, .slice none 0 0] 31] w113 from hp114.nilOwn 3 1)
    refine WP.loop (fun mz_ e116 w117 => ∃ (wz : List ByteArray) (hz : SlH) (bz : Bool) (ls : List Int) (ao : Option Addr) (no : Nat) (co : Nat), mz_ = wz.length ∧ (wz = List.drop ls.length (((((wordsB line).tail).tail).tail).tail) ∧ ls.length ≤ (wordsB line).length ∧ RnI bd106_ (((((wordsB line).tail).tail).tail).tail) ls bz ∧ (∀ x ∈ wz, x.size ≤ 281474976710656)) ∧ List.map e116 [0, 2, 4, 8] = [.string line, .pointer (some ⟨g3, 0, none⟩), .pointer (some ⟨g15, 0, none⟩), .pointer (some ⟨g62, 0, none⟩)] ∧ Hp w Non [Res.own 3 1 (.slice ao no co) no (List.flatMap i64c ls), Res.bs g110 v105, Res.row g15 [.slice hz.a hz.n hz.c, .bool bz] 75, Res.lst g10 hz wz, Res.row g62 [.int .i64 1, .int .i64 v74, .int .i64 0, .string v90, .slice (some ⟨g110, 0, none⟩) v105.size c111, .slice ao no co] 31, Res.row g56 [.string ⟨#[112, 117, 116]⟩, .bool true, .bool false, .bool true, .bool true, .bool false, .bool false] 56, Res.row g27 [.string ((wordsB line).headD ByteArray.empty)] 9, Res.row g3 [.int .i64 0, .int .i64 0, .int .i64 0, .string ByteArray.empty, .slice none 0 0, .slice none 0 0] 31] w117) ((((((wordsB line).tail).tail).tail).tail).length) ⟨((((wordsB line).tail).tail).tail).tail, h104, bd106_, [], none, 0, 0, rfl, ⟨rfl, Nat.zero_le _, rn_start _ _, (tail_size (tail_size (tail_size (tail_size hsz))))⟩, by kernel_rfl, hp115⟩ ?_
    rintro _ e116 w117 ⟨wz, hz, bz, ls, ao, no, co, rfl, hI119, hE120, hp118⟩
    obtain ⟨b121, rfl⟩ := toMk hE120
    clear hE120
    obtain ⟨pa, pb, hrn, hsw⟩ := hI119
    have hlz := lst_len hp118.get3
    have hsz := hsw
    have pe := own_flat (f := i64c) (sz := 1) (fun _ => rfl) (by decide) hp118.get0
    have hdl := congrArg List.length pa
    rw [List.length_drop] at hdl
    have hw4 : (((((wordsB line).tail).tail).tail).tail).length ≤ (wordsB line).length := by simp only [List.length_tail]; omega
    refine WP.seq ?_
    refine WP.seq ?_
    refine WP.pure {} [.slice hz.a hz.n hz.c] [0, 2, 4, 8, 54] [.string line, .pointer (some ⟨g3, 0, none⟩), .pointer (some ⟨g15, 0, none⟩), .pointer (some ⟨g62, 0, none⟩), .bool (decide (0 < ((hz.n : Nat) : Int)))] (.cons (Ld.row1 (P := Tryd.prog) (t := 36) (o := 0) (v := .slice hz.a hz.n hz.c) hp118.get2 (by kernel_rfl)) .nil) (by kernel_rfl) (fun b122 => ?_)
    refine thn_n ?_
    refine WP.test (p := 0 < ((hz.n : Nat) : Int)) rfl Bp.dec (fun h123 => ?_) (fun h123 => ?_)
    · refine WP.skip ?_
      refine thn_n ?_
      refine WP.block ?_
      have hp124 := hp118.drew
      refine WP.held (fun w125 => Ld Tryd.prog w125 29 ⟨g62, 5, none⟩ (.slice ao no co) ∧ True) [7] [(0, true), (1, true), (2, true), (3, false), (4, false), (5, false), (6, true), (7, false)] (np_blk (np_thn (np_blk (np_thn np_body)))) (by kernel_rfl) ?_
      refine HOPS.take 3 {} [.slice ao no co] [0, 2, 4, 8, 56, 57] [.string line, .pointer (some ⟨g3, 0, none⟩), .pointer (some ⟨g15, 0, none⟩), .pointer (some ⟨g62, 0, none⟩), .slice ao no co, .pointer (some ⟨g15, 0, none⟩)] (by kernel_rfl) ⟨(show Ld Tryd.prog w117.drew 29 ⟨g62, 5, none⟩ (.slice ao no co) from (Ld.row1 (P := Tryd.prog) (t := 29) (o := 5) (v := .slice ao no co) hp124.get4 (by kernel_rfl))), trivial⟩ (fun w126 hS127 => QB.mk (.cons (hS127.1) .nil) (by kernel_rfl)) (fun b128 => ?_)
      have hp131 := hp124.pull3
      have hp132 := hp131.pull3
      refine HOPS.eff _ rfl (opStep.call (some 58) [.pointer (some ⟨g15, 0, none⟩)] (by kernel_rfl) (w_number _ _ g15 g10 hz wz bz _ hl hsz hp132) ?_)
      rintro _ w133 ⟨h135, v136, bd137_, rfl, hn138, hp134⟩
      refine ⟨_, rfl, ?_⟩
      have hn138a := hn138.rng.1
      have hn138b := hn138.rng.2
      have hn138z := itoaT_size hn138a hn138b
      refine ⟨.inr ⟨(show Ld Tryd.prog w133 29 ⟨g62, 5, none⟩ (.slice ao no co) from (Ld.row1 (P := Tryd.prog) (t := 29) (o := 5) (v := .slice ao no co) hp134.get4 (by kernel_rfl))), trivial⟩, ?_⟩
      refine HOPS.eff _ rfl (opStep.buildSlice (E := 3) hp134 [.int .i64 v136] (by kernel_rfl) (fun g141 w139 hp140 => ?_))
      refine ⟨.inr ⟨(show Ld Tryd.prog w139 29 ⟨g62, 5, none⟩ (.slice ao no co) from (Ld.row1 (P := Tryd.prog) (t := 29) (o := 5) (v := .slice ao no co) hp140.get5 (by kernel_rfl))), trivial⟩, ?_⟩
      refine HOPS.eff _ rfl (opStep.append3 [.int .i64 v136] hp140 8 (by kernel_rfl) rfl rfl rfl (SlR.row (n := 1) hp140.get0 rfl).rd (List.all_eq_true.1 (by kernel_rfl)) (by decide) (by omega) (by omega) (fun a144 c145 w146 hp147 hn148 => ?_))
      rw [(show List.flatMap i64c ls ++ [.int .i64 v136] = List.flatMap i64c (ls ++ [v136]) from (List.flatMap_append (xs := ls) (ys := [v136])).symm)] at hp147
      refine ⟨.inr ⟨(show Ld Tryd.prog w146 29 ⟨g62, 5, none⟩ (.slice ao no co) from (Ld.row1 (P := Tryd.prog) (t := 29) (o := 5) (v := .slice ao no co) hp147.get5 (by kernel_rfl))), trivial⟩, ?_⟩
      refine HOPS.take 1 {} [] [0, 2, 4, 8, 60, 61] [.string line, .pointer (some ⟨g3, 0, none⟩), .pointer (some ⟨g15, 0, none⟩), .pointer (some ⟨g62, 0, none⟩), .slice a144 (no + 1) c145, .pointer (some ⟨g62, 5, none⟩)] (by kernel_rfl) ⟨(show Ld Tryd.prog w146 29 ⟨g62, 5, none⟩ (.slice ao no co) from (Ld.row1 (P := Tryd.prog) (t := 29) (o := 5) (v := .slice ao no co) hp147.get5 (by kernel_rfl))), trivial⟩ (fun w149 hS150 => QB.mk .nil (by kernel_rfl)) (fun b151 => ?_)
      refine HOPS.eff _ rfl (opStep.store5 hp147 rfl [.slice a144 (no + 1) c145] [.int .i64 1, .int .i64 v74, .int .i64 0, .string v90, .slice (some ⟨g110, 0, none⟩) v105.size c111, .slice a144 (no + 1) c145] (by kernel_rfl) (fun w152 hp153 => ?_))
      refine ⟨.inl rfl, ?_⟩
      refine HOPS.nil ?_
      refine blk_n ?_
      refine thn_n ?_
      exact ⟨(wz.tail).length, (by rw [List.length_tail]; omega), wz.tail, h135, bd137_, ls ++ [v136], a144, no + 1, c145, rfl, ⟨by rw [List.length_append, List.length_singleton, ← List.drop_drop, ← pa, List.drop_one], by rw [List.length_append, List.length_singleton]; omega, rn_step hrn pa hn138 (by omega), tail_size hsw⟩, by kernel_rfl, (((((((((hp153.pull8).pull8).pull8).pull8).pull6).pull6).pull8).pull8).sub (.cons_cons _ (.cons_cons _ (.cons_cons _ (.cons_cons _ (.cons_cons _ (.cons_cons _ (.cons_cons _ (.cons_cons _ (.cons _ (.slnil)))))))))))⟩
    · refine WP.exit ?_
      refine thn_x ?_
      refine thn_x ?_
      refine blk_hit ?_
      refine thn_n ?_
      refine WP.seq ?_
      refine WP.region _ rfl (by kernel_rfl) ?_
      refine OPS.batch 1 {} [.agg #[.int .i64 1, .int .i64 v74, .int .i64 0, .string v90, .slice (some ⟨g110, 0, none⟩) v105.size c111, .slice ao no co]] [0, 2, 4, 8, 63] [.string line, .pointer (some ⟨g3, 0, none⟩), .pointer (some ⟨g15, 0, none⟩), .pointer (some ⟨g62, 0, none⟩), .agg #[.int .i64 1, .int .i64 v74, .int .i64 0, .string v90, .slice (some ⟨g110, 0, none⟩) v105.size c111, .slice ao no co]] (.cons (show Ld Tryd.prog w117 31 ⟨g62, 0, none⟩ (.agg #[.int .i64 1, .int .i64 v74, .int .i64 0, .string v90, .slice (some ⟨g110, 0, none⟩) v105.size c111, .slice ao no co]) from Ld.rowN (cs := [.int .i64 1, .int .i64 v74, .int .i64 0, .string v90, .slice (some ⟨g110, 0, none⟩) v105.size c111, .slice ao no co]) hp118.get4 (by kernel_rfl)) .nil) (by kernel_rfl) (fun b154 => ?_)
      obtain ⟨xx, hxx⟩ : ∃ z : StepP, z = ⟨1, v74, 0, v90, v105, ls⟩ := ⟨_, rfl⟩
      have hsm : smS xx := by rw [hxx]; exact ⟨⟨hn76.rng, in0, hrn.1⟩, (Nat.le_trans (Nat.le_trans hn92.le (head_size (tail_size (tail_size hsl)))) hline), (Nat.le_trans (Nat.le_trans hn107.le (head_size (tail_size (tail_size (tail_size hsl))))) hline), by simp only; omega⟩
      refine OPS.cons (opStep.call (some 64) [.agg #[.int .i64 1, .int .i64 v74, .int .i64 0, .string v90, .slice (some ⟨g110, 0, none⟩) v105.size c111, .slice ao no co]] (by kernel_rfl) (sc_Line (⟨1, v74, 0, v90, ⟨some ⟨g110, 0, none⟩, v105.size, c111⟩, ⟨ao, no, co⟩⟩ : GStep) xx _ (hls.fram hp118.fr) (by rw [hxx]; exact (StR.of rfl rfl rfl rfl (⟨rfl, SlR.bs hp118.get1⟩) (own_flat (f := i64c) (sz := 1) (fun _ => rfl) (by decide) hp118.get0).symm (SlR.own hp118.get0))) hsm) ?_)
      rintro _ w157 ⟨rfl, hf158⟩
      refine ⟨_, rfl, ?_⟩
      have hp159 := hp118.step hf158
      refine OPS.batch 5 {} [] [0, 2, 4, 8, 9, 10] [.string line, .pointer (some ⟨g3, 0, none⟩), .pointer (some ⟨g15, 0, none⟩), .pointer (some ⟨g62, 0, none⟩), .string (lineV xx), .int .i64 (chkI xx)] .nil (by kernel_rfl) (fun b160 => ?_)
      refine OPS.nil ?_
      refine thn_n ?_
      refine WP.cut (fun e202 w203 => ∃ (x200 : Bool), (True) ∧ Bp x200 ((¬ (bz = true)) ∧ ((chkI xx) = 0) ∧ ((lineV xx) = line)) ∧ List.map e202 [2, 3] = [.pointer (some ⟨g3, 0, none⟩), .bool x200] ∧ Hp w Non [Res.own 3 1 (.slice ao no co) no (List.flatMap i64c ls), Res.bs g110 v105, Res.row g15 [.slice hz.a hz.n hz.c, .bool bz] 75, Res.lst g10 hz wz, Res.row g62 [.int .i64 1, .int .i64 v74, .int .i64 0, .string v90, .slice (some ⟨g110, 0, none⟩) v105.size c111, .slice ao no co] 31, Res.row g56 [.string ⟨#[112, 117, 116]⟩, .bool true, .bool false, .bool true, .bool true, .bool false, .bool false] 56, Res.row g27 [.string ((wordsB line).headD ByteArray.empty)] 9, Res.row g3 [.int .i64 1, .int .i64 v74, .int .i64 0, .string v90, .slice (some ⟨g110, 0, none⟩) v105.size c111, .slice ao no co] 31] w203) ?_ ?_
      · have hp162 := hp159.drew
        refine WP.held (fun w163 => Ld Tryd.prog w163 31 ⟨g62, 0, none⟩ (.agg #[.int .i64 1, .int .i64 v74, .int .i64 0, .string v90, .slice (some ⟨g110, 0, none⟩) v105.size c111, .slice ao no co]) ∧ Ld Tryd.prog w163 4 ⟨g15, 1, none⟩ (.bool bz) ∧ True) [] [(0, true), (1, true), (2, true), (3, true), (4, true), (5, true), (6, true), (7, true), (8, true), (9, true), (10, true), (11, true), (12, true), (13, true), (14, true), (15, false), (16, true)] (np_thn np_body) (by kernel_rfl) ?_
        refine HOPS.take 7 {} [.agg #[.int .i64 1, .int .i64 v74, .int .i64 0, .string v90, .slice (some ⟨g110, 0, none⟩) v105.size c111, .slice ao no co], .bool bz] [0, 2, 9, 10, 67, 73] [.string line, .pointer (some ⟨g3, 0, none⟩), .string (lineV xx), .int .i64 (chkI xx), .agg #[.int .i64 1, .int .i64 v74, .int .i64 0, .string v90, .slice (some ⟨g110, 0, none⟩) v105.size c111, .slice ao no co], .bool (!bz)] (by kernel_rfl) ⟨(show Ld Tryd.prog w157.drew 31 ⟨g62, 0, none⟩ (.agg #[.int .i64 1, .int .i64 v74, .int .i64 0, .string v90, .slice (some ⟨g110, 0, none⟩) v105.size c111, .slice ao no co]) from Ld.rowN (cs := [.int .i64 1, .int .i64 v74, .int .i64 0, .string v90, .slice (some ⟨g110, 0, none⟩) v105.size c111, .slice ao no co]) hp162.get4 (by kernel_rfl)), (show Ld Tryd.prog w157.drew 4 ⟨g15, 1, none⟩ (.bool bz) from (Ld.row1 (P := Tryd.prog) (t := 4) (o := 1) (v := .bool bz) hp162.get2 (by kernel_rfl))), trivial⟩ (fun w164 hS165 => QB.mk (.cons (hS165.1) (.cons (hS165.2.1) .nil)) (by kernel_rfl)) (fun b166 => ?_)
        by_cases h167 : bz = true
        · refine HOPS.take 0 {} [] [0, 2, 9, 10, 67, 73] [.string line, .pointer (some ⟨g3, 0, none⟩), .string (lineV xx), .int .i64 (chkI xx), .agg #[.int .i64 1, .int .i64 v74, .int .i64 0, .string v90, .slice (some ⟨g110, 0, none⟩) v105.size c111, .slice ao no co], .bool (!bz)] (by kernel_rfl) ⟨(show Ld Tryd.prog w157.drew 31 ⟨g62, 0, none⟩ (.agg #[.int .i64 1, .int .i64 v74, .int .i64 0, .string v90, .slice (some ⟨g110, 0, none⟩) v105.size c111, .slice ao no co]) from Ld.rowN (cs := [.int .i64 1, .int .i64 v74, .int .i64 0, .string v90, .slice (some ⟨g110, 0, none⟩) v105.size c111, .slice ao no co]) hp162.get4 (by kernel_rfl)), (show Ld Tryd.prog w157.drew 4 ⟨g15, 1, none⟩ (.bool bz) from (Ld.row1 (P := Tryd.prog) (t := 4) (o := 1) (v := .bool bz) hp162.get2 (by kernel_rfl))), trivial⟩ (fun _ _ => QB.mk .nil (by kernel_rfl)) (fun b191 => ?_)
          refine HOPS.re [.string line, .pointer (some ⟨g3, 0, none⟩), .string (lineV xx), .int .i64 (chkI xx), .agg #[.int .i64 1, .int .i64 v74, .int .i64 0, .string v90, .slice (some ⟨g110, 0, none⟩) v105.size c111, .slice ao no co], .bool false] (by rw [show (!bz) = false from (Bp.not Bp.var).ff (fun k => k h167)]) ?_
          refine HOPS.take 8 { wraps := [76, 81] } [] [2, 67, 81] [.pointer (some ⟨g3, 0, none⟩), .agg #[.int .i64 1, .int .i64 v74, .int .i64 0, .string v90, .slice (some ⟨g110, 0, none⟩) v105.size c111, .slice ao no co], .bool false] (by kernel_rfl) ⟨(show Ld Tryd.prog w157.drew 31 ⟨g62, 0, none⟩ (.agg #[.int .i64 1, .int .i64 v74, .int .i64 0, .string v90, .slice (some ⟨g110, 0, none⟩) v105.size c111, .slice ao no co]) from Ld.rowN (cs := [.int .i64 1, .int .i64 v74, .int .i64 0, .string v90, .slice (some ⟨g110, 0, none⟩) v105.size c111, .slice ao no co]) hp162.get4 (by kernel_rfl)), (show Ld Tryd.prog w157.drew 4 ⟨g15, 1, none⟩ (.bool bz) from (Ld.row1 (P := Tryd.prog) (t := 4) (o := 1) (v := .bool bz) hp162.get2 (by kernel_rfl))), trivial⟩ (fun w192 hS193 => QB.mk .nil (by kernel_rfl)) (fun b194 => ?_)
          refine HOPS.eff _ rfl (opStep.store7 hp162 rfl [.int .i64 1, .int .i64 v74, .int .i64 0, .string v90, .slice (some ⟨g110, 0, none⟩) v105.size c111, .slice ao no co] [.int .i64 1, .int .i64 v74, .int .i64 0, .string v90, .slice (some ⟨g110, 0, none⟩) v105.size c111, .slice ao no co] (by kernel_rfl) (fun w195 hp196 => ?_))
          refine ⟨.inr ⟨(show Ld Tryd.prog w195 31 ⟨g62, 0, none⟩ (.agg #[.int .i64 1, .int .i64 v74, .int .i64 0, .string v90, .slice (some ⟨g110, 0, none⟩) v105.size c111, .slice ao no co]) from Ld.rowN (cs := [.int .i64 1, .int .i64 v74, .int .i64 0, .string v90, .slice (some ⟨g110, 0, none⟩) v105.size c111, .slice ao no co]) hp196.get4 (by kernel_rfl)), (show Ld Tryd.prog w195 4 ⟨g15, 1, none⟩ (.bool bz) from (Ld.row1 (P := Tryd.prog) (t := 4) (o := 1) (v := .bool bz) hp196.get2 (by kernel_rfl))), trivial⟩, ?_⟩
          refine HOPS.take 1 {} [] [2, 3] [.pointer (some ⟨g3, 0, none⟩), .bool false] (by kernel_rfl) ⟨(show Ld Tryd.prog w195 31 ⟨g62, 0, none⟩ (.agg #[.int .i64 1, .int .i64 v74, .int .i64 0, .string v90, .slice (some ⟨g110, 0, none⟩) v105.size c111, .slice ao no co]) from Ld.rowN (cs := [.int .i64 1, .int .i64 v74, .int .i64 0, .string v90, .slice (some ⟨g110, 0, none⟩) v105.size c111, .slice ao no co]) hp196.get4 (by kernel_rfl)), (show Ld Tryd.prog w195 4 ⟨g15, 1, none⟩ (.bool bz) from (Ld.row1 (P := Tryd.prog) (t := 4) (o := 1) (v := .bool bz) hp196.get2 (by kernel_rfl))), trivial⟩ (fun w197 hS198 => QB.mk .nil (by kernel_rfl)) (fun b199 => ?_)
          refine HOPS.nil ?_
          refine thn_n ?_
          exact ⟨false, trivial, Bp.of Bp.f (by first | (simp only [h167, iff_false, false_iff, iff_true, true_iff, Classical.not_not, and_true, true_and, and_false, false_and, or_true, true_or, or_false, false_or, not_true_eq_false, not_false_eq_true, and_self, or_self, iff_self]; done) | (simp [h167]; done) | grind | (simp_all; done)), by kernel_rfl, hp196⟩
        · refine HOPS.take 0 {} [] [0, 2, 9, 10, 67, 73] [.string line, .pointer (some ⟨g3, 0, none⟩), .string (lineV xx), .int .i64 (chkI xx), .agg #[.int .i64 1, .int .i64 v74, .int .i64 0, .string v90, .slice (some ⟨g110, 0, none⟩) v105.size c111, .slice ao no co], .bool (!bz)] (by kernel_rfl) ⟨(show Ld Tryd.prog w157.drew 31 ⟨g62, 0, none⟩ (.agg #[.int .i64 1, .int .i64 v74, .int .i64 0, .string v90, .slice (some ⟨g110, 0, none⟩) v105.size c111, .slice ao no co]) from Ld.rowN (cs := [.int .i64 1, .int .i64 v74, .int .i64 0, .string v90, .slice (some ⟨g110, 0, none⟩) v105.size c111, .slice ao no co]) hp162.get4 (by kernel_rfl)), (show Ld Tryd.prog w157.drew 4 ⟨g15, 1, none⟩ (.bool bz) from (Ld.row1 (P := Tryd.prog) (t := 4) (o := 1) (v := .bool bz) hp162.get2 (by kernel_rfl))), trivial⟩ (fun _ _ => QB.mk .nil (by kernel_rfl)) (fun b168 => ?_)
          refine HOPS.re [.string line, .pointer (some ⟨g3, 0, none⟩), .string (lineV xx), .int .i64 (chkI xx), .agg #[.int .i64 1, .int .i64 v74, .int .i64 0, .string v90, .slice (some ⟨g110, 0, none⟩) v105.size c111, .slice ao no co], .bool true] (by rw [show (!bz) = true from (Bp.not Bp.var).tt h167]) ?_
          refine HOPS.take 4 { wraps := [76] } [] [0, 2, 9, 67, 77] [.string line, .pointer (some ⟨g3, 0, none⟩), .string (lineV xx), .agg #[.int .i64 1, .int .i64 v74, .int .i64 0, .string v90, .slice (some ⟨g110, 0, none⟩) v105.size c111, .slice ao no co], .bool (decide ((chkI xx) = 0))] (by kernel_rfl) ⟨(show Ld Tryd.prog w157.drew 31 ⟨g62, 0, none⟩ (.agg #[.int .i64 1, .int .i64 v74, .int .i64 0, .string v90, .slice (some ⟨g110, 0, none⟩) v105.size c111, .slice ao no co]) from Ld.rowN (cs := [.int .i64 1, .int .i64 v74, .int .i64 0, .string v90, .slice (some ⟨g110, 0, none⟩) v105.size c111, .slice ao no co]) hp162.get4 (by kernel_rfl)), (show Ld Tryd.prog w157.drew 4 ⟨g15, 1, none⟩ (.bool bz) from (Ld.row1 (P := Tryd.prog) (t := 4) (o := 1) (v := .bool bz) hp162.get2 (by kernel_rfl))), trivial⟩ (fun w169 hS170 => QB.mk .nil (by kernel_rfl)) (fun b171 => ?_)
          by_cases h172 : (chkI xx) = 0
          · refine HOPS.take 0 {} [] [0, 2, 9, 67, 77] [.string line, .pointer (some ⟨g3, 0, none⟩), .string (lineV xx), .agg #[.int .i64 1, .int .i64 v74, .int .i64 0, .string v90, .slice (some ⟨g110, 0, none⟩) v105.size c111, .slice ao no co], .bool (decide ((chkI xx) = 0))] (by kernel_rfl) ⟨(show Ld Tryd.prog w157.drew 31 ⟨g62, 0, none⟩ (.agg #[.int .i64 1, .int .i64 v74, .int .i64 0, .string v90, .slice (some ⟨g110, 0, none⟩) v105.size c111, .slice ao no co]) from Ld.rowN (cs := [.int .i64 1, .int .i64 v74, .int .i64 0, .string v90, .slice (some ⟨g110, 0, none⟩) v105.size c111, .slice ao no co]) hp162.get4 (by kernel_rfl)), (show Ld Tryd.prog w157.drew 4 ⟨g15, 1, none⟩ (.bool bz) from (Ld.row1 (P := Tryd.prog) (t := 4) (o := 1) (v := .bool bz) hp162.get2 (by kernel_rfl))), trivial⟩ (fun _ _ => QB.mk .nil (by kernel_rfl)) (fun b173 => ?_)
            refine HOPS.re [.string line, .pointer (some ⟨g3, 0, none⟩), .string (lineV xx), .agg #[.int .i64 1, .int .i64 v74, .int .i64 0, .string v90, .slice (some ⟨g110, 0, none⟩) v105.size c111, .slice ao no co], .bool true] (by rw [show (decide ((chkI xx) = 0)) = true from Bp.dec.tt h172]) ?_
            refine HOPS.take 4 { wraps := [81] } [] [2, 67, 81] [.pointer (some ⟨g3, 0, none⟩), .agg #[.int .i64 1, .int .i64 v74, .int .i64 0, .string v90, .slice (some ⟨g110, 0, none⟩) v105.size c111, .slice ao no co], .bool (decide ((lineV xx) = line))] (by kernel_rfl) ⟨(show Ld Tryd.prog w157.drew 31 ⟨g62, 0, none⟩ (.agg #[.int .i64 1, .int .i64 v74, .int .i64 0, .string v90, .slice (some ⟨g110, 0, none⟩) v105.size c111, .slice ao no co]) from Ld.rowN (cs := [.int .i64 1, .int .i64 v74, .int .i64 0, .string v90, .slice (some ⟨g110, 0, none⟩) v105.size c111, .slice ao no co]) hp162.get4 (by kernel_rfl)), (show Ld Tryd.prog w157.drew 4 ⟨g15, 1, none⟩ (.bool bz) from (Ld.row1 (P := Tryd.prog) (t := 4) (o := 1) (v := .bool bz) hp162.get2 (by kernel_rfl))), trivial⟩ (fun w174 hS175 => QB.mk .nil (by kernel_rfl)) (fun b176 => ?_)
            refine HOPS.eff _ rfl (opStep.store7 hp162 rfl [.int .i64 1, .int .i64 v74, .int .i64 0, .string v90, .slice (some ⟨g110, 0, none⟩) v105.size c111, .slice ao no co] [.int .i64 1, .int .i64 v74, .int .i64 0, .string v90, .slice (some ⟨g110, 0, none⟩) v105.size c111, .slice ao no co] (by kernel_rfl) (fun w177 hp178 => ?_))
            refine ⟨.inr ⟨(show Ld Tryd.prog w177 31 ⟨g62, 0, none⟩ (.agg #[.int .i64 1, .int .i64 v74, .int .i64 0, .string v90, .slice (some ⟨g110, 0, none⟩) v105.size c111, .slice ao no co]) from Ld.rowN (cs := [.int .i64 1, .int .i64 v74, .int .i64 0, .string v90, .slice (some ⟨g110, 0, none⟩) v105.size c111, .slice ao no co]) hp178.get4 (by kernel_rfl)), (show Ld Tryd.prog w177 4 ⟨g15, 1, none⟩ (.bool bz) from (Ld.row1 (P := Tryd.prog) (t := 4) (o := 1) (v := .bool bz) hp178.get2 (by kernel_rfl))), trivial⟩, ?_⟩
            refine HOPS.take 1 {} [] [2, 3] [.pointer (some ⟨g3, 0, none⟩), .bool (decide ((lineV xx) = line))] (by kernel_rfl) ⟨(show Ld Tryd.prog w177 31 ⟨g62, 0, none⟩ (.agg #[.int .i64 1, .int .i64 v74, .int .i64 0, .string v90, .slice (some ⟨g110, 0, none⟩) v105.size c111, .slice ao no co]) from Ld.rowN (cs := [.int .i64 1, .int .i64 v74, .int .i64 0, .string v90, .slice (some ⟨g110, 0, none⟩) v105.size c111, .slice ao no co]) hp178.get4 (by kernel_rfl)), (show Ld Tryd.prog w177 4 ⟨g15, 1, none⟩ (.bool bz) from (Ld.row1 (P := Tryd.prog) (t := 4) (o := 1) (v := .bool bz) hp178.get2 (by kernel_rfl))), trivial⟩ (fun w179 hS180 => QB.mk .nil (by kernel_rfl)) (fun b181 => ?_)
            refine HOPS.nil ?_
            refine thn_n ?_
            exact ⟨decide ((lineV xx) = line), trivial, Bp.of Bp.dec (by first | (simp only [h167, h172, iff_false, false_iff, iff_true, true_iff, Classical.not_not, and_true, true_and, and_false, false_and, or_true, true_or, or_false, false_or, not_true_eq_false, not_false_eq_true, and_self, or_self, iff_self]; done) | (simp [h167, h172]; done) | grind | (simp_all; done)), by kernel_rfl, hp178⟩
          · refine HOPS.take 0 {} [] [0, 2, 9, 67, 77] [.string line, .pointer (some ⟨g3, 0, none⟩), .string (lineV xx), .agg #[.int .i64 1, .int .i64 v74, .int .i64 0, .string v90, .slice (some ⟨g110, 0, none⟩) v105.size c111, .slice ao no co], .bool (decide ((chkI xx) = 0))] (by kernel_rfl) ⟨(show Ld Tryd.prog w157.drew 31 ⟨g62, 0, none⟩ (.agg #[.int .i64 1, .int .i64 v74, .int .i64 0, .string v90, .slice (some ⟨g110, 0, none⟩) v105.size c111, .slice ao no co]) from Ld.rowN (cs := [.int .i64 1, .int .i64 v74, .int .i64 0, .string v90, .slice (some ⟨g110, 0, none⟩) v105.size c111, .slice ao no co]) hp162.get4 (by kernel_rfl)), (show Ld Tryd.prog w157.drew 4 ⟨g15, 1, none⟩ (.bool bz) from (Ld.row1 (P := Tryd.prog) (t := 4) (o := 1) (v := .bool bz) hp162.get2 (by kernel_rfl))), trivial⟩ (fun _ _ => QB.mk .nil (by kernel_rfl)) (fun b182 => ?_)
            refine HOPS.re [.string line, .pointer (some ⟨g3, 0, none⟩), .string (lineV xx), .agg #[.int .i64 1, .int .i64 v74, .int .i64 0, .string v90, .slice (some ⟨g110, 0, none⟩) v105.size c111, .slice ao no co], .bool false] (by rw [show (decide ((chkI xx) = 0)) = false from Bp.dec.ff h172]) ?_
            refine HOPS.take 4 { wraps := [81] } [] [2, 67, 81] [.pointer (some ⟨g3, 0, none⟩), .agg #[.int .i64 1, .int .i64 v74, .int .i64 0, .string v90, .slice (some ⟨g110, 0, none⟩) v105.size c111, .slice ao no co], .bool false] (by kernel_rfl) ⟨(show Ld Tryd.prog w157.drew 31 ⟨g62, 0, none⟩ (.agg #[.int .i64 1, .int .i64 v74, .int .i64 0, .string v90, .slice (some ⟨g110, 0, none⟩) v105.size c111, .slice ao no co]) from Ld.rowN (cs := [.int .i64 1, .int .i64 v74, .int .i64 0, .string v90, .slice (some ⟨g110, 0, none⟩) v105.size c111, .slice ao no co]) hp162.get4 (by kernel_rfl)), (show Ld Tryd.prog w157.drew 4 ⟨g15, 1, none⟩ (.bool bz) from (Ld.row1 (P := Tryd.prog) (t := 4) (o := 1) (v := .bool bz) hp162.get2 (by kernel_rfl))), trivial⟩ (fun w183 hS184 => QB.mk .nil (by kernel_rfl)) (fun b185 => ?_)
            refine HOPS.eff _ rfl (opStep.store7 hp162 rfl [.int .i64 1, .int .i64 v74, .int .i64 0, .string v90, .slice (some ⟨g110, 0, none⟩) v105.size c111, .slice ao no co] [.int .i64 1, .int .i64 v74, .int .i64 0, .string v90, .slice (some ⟨g110, 0, none⟩) v105.size c111, .slice ao no co] (by kernel_rfl) (fun w186 hp187 => ?_))
            refine ⟨.inr ⟨(show Ld Tryd.prog w186 31 ⟨g62, 0, none⟩ (.agg #[.int .i64 1, .int .i64 v74, .int .i64 0, .string v90, .slice (some ⟨g110, 0, none⟩) v105.size c111, .slice ao no co]) from Ld.rowN (cs := [.int .i64 1, .int .i64 v74, .int .i64 0, .string v90, .slice (some ⟨g110, 0, none⟩) v105.size c111, .slice ao no co]) hp187.get4 (by kernel_rfl)), (show Ld Tryd.prog w186 4 ⟨g15, 1, none⟩ (.bool bz) from (Ld.row1 (P := Tryd.prog) (t := 4) (o := 1) (v := .bool bz) hp187.get2 (by kernel_rfl))), trivial⟩, ?_⟩
            refine HOPS.take 1 {} [] [2, 3] [.pointer (some ⟨g3, 0, none⟩), .bool false] (by kernel_rfl) ⟨(show Ld Tryd.prog w186 31 ⟨g62, 0, none⟩ (.agg #[.int .i64 1, .int .i64 v74, .int .i64 0, .string v90, .slice (some ⟨g110, 0, none⟩) v105.size c111, .slice ao no co]) from Ld.rowN (cs := [.int .i64 1, .int .i64 v74, .int .i64 0, .string v90, .slice (some ⟨g110, 0, none⟩) v105.size c111, .slice ao no co]) hp187.get4 (by kernel_rfl)), (show Ld Tryd.prog w186 4 ⟨g15, 1, none⟩ (.bool bz) from (Ld.row1 (P := Tryd.prog) (t := 4) (o := 1) (v := .bool bz) hp187.get2 (by kernel_rfl))), trivial⟩ (fun w188 hS189 => QB.mk .nil (by kernel_rfl)) (fun b190 => ?_)
            refine HOPS.nil ?_
            refine thn_n ?_
            exact ⟨false, trivial, Bp.of Bp.f (by first | (simp only [h167, h172, iff_false, false_iff, iff_true, true_iff, Classical.not_not, and_true, true_and, and_false, false_and, or_true, true_or, or_false, false_or, not_true_eq_false, not_false_eq_true, and_self, or_self, iff_self]; done) | (simp [h167, h172]; done) | grind | (simp_all; done)), by kernel_rfl, hp187⟩
      rintro e202 w203 ⟨x200, hd205, hb201, hE206, hp204⟩
      obtain ⟨b207, rfl⟩ := toMk hE206
      clear hE206
      clear hd205
      refine WP.ret ?_
      refine bodyQ.of _ rfl [.agg #[.int .i64 1, .int .i64 v74, .int .i64 0, .string v90, .slice (some ⟨g110, 0, none⟩) v105.size c111, .slice ao no co], .bool x200] ⟨⟨_, rfl, (show Ld Tryd.prog w203 31 ⟨g3, 0, none⟩ (.agg #[.int .i64 1, .int .i64 v74, .int .i64 0, .string v90, .slice (some ⟨g110, 0, none⟩) v105.size c111, .slice ao no co]) from Ld.rowN (cs := [.int .i64 1, .int .i64 v74, .int .i64 0, .string v90, .slice (some ⟨g110, 0, none⟩) v105.size c111, .slice ao no co]) hp204.get7 (by kernel_rfl))⟩, rfl, trivial⟩ ?_
      have hre := fun y (h1 : okS y) (h2 : inS y) (h3 : y.Kind = 1) (h4 : lineS y = line) => (show _ ∧ xx = y from hxx ▸ read_ok (k := 1) (line := line) rfl rfl (.t rfl ⟨hn76, rfl⟩) (.f rfl ⟨rfl, rfl, rfl⟩) (.t rfl ⟨hn92, rfl⟩) (.t rfl ⟨hn107, rfl⟩) (rn_end hrn pa (by omega)) h1 h2 h3 h4)
      have hfin := step_fin (P := (¬ (bz = true)) ∧ ((chkI xx) = 0) ∧ ((lineV xx) = line)) hk38 hsm.1 hre (by have q0_ := h123 ; first | grind | (simp_all; done))
      exact ⟨(⟨1, v74, 0, v90, ⟨some ⟨g110, 0, none⟩, v105.size, c111⟩, ⟨ao, no, co⟩⟩ : GStep), xx, _, _, rfl, ⟨fun h => hfin.1 (Bp.tr hb201 h), fun h => hfin.2 (Bp.fa hb201 h)⟩, (by rw [hxx]; exact Hp.svMakeV (E := 3) (⟨1, v74, 0, v90, ⟨some ⟨g110, 0, none⟩, v105.size, c111⟩, ⟨ao, no, co⟩⟩ : GStep) _ rfl rfl rfl rfl rfl rfl (((hp204.pull0).pull1).sub (.cons_cons _ (.cons_cons _ (.cons _ (.cons _ (.cons _ (.cons _ (.cons _ (.cons _ (.slnil)))))))))))⟩
  · rw [hk38]
    refine OPS.batch 1 {} [] [0, 2, 4, 6] [.string line, .pointer (some ⟨g3, 0, none⟩), .pointer (some ⟨g15, 0, none⟩), .int .i64 2] .nil (by kernel_rfl) (fun b208 => ?_)
    refine OPS.nil ?_
    refine thn_n ?_
    refine WP.seq ?_
    refine WP.seq ?_
    refine WP.pure {} [] [0, 2, 4, 6, 21] [.string line, .pointer (some ⟨g3, 0, none⟩), .pointer (some ⟨g15, 0, none⟩), .int .i64 2, .bool false] .nil (by kernel_rfl) (fun b209 => ?_)
    refine thn_n ?_
    refine WP.condF rfl ?_
    refine WP.skip ?_
    refine thn_n ?_
    refine WP.seq ?_
    refine WP.region _ rfl (by kernel_rfl) ?_
    refine OPS.batch 3 {} [.agg #[.string ⟨#[103, 101, 116]⟩, .bool true, .bool false, .bool true, .bool false, .bool false, .bool false]] [0, 2, 4, 6, 25] [.string line, .pointer (some ⟨g3, 0, none⟩), .pointer (some ⟨g15, 0, none⟩), .int .i64 2, .agg #[.string ⟨#[103, 101, 116]⟩, .bool true, .bool false, .bool true, .bool false, .bool false, .bool false]] (.cons (show InB (2) (17) from ⟨by omega, by omega⟩) (.cons (show Ld Tryd.prog w35 56 ⟨0, 14, none⟩ (.agg #[.string ⟨#[103, 101, 116]⟩, .bool true, .bool false, .bool true, .bool false, .bool false, .bool false]) from Ld.rowN (cs := [.string ⟨#[103, 101, 116]⟩, .bool true, .bool false, .bool true, .bool false, .bool false, .bool false]) (row_at hls.tab hp37.fr) (by kernel_rfl)) .nil)) (by kernel_rfl) (fun b210 => ?_)
    refine OPS.cons (opStep.alloc hp37 [.string ByteArray.empty, .bool false, .bool false, .bool false, .bool false, .bool false, .bool false] (by kernel_rfl) (fun g213 w211 hp212 => ?_))
    refine OPS.cons (opStep.store0 hp212 rfl [.string ⟨#[103, 101, 116]⟩, .bool true, .bool false, .bool true, .bool false, .bool false, .bool false] [.string ⟨#[103, 101, 116]⟩, .bool true, .bool false, .bool true, .bool false, .bool false, .bool false] (by kernel_rfl) (fun w214 hp215 => ?_))
    refine OPS.nil ?_
    refine thn_n ?_
    refine WP.seq ?_
    refine WP.region _ rfl (by kernel_rfl) ?_
    refine OPS.batch 2 {} [] [0, 2, 4, 7, 27] [.string line, .pointer (some ⟨g3, 0, none⟩), .pointer (some ⟨g15, 0, none⟩), .pointer (some ⟨g213, 0, none⟩), .agg #[.int .i64 2, .int .i64 0, .int .i64 0, .string ByteArray.empty, .slice none 0 0, .slice none 0 0]] .nil (by kernel_rfl) (fun b216 => ?_)
    refine OPS.cons (opStep.alloc hp215 [.int .i64 0, .int .i64 0, .int .i64 0, .string ByteArray.empty, .slice none 0 0, .slice none 0 0] (by kernel_rfl) (fun g219 w217 hp218 => ?_))
    refine OPS.cons (opStep.store0 hp218 rfl [.int .i64 2, .int .i64 0, .int .i64 0, .string ByteArray.empty, .slice none 0 0, .slice none 0 0] [.int .i64 2, .int .i64 0, .int .i64 0, .string ByteArray.empty, .slice none 0 0, .slice none 0 0] (by kernel_rfl) (fun w220 hp221 => ?_))
    refine OPS.nil ?_
    refine thn_n ?_
    refine WP.seq ?_
    refine WP.seq ?_
    refine WP.pure {} [.bool true] [0, 2, 4, 7, 8, 29] [.string line, .pointer (some ⟨g3, 0, none⟩), .pointer (some ⟨g15, 0, none⟩), .pointer (some ⟨g213, 0, none⟩), .pointer (some ⟨g219, 0, none⟩), .bool true] (.cons (Ld.row1 (P := Tryd.prog) (t := 4) (o := 1) (v := .bool true) hp221.get1 (by kernel_rfl)) .nil) (by kernel_rfl) (fun b222 => ?_)
    refine thn_n ?_
    refine WP.condT rfl ?_
    refine WP.region _ rfl (by kernel_rfl) ?_
    refine OPS.batch 1 {} [] [0, 2, 4, 7, 8, 30] [.string line, .pointer (some ⟨g3, 0, none⟩), .pointer (some ⟨g15, 0, none⟩), .pointer (some ⟨g213, 0, none⟩), .pointer (some ⟨g219, 0, none⟩), .pointer (some ⟨g15, 0, none⟩)] .nil (by kernel_rfl) (fun b223 => ?_)
    have hp226 := hp221.pull4
    have hp227 := hp226.pull4
    refine OPS.cons (opStep.call (some 31) [.pointer (some ⟨g15, 0, none⟩)] (by kernel_rfl) (w_number _ _ g15 g10 h24 ((wordsB line).tail) (false || (wordsB line).isEmpty) _ hl (tail_size hsz) hp227) ?_)
    rintro _ w228 ⟨h230, v231, bd232_, rfl, hn233, hp229⟩
    refine ⟨_, rfl, ?_⟩
    have hn233a := hn233.rng.1
    have hn233b := hn233.rng.2
    have hn233z := itoaT_size hn233a hn233b
    refine OPS.batch 1 {} [] [0, 2, 4, 7, 8, 31, 32] [.string line, .pointer (some ⟨g3, 0, none⟩), .pointer (some ⟨g15, 0, none⟩), .pointer (some ⟨g213, 0, none⟩), .pointer (some ⟨g219, 0, none⟩), .int .i64 v231, .pointer (some ⟨g219, 1, none⟩)] .nil (by kernel_rfl) (fun b234 => ?_)
    refine OPS.cons (opStep.store2 hp229 rfl [.int .i64 v231] [.int .i64 2, .int .i64 v231, .int .i64 0, .string ByteArray.empty, .slice none 0 0, .slice none 0 0] (by kernel_rfl) (fun w235 hp236 => ?_))
    refine OPS.nil ?_
    refine thn_n ?_
    refine WP.seq ?_
    refine WP.seq ?_
    refine WP.pure {} [.bool false] [0, 2, 4, 7, 8, 34] [.string line, .pointer (some ⟨g3, 0, none⟩), .pointer (some ⟨g15, 0, none⟩), .pointer (some ⟨g213, 0, none⟩), .pointer (some ⟨g219, 0, none⟩), .bool false] (.cons (Ld.row1 (P := Tryd.prog) (t := 4) (o := 2) (v := .bool false) hp236.get3 (by kernel_rfl)) .nil) (by kernel_rfl) (fun b237 => ?_)
    refine thn_n ?_
    refine WP.condF rfl ?_
    refine WP.skip ?_
    refine thn_n ?_
    refine WP.seq ?_
    refine WP.seq ?_
    refine WP.pure {} [.bool true] [0, 2, 4, 7, 8, 39] [.string line, .pointer (some ⟨g3, 0, none⟩), .pointer (some ⟨g15, 0, none⟩), .pointer (some ⟨g213, 0, none⟩), .pointer (some ⟨g219, 0, none⟩), .bool true] (.cons (Ld.row1 (P := Tryd.prog) (t := 4) (o := 3) (v := .bool true) hp236.get3 (by kernel_rfl)) .nil) (by kernel_rfl) (fun b238 => ?_)
    refine thn_n ?_
    refine WP.condT rfl ?_
    refine WP.region _ rfl (by kernel_rfl) ?_
    refine OPS.batch 1 {} [] [0, 2, 4, 7, 8, 40] [.string line, .pointer (some ⟨g3, 0, none⟩), .pointer (some ⟨g15, 0, none⟩), .pointer (some ⟨g213, 0, none⟩), .pointer (some ⟨g219, 0, none⟩), .pointer (some ⟨g15, 0, none⟩)] .nil (by kernel_rfl) (fun b239 => ?_)
    have hp242 := hp236.pull1
    have hp243 := hp242.pull1
    refine OPS.cons (opStep.call (some 41) [.pointer (some ⟨g15, 0, none⟩)] (by kernel_rfl) (w_bytes _ _ g15 g10 h230 (((wordsB line).tail).tail) bd232_ _ (tail_size (tail_size hsy)) hp243) ?_)
    rintro _ w244 ⟨h246, v247, bd248_, rfl, hn249, hp245⟩
    refine ⟨_, rfl, ?_⟩
    refine OPS.batch 1 {} [] [0, 2, 4, 7, 8, 41, 42] [.string line, .pointer (some ⟨g3, 0, none⟩), .pointer (some ⟨g15, 0, none⟩), .pointer (some ⟨g213, 0, none⟩), .pointer (some ⟨g219, 0, none⟩), .string v247, .pointer (some ⟨g219, 3, none⟩)] .nil (by kernel_rfl) (fun b250 => ?_)
    refine OPS.cons (opStep.store2 hp245 rfl [.string v247] [.int .i64 2, .int .i64 v231, .int .i64 0, .string v247, .slice none 0 0, .slice none 0 0] (by kernel_rfl) (fun w251 hp252 => ?_))
    refine OPS.nil ?_
    refine thn_n ?_
    refine WP.seq ?_
    refine WP.seq ?_
    refine WP.pure {} [.bool false] [0, 2, 4, 8, 44] [.string line, .pointer (some ⟨g3, 0, none⟩), .pointer (some ⟨g15, 0, none⟩), .pointer (some ⟨g219, 0, none⟩), .bool false] (.cons (Ld.row1 (P := Tryd.prog) (t := 4) (o := 4) (v := .bool false) hp252.get3 (by kernel_rfl)) .nil) (by kernel_rfl) (fun b253 => ?_)
    refine thn_n ?_
    refine WP.condF rfl ?_
    refine WP.skip ?_
    refine thn_n ?_
    refine WP.seq ?_
    refine WP.block ?_
    have hp254 := (show Hp w Non [Res.own 3 1 (.slice none 0 0) 0 (List.flatMap i64c ([] : List Int)), Res.row g15 [.slice h246.a h246.n h246.c, .bool bd248_] 75, Res.lst g10 h246 ((((wordsB line).tail).tail).tail), Res.row g219 [.int .i64 2, .int .i64 v231, .int .i64 0, .string v247, .slice none 0 0, .slice none 0 0] 31, Res.row g213 [.string ⟨#[103, 101, 116]⟩, .bool true, .bool false, .bool true, .bool false, .bool false, .bool false] 56, Res.row g27 [.string ((wordsB line).headD ByteArray.empty)] 9, Res.row g3 [.int .i64 0, .int .i64 0, .int .i64 0, .string ByteArray.empty, .slice none 0 0, .slice none 0 0] 31] w251 from hp252.nilOwn 3 1)
    refine WP.loop (fun mz_ e255 w256 => ∃ (wz : List ByteArray) (hz : SlH) (bz : Bool) (ls : List Int) (ao : Option Addr) (no : Nat) (co : Nat), mz_ = wz.length ∧ (wz = List.drop ls.length ((((wordsB line).tail).tail).tail) ∧ ls.length ≤ (wordsB line).length ∧ RnI bd248_ ((((wordsB line).tail).tail).tail) ls bz ∧ (∀ x ∈ wz, x.size ≤ 281474976710656)) ∧ List.map e255 [0, 2, 4, 8] = [.string line, .pointer (some ⟨g3, 0, none⟩), .pointer (some ⟨g15, 0, none⟩), .pointer (some ⟨g219, 0, none⟩)] ∧ Hp w Non [Res.own 3 1 (.slice ao no co) no (List.flatMap i64c ls), Res.row g15 [.slice hz.a hz.n hz.c, .bool bz] 75, Res.lst g10 hz wz, Res.row g219 [.int .i64 2, .int .i64 v231, .int .i64 0, .string v247, .slice none 0 0, .slice ao no co] 31, Res.row g213 [.string ⟨#[103, 101, 116]⟩, .bool true, .bool false, .bool true, .bool false, .bool false, .bool false] 56, Res.row g27 [.string ((wordsB line).headD ByteArray.empty)] 9, Res.row g3 [.int .i64 0, .int .i64 0, .int .i64 0, .string ByteArray.empty, .slice none 0 0, .slice none 0 0] 31] w256) (((((wordsB line).tail).tail).tail).length) ⟨(((wordsB line).tail).tail).tail, h246, bd248_, [], none, 0, 0, rfl, ⟨rfl, Nat.zero_le _, rn_start _ _, (tail_size (tail_size (tail_size hsz)))⟩, by kernel_rfl, hp254⟩ ?_
    rintro _ e255 w256 ⟨wz, hz, bz, ls, ao, no, co, rfl, hI258, hE259, hp257⟩
    obtain ⟨b260, rfl⟩ := toMk hE259
    clear hE259
    obtain ⟨pa, pb, hrn, hsw⟩ := hI258
    have hlz := lst_len hp257.get2
    have hsz := hsw
    have pe := own_flat (f := i64c) (sz := 1) (fun _ => rfl) (by decide) hp257.get0
    have hdl := congrArg List.length pa
    rw [List.length_drop] at hdl
    have hw4 : ((((wordsB line).tail).tail).tail).length ≤ (wordsB line).length := by simp only [List.length_tail]; omega
    refine WP.seq ?_
    refine WP.seq ?_
    refine WP.pure {} [.slice hz.a hz.n hz.c] [0, 2, 4, 8, 54] [.string line, .pointer (some ⟨g3, 0, none⟩), .pointer (some ⟨g15, 0, none⟩), .pointer (some ⟨g219, 0, none⟩), .bool (decide (0 < ((hz.n : Nat) : Int)))] (.cons (Ld.row1 (P := Tryd.prog) (t := 36) (o := 0) (v := .slice hz.a hz.n hz.c) hp257.get1 (by kernel_rfl)) .nil) (by kernel_rfl) (fun b261 => ?_)
    refine thn_n ?_
    refine WP.test (p := 0 < ((hz.n : Nat) : Int)) rfl Bp.dec (fun h262 => ?_) (fun h262 => ?_)
    · refine WP.skip ?_
      refine thn_n ?_
      refine WP.block ?_
      have hp263 := hp257.drew
      refine WP.held (fun w264 => Ld Tryd.prog w264 29 ⟨g219, 5, none⟩ (.slice ao no co) ∧ True) [7] [(0, true), (1, true), (2, true), (3, false), (4, false), (5, false), (6, true), (7, false)] (np_blk (np_thn (np_blk (np_thn np_body)))) (by kernel_rfl) ?_
      refine HOPS.take 3 {} [.slice ao no co] [0, 2, 4, 8, 56, 57] [.string line, .pointer (some ⟨g3, 0, none⟩), .pointer (some ⟨g15, 0, none⟩), .pointer (some ⟨g219, 0, none⟩), .slice ao no co, .pointer (some ⟨g15, 0, none⟩)] (by kernel_rfl) ⟨(show Ld Tryd.prog w256.drew 29 ⟨g219, 5, none⟩ (.slice ao no co) from (Ld.row1 (P := Tryd.prog) (t := 29) (o := 5) (v := .slice ao no co) hp263.get3 (by kernel_rfl))), trivial⟩ (fun w265 hS266 => QB.mk (.cons (hS266.1) .nil) (by kernel_rfl)) (fun b267 => ?_)
      have hp270 := hp263.pull2
      have hp271 := hp270.pull2
      refine HOPS.eff _ rfl (opStep.call (some 58) [.pointer (some ⟨g15, 0, none⟩)] (by kernel_rfl) (w_number _ _ g15 g10 hz wz bz _ hl hsz hp271) ?_)
      rintro _ w272 ⟨h274, v275, bd276_, rfl, hn277, hp273⟩
      refine ⟨_, rfl, ?_⟩
      have hn277a := hn277.rng.1
      have hn277b := hn277.rng.2
      have hn277z := itoaT_size hn277a hn277b
      refine ⟨.inr ⟨(show Ld Tryd.prog w272 29 ⟨g219, 5, none⟩ (.slice ao no co) from (Ld.row1 (P := Tryd.prog) (t := 29) (o := 5) (v := .slice ao no co) hp273.get3 (by kernel_rfl))), trivial⟩, ?_⟩
      refine HOPS.eff _ rfl (opStep.buildSlice (E := 3) hp273 [.int .i64 v275] (by kernel_rfl) (fun g280 w278 hp279 => ?_))
      refine ⟨.inr ⟨(show Ld Tryd.prog w278 29 ⟨g219, 5, none⟩ (.slice ao no co) from (Ld.row1 (P := Tryd.prog) (t := 29) (o := 5) (v := .slice ao no co) hp279.get4 (by kernel_rfl))), trivial⟩, ?_⟩
      refine HOPS.eff _ rfl (opStep.append3 [.int .i64 v275] hp279 8 (by kernel_rfl) rfl rfl rfl (SlR.row (n := 1) hp279.get0 rfl).rd (List.all_eq_true.1 (by kernel_rfl)) (by decide) (by omega) (by omega) (fun a283 c284 w285 hp286 hn287 => ?_))
      rw [(show List.flatMap i64c ls ++ [.int .i64 v275] = List.flatMap i64c (ls ++ [v275]) from (List.flatMap_append (xs := ls) (ys := [v275])).symm)] at hp286
      refine ⟨.inr ⟨(show Ld Tryd.prog w285 29 ⟨g219, 5, none⟩ (.slice ao no co) from (Ld.row1 (P := Tryd.prog) (t := 29) (o := 5) (v := .slice ao no co) hp286.get4 (by kernel_rfl))), trivial⟩, ?_⟩
      refine HOPS.take 1 {} [] [0, 2, 4, 8, 60, 61] [.string line, .pointer (some ⟨g3, 0, none⟩), .pointer (some ⟨g15, 0, none⟩), .pointer (some ⟨g219, 0, none⟩), .slice a283 (no + 1) c284, .pointer (some ⟨g219, 5, none⟩)] (by kernel_rfl) ⟨(show Ld Tryd.prog w285 29 ⟨g219, 5, none⟩ (.slice ao no co) from (Ld.row1 (P := Tryd.prog) (t := 29) (o := 5) (v := .slice ao no co) hp286.get4 (by kernel_rfl))), trivial⟩ (fun w288 hS289 => QB.mk .nil (by kernel_rfl)) (fun b290 => ?_)
      refine HOPS.eff _ rfl (opStep.store4 hp286 rfl [.slice a283 (no + 1) c284] [.int .i64 2, .int .i64 v231, .int .i64 0, .string v247, .slice none 0 0, .slice a283 (no + 1) c284] (by kernel_rfl) (fun w291 hp292 => ?_))
      refine ⟨.inl rfl, ?_⟩
      refine HOPS.nil ?_
      refine blk_n ?_
      refine thn_n ?_
      exact ⟨(wz.tail).length, (by rw [List.length_tail]; omega), wz.tail, h274, bd276_, ls ++ [v275], a283, no + 1, c284, rfl, ⟨by rw [List.length_append, List.length_singleton, ← List.drop_drop, ← pa, List.drop_one], by rw [List.length_append, List.length_singleton]; omega, rn_step hrn pa hn277 (by omega), tail_size hsw⟩, by kernel_rfl, ((((((((hp292.pull7).pull7).pull7).pull7).pull6).pull6).pull7).sub (.cons_cons _ (.cons_cons _ (.cons_cons _ (.cons_cons _ (.cons_cons _ (.cons_cons _ (.cons_cons _ (.cons _ (.slnil))))))))))⟩
    · refine WP.exit ?_
      refine thn_x ?_
      refine thn_x ?_
      refine blk_hit ?_
      refine thn_n ?_
      refine WP.seq ?_
      refine WP.region _ rfl (by kernel_rfl) ?_
      refine OPS.batch 1 {} [.agg #[.int .i64 2, .int .i64 v231, .int .i64 0, .string v247, .slice none 0 0, .slice ao no co]] [0, 2, 4, 8, 63] [.string line, .pointer (some ⟨g3, 0, none⟩), .pointer (some ⟨g15, 0, none⟩), .pointer (some ⟨g219, 0, none⟩), .agg #[.int .i64 2, .int .i64 v231, .int .i64 0, .string v247, .slice none 0 0, .slice ao no co]] (.cons (show Ld Tryd.prog w256 31 ⟨g219, 0, none⟩ (.agg #[.int .i64 2, .int .i64 v231, .int .i64 0, .string v247, .slice none 0 0, .slice ao no co]) from Ld.rowN (cs := [.int .i64 2, .int .i64 v231, .int .i64 0, .string v247, .slice none 0 0, .slice ao no co]) hp257.get3 (by kernel_rfl)) .nil) (by kernel_rfl) (fun b293 => ?_)
      obtain ⟨xx, hxx⟩ : ∃ z : StepP, z = ⟨2, v231, 0, v247, (⟨#[]⟩ : ByteArray), ls⟩ := ⟨_, rfl⟩
      have hsm : smS xx := by rw [hxx]; exact ⟨⟨hn233.rng, in0, hrn.1⟩, (Nat.le_trans (Nat.le_trans hn249.le (head_size (tail_size (tail_size hsl)))) hline), (by simp only; decide), by simp only; omega⟩
      refine OPS.cons (opStep.call (some 64) [.agg #[.int .i64 2, .int .i64 v231, .int .i64 0, .string v247, .slice none 0 0, .slice ao no co]] (by kernel_rfl) (sc_Line (⟨2, v231, 0, v247, ⟨none, 0, 0⟩, ⟨ao, no, co⟩⟩ : GStep) xx _ (hls.fram hp257.fr) (by rw [hxx]; exact (StR.of rfl rfl rfl rfl (⟨rfl, slr_nil0 _⟩) (own_flat (f := i64c) (sz := 1) (fun _ => rfl) (by decide) hp257.get0).symm (SlR.own hp257.get0))) hsm) ?_)
      rintro _ w296 ⟨rfl, hf297⟩
      refine ⟨_, rfl, ?_⟩
      have hp298 := hp257.step hf297
      refine OPS.batch 5 {} [] [0, 2, 4, 8, 9, 10] [.string line, .pointer (some ⟨g3, 0, none⟩), .pointer (some ⟨g15, 0, none⟩), .pointer (some ⟨g219, 0, none⟩), .string (lineV xx), .int .i64 (chkI xx)] .nil (by kernel_rfl) (fun b299 => ?_)
      refine OPS.nil ?_
      refine thn_n ?_
      refine WP.cut (fun e341 w342 => ∃ (x339 : Bool), (True) ∧ Bp x339 ((¬ (bz = true)) ∧ ((chkI xx) = 0) ∧ ((lineV xx) = line)) ∧ List.map e341 [2, 3] = [.pointer (some ⟨g3, 0, none⟩), .bool x339] ∧ Hp w Non [Res.own 3 1 (.slice ao no co) no (List.flatMap i64c ls), Res.row g15 [.slice hz.a hz.n hz.c, .bool bz] 75, Res.lst g10 hz wz, Res.row g219 [.int .i64 2, .int .i64 v231, .int .i64 0, .string v247, .slice none 0 0, .slice ao no co] 31, Res.row g213 [.string ⟨#[103, 101, 116]⟩, .bool true, .bool false, .bool true, .bool false, .bool false, .bool false] 56, Res.row g27 [.string ((wordsB line).headD ByteArray.empty)] 9, Res.row g3 [.int .i64 2, .int .i64 v231, .int .i64 0, .string v247, .slice none 0 0, .slice ao no co] 31] w342) ?_ ?_
      · have hp301 := hp298.drew
        refine WP.held (fun w302 => Ld Tryd.prog w302 31 ⟨g219, 0, none⟩ (.agg #[.int .i64 2, .int .i64 v231, .int .i64 0, .string v247, .slice none 0 0, .slice ao no co]) ∧ Ld Tryd.prog w302 4 ⟨g15, 1, none⟩ (.bool bz) ∧ True) [] [(0, true), (1, true), (2, true), (3, true), (4, true), (5, true), (6, true), (7, true), (8, true), (9, true), (10, true), (11, true), (12, true), (13, true), (14, true), (15, false), (16, true)] (np_thn np_body) (by kernel_rfl) ?_
        refine HOPS.take 7 {} [.agg #[.int .i64 2, .int .i64 v231, .int .i64 0, .string v247, .slice none 0 0, .slice ao no co], .bool bz] [0, 2, 9, 10, 67, 73] [.string line, .pointer (some ⟨g3, 0, none⟩), .string (lineV xx), .int .i64 (chkI xx), .agg #[.int .i64 2, .int .i64 v231, .int .i64 0, .string v247, .slice none 0 0, .slice ao no co], .bool (!bz)] (by kernel_rfl) ⟨(show Ld Tryd.prog w296.drew 31 ⟨g219, 0, none⟩ (.agg #[.int .i64 2, .int .i64 v231, .int .i64 0, .string v247, .slice none 0 0, .slice ao no co]) from Ld.rowN (cs := [.int .i64 2, .int .i64 v231, .int .i64 0, .string v247, .slice none 0 0, .slice ao no co]) hp301.get3 (by kernel_rfl)), (show Ld Tryd.prog w296.drew 4 ⟨g15, 1, none⟩ (.bool bz) from (Ld.row1 (P := Tryd.prog) (t := 4) (o := 1) (v := .bool bz) hp301.get1 (by kernel_rfl))), trivial⟩ (fun w303 hS304 => QB.mk (.cons (hS304.1) (.cons (hS304.2.1) .nil)) (by kernel_rfl)) (fun b305 => ?_)
        by_cases h306 : bz = true
        · refine HOPS.take 0 {} [] [0, 2, 9, 10, 67, 73] [.string line, .pointer (some ⟨g3, 0, none⟩), .string (lineV xx), .int .i64 (chkI xx), .agg #[.int .i64 2, .int .i64 v231, .int .i64 0, .string v247, .slice none 0 0, .slice ao no co], .bool (!bz)] (by kernel_rfl) ⟨(show Ld Tryd.prog w296.drew 31 ⟨g219, 0, none⟩ (.agg #[.int .i64 2, .int .i64 v231, .int .i64 0, .string v247, .slice none 0 0, .slice ao no co]) from Ld.rowN (cs := [.int .i64 2, .int .i64 v231, .int .i64 0, .string v247, .slice none 0 0, .slice ao no co]) hp301.get3 (by kernel_rfl)), (show Ld Tryd.prog w296.drew 4 ⟨g15, 1, none⟩ (.bool bz) from (Ld.row1 (P := Tryd.prog) (t := 4) (o := 1) (v := .bool bz) hp301.get1 (by kernel_rfl))), trivial⟩ (fun _ _ => QB.mk .nil (by kernel_rfl)) (fun b330 => ?_)
          refine HOPS.re [.string line, .pointer (some ⟨g3, 0, none⟩), .string (lineV xx), .int .i64 (chkI xx), .agg #[.int .i64 2, .int .i64 v231, .int .i64 0, .string v247, .slice none 0 0, .slice ao no co], .bool false] (by rw [show (!bz) = false from (Bp.not Bp.var).ff (fun k => k h306)]) ?_
          refine HOPS.take 8 { wraps := [76, 81] } [] [2, 67, 81] [.pointer (some ⟨g3, 0, none⟩), .agg #[.int .i64 2, .int .i64 v231, .int .i64 0, .string v247, .slice none 0 0, .slice ao no co], .bool false] (by kernel_rfl) ⟨(show Ld Tryd.prog w296.drew 31 ⟨g219, 0, none⟩ (.agg #[.int .i64 2, .int .i64 v231, .int .i64 0, .string v247, .slice none 0 0, .slice ao no co]) from Ld.rowN (cs := [.int .i64 2, .int .i64 v231, .int .i64 0, .string v247, .slice none 0 0, .slice ao no co]) hp301.get3 (by kernel_rfl)), (show Ld Tryd.prog w296.drew 4 ⟨g15, 1, none⟩ (.bool bz) from (Ld.row1 (P := Tryd.prog) (t := 4) (o := 1) (v := .bool bz) hp301.get1 (by kernel_rfl))), trivial⟩ (fun w331 hS332 => QB.mk .nil (by kernel_rfl)) (fun b333 => ?_)
          refine HOPS.eff _ rfl (opStep.store6 hp301 rfl [.int .i64 2, .int .i64 v231, .int .i64 0, .string v247, .slice none 0 0, .slice ao no co] [.int .i64 2, .int .i64 v231, .int .i64 0, .string v247, .slice none 0 0, .slice ao no co] (by kernel_rfl) (fun w334 hp335 => ?_))
          refine ⟨.inr ⟨(show Ld Tryd.prog w334 31 ⟨g219, 0, none⟩ (.agg #[.int .i64 2, .int .i64 v231, .int .i64 0, .string v247, .slice none 0 0, .slice ao no co]) from Ld.rowN (cs := [.int .i64 2, .int .i64 v231, .int .i64 0, .string v247, .slice none 0 0, .slice ao no co]) hp335.get3 (by kernel_rfl)), (show Ld Tryd.prog w334 4 ⟨g15, 1, none⟩ (.bool bz) from (Ld.row1 (P := Tryd.prog) (t := 4) (o := 1) (v := .bool bz) hp335.get1 (by kernel_rfl))), trivial⟩, ?_⟩
          refine HOPS.take 1 {} [] [2, 3] [.pointer (some ⟨g3, 0, none⟩), .bool false] (by kernel_rfl) ⟨(show Ld Tryd.prog w334 31 ⟨g219, 0, none⟩ (.agg #[.int .i64 2, .int .i64 v231, .int .i64 0, .string v247, .slice none 0 0, .slice ao no co]) from Ld.rowN (cs := [.int .i64 2, .int .i64 v231, .int .i64 0, .string v247, .slice none 0 0, .slice ao no co]) hp335.get3 (by kernel_rfl)), (show Ld Tryd.prog w334 4 ⟨g15, 1, none⟩ (.bool bz) from (Ld.row1 (P := Tryd.prog) (t := 4) (o := 1) (v := .bool bz) hp335.get1 (by kernel_rfl))), trivial⟩ (fun w336 hS337 => QB.mk .nil (by kernel_rfl)) (fun b338 => ?_)
          refine HOPS.nil ?_
          refine thn_n ?_
          exact ⟨false, trivial, Bp.of Bp.f (by first | (simp only [h306, iff_false, false_iff, iff_true, true_iff, Classical.not_not, and_true, true_and, and_false, false_and, or_true, true_or, or_false, false_or, not_true_eq_false, not_false_eq_true, and_self, or_self, iff_self]; done) | (simp [h306]; done) | grind | (simp_all; done)), by kernel_rfl, hp335⟩
        · refine HOPS.take 0 {} [] [0, 2, 9, 10, 67, 73] [.string line, .pointer (some ⟨g3, 0, none⟩), .string (lineV xx), .int .i64 (chkI xx), .agg #[.int .i64 2, .int .i64 v231, .int .i64 0, .string v247, .slice none 0 0, .slice ao no co], .bool (!bz)] (by kernel_rfl) ⟨(show Ld Tryd.prog w296.drew 31 ⟨g219, 0, none⟩ (.agg #[.int .i64 2, .int .i64 v231, .int .i64 0, .string v247, .slice none 0 0, .slice ao no co]) from Ld.rowN (cs := [.int .i64 2, .int .i64 v231, .int .i64 0, .string v247, .slice none 0 0, .slice ao no co]) hp301.get3 (by kernel_rfl)), (show Ld Tryd.prog w296.drew 4 ⟨g15, 1, none⟩ (.bool bz) from (Ld.row1 (P := Tryd.prog) (t := 4) (o := 1) (v := .bool bz) hp301.get1 (by kernel_rfl))), trivial⟩ (fun _ _ => QB.mk .nil (by kernel_rfl)) (fun b307 => ?_)
          refine HOPS.re [.string line, .pointer (some ⟨g3, 0, none⟩), .string (lineV xx), .int .i64 (chkI xx), .agg #[.int .i64 2, .int .i64 v231, .int .i64 0, .string v247, .slice none 0 0, .slice ao no co], .bool true] (by rw [show (!bz) = true from (Bp.not Bp.var).tt h306]) ?_
          refine HOPS.take 4 { wraps := [76] } [] [0, 2, 9, 67, 77] [.string line, .pointer (some ⟨g3, 0, none⟩), .string (lineV xx), .agg #[.int .i64 2, .int .i64 v231, .int .i64 0, .string v247, .slice none 0 0, .slice ao no co], .bool (decide ((chkI xx) = 0))] (by kernel_rfl) ⟨(show Ld Tryd.prog w296.drew 31 ⟨g219, 0, none⟩ (.agg #[.int .i64 2, .int .i64 v231, .int .i64 0, .string v247, .slice none 0 0, .slice ao no co]) from Ld.rowN (cs := [.int .i64 2, .int .i64 v231, .int .i64 0, .string v247, .slice none 0 0, .slice ao no co]) hp301.get3 (by kernel_rfl)), (show Ld Tryd.prog w296.drew 4 ⟨g15, 1, none⟩ (.bool bz) from (Ld.row1 (P := Tryd.prog) (t := 4) (o := 1) (v := .bool bz) hp301.get1 (by kernel_rfl))), trivial⟩ (fun w308 hS309 => QB.mk .nil (by kernel_rfl)) (fun b310 => ?_)
          by_cases h311 : (chkI xx) = 0
          · refine HOPS.take 0 {} [] [0, 2, 9, 67, 77] [.string line, .pointer (some ⟨g3, 0, none⟩), .string (lineV xx), .agg #[.int .i64 2, .int .i64 v231, .int .i64 0, .string v247, .slice none 0 0, .slice ao no co], .bool (decide ((chkI xx) = 0))] (by kernel_rfl) ⟨(show Ld Tryd.prog w296.drew 31 ⟨g219, 0, none⟩ (.agg #[.int .i64 2, .int .i64 v231, .int .i64 0, .string v247, .slice none 0 0, .slice ao no co]) from Ld.rowN (cs := [.int .i64 2, .int .i64 v231, .int .i64 0, .string v247, .slice none 0 0, .slice ao no co]) hp301.get3 (by kernel_rfl)), (show Ld Tryd.prog w296.drew 4 ⟨g15, 1, none⟩ (.bool bz) from (Ld.row1 (P := Tryd.prog) (t := 4) (o := 1) (v := .bool bz) hp301.get1 (by kernel_rfl))), trivial⟩ (fun _ _ => QB.mk .nil (by kernel_rfl)) (fun b312 => ?_)
            refine HOPS.re [.string line, .pointer (some ⟨g3, 0, none⟩), .string (lineV xx), .agg #[.int .i64 2, .int .i64 v231, .int .i64 0, .string v247, .slice none 0 0, .slice ao no co], .bool true] (by rw [show (decide ((chkI xx) = 0)) = true from Bp.dec.tt h311]) ?_
            refine HOPS.take 4 { wraps := [81] } [] [2, 67, 81] [.pointer (some ⟨g3, 0, none⟩), .agg #[.int .i64 2, .int .i64 v231, .int .i64 0, .string v247, .slice none 0 0, .slice ao no co], .bool (decide ((lineV xx) = line))] (by kernel_rfl) ⟨(show Ld Tryd.prog w296.drew 31 ⟨g219, 0, none⟩ (.agg #[.int .i64 2, .int .i64 v231, .int .i64 0, .string v247, .slice none 0 0, .slice ao no co]) from Ld.rowN (cs := [.int .i64 2, .int .i64 v231, .int .i64 0, .string v247, .slice none 0 0, .slice ao no co]) hp301.get3 (by kernel_rfl)), (show Ld Tryd.prog w296.drew 4 ⟨g15, 1, none⟩ (.bool bz) from (Ld.row1 (P := Tryd.prog) (t := 4) (o := 1) (v := .bool bz) hp301.get1 (by kernel_rfl))), trivial⟩ (fun w313 hS314 => QB.mk .nil (by kernel_rfl)) (fun b315 => ?_)
            refine HOPS.eff _ rfl (opStep.store6 hp301 rfl [.int .i64 2, .int .i64 v231, .int .i64 0, .string v247, .slice none 0 0, .slice ao no co] [.int .i64 2, .int .i64 v231, .int .i64 0, .string v247, .slice none 0 0, .slice ao no co] (by kernel_rfl) (fun w316 hp317 => ?_))
            refine ⟨.inr ⟨(show Ld Tryd.prog w316 31 ⟨g219, 0, none⟩ (.agg #[.int .i64 2, .int .i64 v231, .int .i64 0, .string v247, .slice none 0 0, .slice ao no co]) from Ld.rowN (cs := [.int .i64 2, .int .i64 v231, .int .i64 0, .string v247, .slice none 0 0, .slice ao no co]) hp317.get3 (by kernel_rfl)), (show Ld Tryd.prog w316 4 ⟨g15, 1, none⟩ (.bool bz) from (Ld.row1 (P := Tryd.prog) (t := 4) (o := 1) (v := .bool bz) hp317.get1 (by kernel_rfl))), trivial⟩, ?_⟩
            refine HOPS.take 1 {} [] [2, 3] [.pointer (some ⟨g3, 0, none⟩), .bool (decide ((lineV xx) = line))] (by kernel_rfl) ⟨(show Ld Tryd.prog w316 31 ⟨g219, 0, none⟩ (.agg #[.int .i64 2, .int .i64 v231, .int .i64 0, .string v247, .slice none 0 0, .slice ao no co]) from Ld.rowN (cs := [.int .i64 2, .int .i64 v231, .int .i64 0, .string v247, .slice none 0 0, .slice ao no co]) hp317.get3 (by kernel_rfl)), (show Ld Tryd.prog w316 4 ⟨g15, 1, none⟩ (.bool bz) from (Ld.row1 (P := Tryd.prog) (t := 4) (o := 1) (v := .bool bz) hp317.get1 (by kernel_rfl))), trivial⟩ (fun w318 hS319 => QB.mk .nil (by kernel_rfl)) (fun b320 => ?_)
            refine HOPS.nil ?_
            refine thn_n ?_
            exact ⟨decide ((lineV xx) = line), trivial, Bp.of Bp.dec (by first | (simp only [h306, h311, iff_false, false_iff, iff_true, true_iff, Classical.not_not, and_true, true_and, and_false, false_and, or_true, true_or, or_false, false_or, not_true_eq_false, not_false_eq_true, and_self, or_self, iff_self]; done) | (simp [h306, h311]; done) | grind | (simp_all; done)), by kernel_rfl, hp317⟩
          · refine HOPS.take 0 {} [] [0, 2, 9, 67, 77] [.string line, .pointer (some ⟨g3, 0, none⟩), .string (lineV xx), .agg #[.int .i64 2, .int .i64 v231, .int .i64 0, .string v247, .slice none 0 0, .slice ao no co], .bool (decide ((chkI xx) = 0))] (by kernel_rfl) ⟨(show Ld Tryd.prog w296.drew 31 ⟨g219, 0, none⟩ (.agg #[.int .i64 2, .int .i64 v231, .int .i64 0, .string v247, .slice none 0 0, .slice ao no co]) from Ld.rowN (cs := [.int .i64 2, .int .i64 v231, .int .i64 0, .string v247, .slice none 0 0, .slice ao no co]) hp301.get3 (by kernel_rfl)), (show Ld Tryd.prog w296.drew 4 ⟨g15, 1, none⟩ (.bool bz) from (Ld.row1 (P := Tryd.prog) (t := 4) (o := 1) (v := .bool bz) hp301.get1 (by kernel_rfl))), trivial⟩ (fun _ _ => QB.mk .nil (by kernel_rfl)) (fun b321 => ?_)
            refine HOPS.re [.string line, .pointer (some ⟨g3, 0, none⟩), .string (lineV xx), .agg #[.int .i64 2, .int .i64 v231, .int .i64 0, .string v247, .slice none 0 0, .slice ao no co], .bool false] (by rw [show (decide ((chkI xx) = 0)) = false from Bp.dec.ff h311]) ?_
            refine HOPS.take 4 { wraps := [81] } [] [2, 67, 81] [.pointer (some ⟨g3, 0, none⟩), .agg #[.int .i64 2, .int .i64 v231, .int .i64 0, .string v247, .slice none 0 0, .slice ao no co], .bool false] (by kernel_rfl) ⟨(show Ld Tryd.prog w296.drew 31 ⟨g219, 0, none⟩ (.agg #[.int .i64 2, .int .i64 v231, .int .i64 0, .string v247, .slice none 0 0, .slice ao no co]) from Ld.rowN (cs := [.int .i64 2, .int .i64 v231, .int .i64 0, .string v247, .slice none 0 0, .slice ao no co]) hp301.get3 (by kernel_rfl)), (show Ld Tryd.prog w296.drew 4 ⟨g15, 1, none⟩ (.bool bz) from (Ld.row1 (P := Tryd.prog) (t := 4) (o := 1) (v := .bool bz) hp301.get1 (by kernel_rfl))), trivial⟩ (fun w322 hS323 => QB.mk .nil (by kernel_rfl)) (fun b324 => ?_)
            refine HOPS.eff _ rfl (opStep.store6 hp301 rfl [.int .i64 2, .int .i64 v231, .int .i64 0, .string v247, .slice none 0 0, .slice ao no co] [.int .i64 2, .int .i64 v231, .int .i64 0, .string v247, .slice none 0 0, .slice ao no co] (by kernel_rfl) (fun w325 hp326 => ?_))
            refine ⟨.inr ⟨(show Ld Tryd.prog w325 31 ⟨g219, 0, none⟩ (.agg #[.int .i64 2, .int .i64 v231, .int .i64 0, .string v247, .slice none 0 0, .slice ao no co]) from Ld.rowN (cs := [.int .i64 2, .int .i64 v231, .int .i64 0, .string v247, .slice none 0 0, .slice ao no co]) hp326.get3 (by kernel_rfl)), (show Ld Tryd.prog w325 4 ⟨g15, 1, none⟩ (.bool bz) from (Ld.row1 (P := Tryd.prog) (t := 4) (o := 1) (v := .bool bz) hp326.get1 (by kernel_rfl))), trivial⟩, ?_⟩
            refine HOPS.take 1 {} [] [2, 3] [.pointer (some ⟨g3, 0, none⟩), .bool false] (by kernel_rfl) ⟨(show Ld Tryd.prog w325 31 ⟨g219, 0, none⟩ (.agg #[.int .i64 2, .int .i64 v231, .int .i64 0, .string v247, .slice none 0 0, .slice ao no co]) from Ld.rowN (cs := [.int .i64 2, .int .i64 v231, .int .i64 0, .string v247, .slice none 0 0, .slice ao no co]) hp326.get3 (by kernel_rfl)), (show Ld Tryd.prog w325 4 ⟨g15, 1, none⟩ (.bool bz) from (Ld.row1 (P := Tryd.prog) (t := 4) (o := 1) (v := .bool bz) hp326.get1 (by kernel_rfl))), trivial⟩ (fun w327 hS328 => QB.mk .nil (by kernel_rfl)) (fun b329 => ?_)
            refine HOPS.nil ?_
            refine thn_n ?_
            exact ⟨false, trivial, Bp.of Bp.f (by first | (simp only [h306, h311, iff_false, false_iff, iff_true, true_iff, Classical.not_not, and_true, true_and, and_false, false_and, or_true, true_or, or_false, false_or, not_true_eq_false, not_false_eq_true, and_self, or_self, iff_self]; done) | (simp [h306, h311]; done) | grind | (simp_all; done)), by kernel_rfl, hp326⟩
      rintro e341 w342 ⟨x339, hd344, hb340, hE345, hp343⟩
      obtain ⟨b346, rfl⟩ := toMk hE345
      clear hE345
      clear hd344
      refine WP.ret ?_
      refine bodyQ.of _ rfl [.agg #[.int .i64 2, .int .i64 v231, .int .i64 0, .string v247, .slice none 0 0, .slice ao no co], .bool x339] ⟨⟨_, rfl, (show Ld Tryd.prog w342 31 ⟨g3, 0, none⟩ (.agg #[.int .i64 2, .int .i64 v231, .int .i64 0, .string v247, .slice none 0 0, .slice ao no co]) from Ld.rowN (cs := [.int .i64 2, .int .i64 v231, .int .i64 0, .string v247, .slice none 0 0, .slice ao no co]) hp343.get6 (by kernel_rfl))⟩, rfl, trivial⟩ ?_
      have hre := fun y (h1 : okS y) (h2 : inS y) (h3 : y.Kind = 2) (h4 : lineS y = line) => (show _ ∧ xx = y from hxx ▸ read_ok (k := 2) (line := line) rfl rfl (.t rfl ⟨hn233, rfl⟩) (.f rfl ⟨rfl, rfl, rfl⟩) (.t rfl ⟨hn249, rfl⟩) (.f rfl ⟨rfl, rfl, rfl⟩) (rn_end hrn pa (by omega)) h1 h2 h3 h4)
      have hfin := step_fin (P := (¬ (bz = true)) ∧ ((chkI xx) = 0) ∧ ((lineV xx) = line)) hk38 hsm.1 hre (by have q0_ := h262 ; first | grind | (simp_all; done))
      exact ⟨(⟨2, v231, 0, v247, ⟨none, 0, 0⟩, ⟨ao, no, co⟩⟩ : GStep), xx, _, _, rfl, ⟨fun h => hfin.1 (Bp.tr hb340 h), fun h => hfin.2 (Bp.fa hb340 h)⟩, (by rw [hxx]; exact Hp.svMake0 (E := 3) (⟨2, v231, 0, v247, ⟨none, 0, 0⟩, ⟨ao, no, co⟩⟩ : GStep) _ rfl rfl rfl rfl rfl rfl (hp343.sub (.cons_cons _ (.cons _ (.cons _ (.cons _ (.cons _ (.cons _ (.cons _ (.slnil))))))))))⟩
  · rw [hk38]
    refine OPS.batch 1 {} [] [0, 2, 4, 6] [.string line, .pointer (some ⟨g3, 0, none⟩), .pointer (some ⟨g15, 0, none⟩), .int .i64 9] .nil (by kernel_rfl) (fun b347 => ?_)
    refine OPS.nil ?_
    refine thn_n ?_
    refine WP.seq ?_
    refine WP.seq ?_
    refine WP.pure {} [] [0, 2, 4, 6, 21] [.string line, .pointer (some ⟨g3, 0, none⟩), .pointer (some ⟨g15, 0, none⟩), .int .i64 9, .bool false] .nil (by kernel_rfl) (fun b348 => ?_)
    refine thn_n ?_
    refine WP.condF rfl ?_
    refine WP.skip ?_
    refine thn_n ?_
    refine WP.seq ?_
    refine WP.region _ rfl (by kernel_rfl) ?_
    refine OPS.batch 3 {} [.agg #[.string ⟨#[98, 117, 114, 115, 116]⟩, .bool true, .bool true, .bool false, .bool false, .bool true, .bool false]] [0, 2, 4, 6, 25] [.string line, .pointer (some ⟨g3, 0, none⟩), .pointer (some ⟨g15, 0, none⟩), .int .i64 9, .agg #[.string ⟨#[98, 117, 114, 115, 116]⟩, .bool true, .bool true, .bool false, .bool false, .bool true, .bool false]] (.cons (show InB (9) (17) from ⟨by omega, by omega⟩) (.cons (show Ld Tryd.prog w35 56 ⟨0, 63, none⟩ (.agg #[.string ⟨#[98, 117, 114, 115, 116]⟩, .bool true, .bool true, .bool false, .bool false, .bool true, .bool false]) from Ld.rowN (cs := [.string ⟨#[98, 117, 114, 115, 116]⟩, .bool true, .bool true, .bool false, .bool false, .bool true, .bool false]) (row_at hls.tab hp37.fr) (by kernel_rfl)) .nil)) (by kernel_rfl) (fun b349 => ?_)
    refine OPS.cons (opStep.alloc hp37 [.string ByteArray.empty, .bool false, .bool false, .bool false, .bool false, .bool false, .bool false] (by kernel_rfl) (fun g352 w350 hp351 => ?_))
    refine OPS.cons (opStep.store0 hp351 rfl [.string ⟨#[98, 117, 114, 115, 116]⟩, .bool true, .bool true, .bool false, .bool false, .bool true, .bool false] [.string ⟨#[98, 117, 114, 115, 116]⟩, .bool true, .bool true, .bool false, .bool false, .bool true, .bool false] (by kernel_rfl) (fun w353 hp354 => ?_))
    refine OPS.nil ?_
    refine thn_n ?_
    refine WP.seq ?_
    refine WP.region _ rfl (by kernel_rfl) ?_
    refine OPS.batch 2 {} [] [0, 2, 4, 7, 27] [.string line, .pointer (some ⟨g3, 0, none⟩), .pointer (some ⟨g15, 0, none⟩), .pointer (some ⟨g352, 0, none⟩), .agg #[.int .i64 9, .int .i64 0, .int .i64 0, .string ByteArray.empty, .slice none 0 0, .slice none 0 0]] .nil (by kernel_rfl) (fun b355 => ?_)
    refine OPS.cons (opStep.alloc hp354 [.int .i64 0, .int .i64 0, .int .i64 0, .string ByteArray.empty, .slice none 0 0, .slice none 0 0] (by kernel_rfl) (fun g358 w356 hp357 => ?_))
    refine OPS.cons (opStep.store0 hp357 rfl [.int .i64 9, .int .i64 0, .int .i64 0, .string ByteArray.empty, .slice none 0 0, .slice none 0 0] [.int .i64 9, .int .i64 0, .int .i64 0, .string ByteArray.empty, .slice none 0 0, .slice none 0 0] (by kernel_rfl) (fun w359 hp360 => ?_))
    refine OPS.nil ?_
    refine thn_n ?_
    refine WP.seq ?_
    refine WP.seq ?_
    refine WP.pure {} [.bool true] [0, 2, 4, 7, 8, 29] [.string line, .pointer (some ⟨g3, 0, none⟩), .pointer (some ⟨g15, 0, none⟩), .pointer (some ⟨g352, 0, none⟩), .pointer (some ⟨g358, 0, none⟩), .bool true] (.cons (Ld.row1 (P := Tryd.prog) (t := 4) (o := 1) (v := .bool true) hp360.get1 (by kernel_rfl)) .nil) (by kernel_rfl) (fun b361 => ?_)
    refine thn_n ?_
    refine WP.condT rfl ?_
    refine WP.region _ rfl (by kernel_rfl) ?_
    refine OPS.batch 1 {} [] [0, 2, 4, 7, 8, 30] [.string line, .pointer (some ⟨g3, 0, none⟩), .pointer (some ⟨g15, 0, none⟩), .pointer (some ⟨g352, 0, none⟩), .pointer (some ⟨g358, 0, none⟩), .pointer (some ⟨g15, 0, none⟩)] .nil (by kernel_rfl) (fun b362 => ?_)
    have hp365 := hp360.pull4
    have hp366 := hp365.pull4
    refine OPS.cons (opStep.call (some 31) [.pointer (some ⟨g15, 0, none⟩)] (by kernel_rfl) (w_number _ _ g15 g10 h24 ((wordsB line).tail) (false || (wordsB line).isEmpty) _ hl (tail_size hsz) hp366) ?_)
    rintro _ w367 ⟨h369, v370, bd371_, rfl, hn372, hp368⟩
    refine ⟨_, rfl, ?_⟩
    have hn372a := hn372.rng.1
    have hn372b := hn372.rng.2
    have hn372z := itoaT_size hn372a hn372b
    refine OPS.batch 1 {} [] [0, 2, 4, 7, 8, 31, 32] [.string line, .pointer (some ⟨g3, 0, none⟩), .pointer (some ⟨g15, 0, none⟩), .pointer (some ⟨g352, 0, none⟩), .pointer (some ⟨g358, 0, none⟩), .int .i64 v370, .pointer (some ⟨g358, 1, none⟩)] .nil (by kernel_rfl) (fun b373 => ?_)
    refine OPS.cons (opStep.store2 hp368 rfl [.int .i64 v370] [.int .i64 9, .int .i64 v370, .int .i64 0, .string ByteArray.empty, .slice none 0 0, .slice none 0 0] (by kernel_rfl) (fun w374 hp375 => ?_))
    refine OPS.nil ?_
    refine thn_n ?_
    refine WP.seq ?_
    refine WP.seq ?_
    refine WP.pure {} [.bool true] [0, 2, 4, 7, 8, 34] [.string line, .pointer (some ⟨g3, 0, none⟩), .pointer (some ⟨g15, 0, none⟩), .pointer (some ⟨g352, 0, none⟩), .pointer (some ⟨g358, 0, none⟩), .bool true] (.cons (Ld.row1 (P := Tryd.prog) (t := 4) (o := 2) (v := .bool true) hp375.get3 (by kernel_rfl)) .nil) (by kernel_rfl) (fun b376 => ?_)
    refine thn_n ?_
    refine WP.condT rfl ?_
    refine WP.region _ rfl (by kernel_rfl) ?_
    refine OPS.batch 1 {} [] [0, 2, 4, 7, 8, 35] [.string line, .pointer (some ⟨g3, 0, none⟩), .pointer (some ⟨g15, 0, none⟩), .pointer (some ⟨g352, 0, none⟩), .pointer (some ⟨g358, 0, none⟩), .pointer (some ⟨g15, 0, none⟩)] .nil (by kernel_rfl) (fun b377 => ?_)
    have hp380 := hp375.pull1
    have hp381 := hp380.pull1
    refine OPS.cons (opStep.call (some 36) [.pointer (some ⟨g15, 0, none⟩)] (by kernel_rfl) (w_number _ _ g15 g10 h369 (((wordsB line).tail).tail) bd371_ _ hl (tail_size (tail_size hsz)) hp381) ?_)
    rintro _ w382 ⟨h384, v385, bd386_, rfl, hn387, hp383⟩
    refine ⟨_, rfl, ?_⟩
    have hn387a := hn387.rng.1
    have hn387b := hn387.rng.2
    have hn387z := itoaT_size hn387a hn387b
    refine OPS.batch 1 {} [] [0, 2, 4, 7, 8, 36, 37] [.string line, .pointer (some ⟨g3, 0, none⟩), .pointer (some ⟨g15, 0, none⟩), .pointer (some ⟨g352, 0, none⟩), .pointer (some ⟨g358, 0, none⟩), .int .i64 v385, .pointer (some ⟨g358, 2, none⟩)] .nil (by kernel_rfl) (fun b388 => ?_)
    refine OPS.cons (opStep.store2 hp383 rfl [.int .i64 v385] [.int .i64 9, .int .i64 v370, .int .i64 v385, .string ByteArray.empty, .slice none 0 0, .slice none 0 0] (by kernel_rfl) (fun w389 hp390 => ?_))
    refine OPS.nil ?_
    refine thn_n ?_
    refine WP.seq ?_
    refine WP.seq ?_
    refine WP.pure {} [.bool false] [0, 2, 4, 7, 8, 39] [.string line, .pointer (some ⟨g3, 0, none⟩), .pointer (some ⟨g15, 0, none⟩), .pointer (some ⟨g352, 0, none⟩), .pointer (some ⟨g358, 0, none⟩), .bool false] (.cons (Ld.row1 (P := Tryd.prog) (t := 4) (o := 3) (v := .bool false) hp390.get3 (by kernel_rfl)) .nil) (by kernel_rfl) (fun b391 => ?_)
    refine thn_n ?_
    refine WP.condF rfl ?_
    refine WP.skip ?_
    refine thn_n ?_
    refine WP.seq ?_
    refine WP.seq ?_
    refine WP.pure {} [.bool false] [0, 2, 4, 8, 44] [.string line, .pointer (some ⟨g3, 0, none⟩), .pointer (some ⟨g15, 0, none⟩), .pointer (some ⟨g358, 0, none⟩), .bool false] (.cons (Ld.row1 (P := Tryd.prog) (t := 4) (o := 4) (v := .bool false) hp390.get3 (by kernel_rfl)) .nil) (by kernel_rfl) (fun b392 => ?_)
    refine thn_n ?_
    refine WP.condF rfl ?_
    refine WP.skip ?_
    refine thn_n ?_
    refine WP.seq ?_
    refine WP.block ?_
    have hp393 := (show Hp w Non [Res.own 3 1 (.slice none 0 0) 0 (List.flatMap i64c ([] : List Int)), Res.row g15 [.slice h384.a h384.n h384.c, .bool bd386_] 75, Res.lst g10 h384 ((((wordsB line).tail).tail).tail), Res.row g358 [.int .i64 9, .int .i64 v370, .int .i64 v385, .string ByteArray.empty, .slice none 0 0, .slice none 0 0] 31, Res.row g352 [.string ⟨#[98, 117, 114, 115, 116]⟩, .bool true, .bool true, .bool false, .bool false, .bool true, .bool false] 56, Res.row g27 [.string ((wordsB line).headD ByteArray.empty)] 9, Res.row g3 [.int .i64 0, .int .i64 0, .int .i64 0, .string ByteArray.empty, .slice none 0 0, .slice none 0 0] 31] w389 from hp390.nilOwn 3 1)
    refine WP.loop (fun mz_ e394 w395 => ∃ (wz : List ByteArray) (hz : SlH) (bz : Bool) (ls : List Int) (ao : Option Addr) (no : Nat) (co : Nat), mz_ = wz.length ∧ (wz = List.drop ls.length ((((wordsB line).tail).tail).tail) ∧ ls.length ≤ (wordsB line).length ∧ RnI bd386_ ((((wordsB line).tail).tail).tail) ls bz ∧ (∀ x ∈ wz, x.size ≤ 281474976710656)) ∧ List.map e394 [0, 2, 4, 8] = [.string line, .pointer (some ⟨g3, 0, none⟩), .pointer (some ⟨g15, 0, none⟩), .pointer (some ⟨g358, 0, none⟩)] ∧ Hp w Non [Res.own 3 1 (.slice ao no co) no (List.flatMap i64c ls), Res.row g15 [.slice hz.a hz.n hz.c, .bool bz] 75, Res.lst g10 hz wz, Res.row g358 [.int .i64 9, .int .i64 v370, .int .i64 v385, .string ByteArray.empty, .slice none 0 0, .slice ao no co] 31, Res.row g352 [.string ⟨#[98, 117, 114, 115, 116]⟩, .bool true, .bool true, .bool false, .bool false, .bool true, .bool false] 56, Res.row g27 [.string ((wordsB line).headD ByteArray.empty)] 9, Res.row g3 [.int .i64 0, .int .i64 0, .int .i64 0, .string ByteArray.empty, .slice none 0 0, .slice none 0 0] 31] w395) (((((wordsB line).tail).tail).tail).length) ⟨(((wordsB line).tail).tail).tail, h384, bd386_, [], none, 0, 0, rfl, ⟨rfl, Nat.zero_le _, rn_start _ _, (tail_size (tail_size (tail_size hsz)))⟩, by kernel_rfl, hp393⟩ ?_
    rintro _ e394 w395 ⟨wz, hz, bz, ls, ao, no, co, rfl, hI397, hE398, hp396⟩
    obtain ⟨b399, rfl⟩ := toMk hE398
    clear hE398
    obtain ⟨pa, pb, hrn, hsw⟩ := hI397
    have hlz := lst_len hp396.get2
    have hsz := hsw
    have pe := own_flat (f := i64c) (sz := 1) (fun _ => rfl) (by decide) hp396.get0
    have hdl := congrArg List.length pa
    rw [List.length_drop] at hdl
    have hw4 : ((((wordsB line).tail).tail).tail).length ≤ (wordsB line).length := by simp only [List.length_tail]; omega
    refine WP.seq ?_
    refine WP.seq ?_
    refine WP.pure {} [.slice hz.a hz.n hz.c] [0, 2, 4, 8, 54] [.string line, .pointer (some ⟨g3, 0, none⟩), .pointer (some ⟨g15, 0, none⟩), .pointer (some ⟨g358, 0, none⟩), .bool (decide (0 < ((hz.n : Nat) : Int)))] (.cons (Ld.row1 (P := Tryd.prog) (t := 36) (o := 0) (v := .slice hz.a hz.n hz.c) hp396.get1 (by kernel_rfl)) .nil) (by kernel_rfl) (fun b400 => ?_)
    refine thn_n ?_
    refine WP.test (p := 0 < ((hz.n : Nat) : Int)) rfl Bp.dec (fun h401 => ?_) (fun h401 => ?_)
    · refine WP.skip ?_
      refine thn_n ?_
      refine WP.block ?_
      have hp402 := hp396.drew
      refine WP.held (fun w403 => Ld Tryd.prog w403 29 ⟨g358, 5, none⟩ (.slice ao no co) ∧ True) [7] [(0, true), (1, true), (2, true), (3, false), (4, false), (5, false), (6, true), (7, false)] (np_blk (np_thn (np_blk (np_thn np_body)))) (by kernel_rfl) ?_
      refine HOPS.take 3 {} [.slice ao no co] [0, 2, 4, 8, 56, 57] [.string line, .pointer (some ⟨g3, 0, none⟩), .pointer (some ⟨g15, 0, none⟩), .pointer (some ⟨g358, 0, none⟩), .slice ao no co, .pointer (some ⟨g15, 0, none⟩)] (by kernel_rfl) ⟨(show Ld Tryd.prog w395.drew 29 ⟨g358, 5, none⟩ (.slice ao no co) from (Ld.row1 (P := Tryd.prog) (t := 29) (o := 5) (v := .slice ao no co) hp402.get3 (by kernel_rfl))), trivial⟩ (fun w404 hS405 => QB.mk (.cons (hS405.1) .nil) (by kernel_rfl)) (fun b406 => ?_)
      have hp409 := hp402.pull2
      have hp410 := hp409.pull2
      refine HOPS.eff _ rfl (opStep.call (some 58) [.pointer (some ⟨g15, 0, none⟩)] (by kernel_rfl) (w_number _ _ g15 g10 hz wz bz _ hl hsz hp410) ?_)
      rintro _ w411 ⟨h413, v414, bd415_, rfl, hn416, hp412⟩
      refine ⟨_, rfl, ?_⟩
      have hn416a := hn416.rng.1
      have hn416b := hn416.rng.2
      have hn416z := itoaT_size hn416a hn416b
      refine ⟨.inr ⟨(show Ld Tryd.prog w411 29 ⟨g358, 5, none⟩ (.slice ao no co) from (Ld.row1 (P := Tryd.prog) (t := 29) (o := 5) (v := .slice ao no co) hp412.get3 (by kernel_rfl))), trivial⟩, ?_⟩
      refine HOPS.eff _ rfl (opStep.buildSlice (E := 3) hp412 [.int .i64 v414] (by kernel_rfl) (fun g419 w417 hp418 => ?_))
      refine ⟨.inr ⟨(show Ld Tryd.prog w417 29 ⟨g358, 5, none⟩ (.slice ao no co) from (Ld.row1 (P := Tryd.prog) (t := 29) (o := 5) (v := .slice ao no co) hp418.get4 (by kernel_rfl))), trivial⟩, ?_⟩
      refine HOPS.eff _ rfl (opStep.append3 [.int .i64 v414] hp418 8 (by kernel_rfl) rfl rfl rfl (SlR.row (n := 1) hp418.get0 rfl).rd (List.all_eq_true.1 (by kernel_rfl)) (by decide) (by omega) (by omega) (fun a422 c423 w424 hp425 hn426 => ?_))
      rw [(show List.flatMap i64c ls ++ [.int .i64 v414] = List.flatMap i64c (ls ++ [v414]) from (List.flatMap_append (xs := ls) (ys := [v414])).symm)] at hp425
      refine ⟨.inr ⟨(show Ld Tryd.prog w424 29 ⟨g358, 5, none⟩ (.slice ao no co) from (Ld.row1 (P := Tryd.prog) (t := 29) (o := 5) (v := .slice ao no co) hp425.get4 (by kernel_rfl))), trivial⟩, ?_⟩
      refine HOPS.take 1 {} [] [0, 2, 4, 8, 60, 61] [.string line, .pointer (some ⟨g3, 0, none⟩), .pointer (some ⟨g15, 0, none⟩), .pointer (some ⟨g358, 0, none⟩), .slice a422 (no + 1) c423, .pointer (some ⟨g358, 5, none⟩)] (by kernel_rfl) ⟨(show Ld Tryd.prog w424 29 ⟨g358, 5, none⟩ (.slice ao no co) from (Ld.row1 (P := Tryd.prog) (t := 29) (o := 5) (v := .slice ao no co) hp425.get4 (by kernel_rfl))), trivial⟩ (fun w427 hS428 => QB.mk .nil (by kernel_rfl)) (fun b429 => ?_)
      refine HOPS.eff _ rfl (opStep.store4 hp425 rfl [.slice a422 (no + 1) c423] [.int .i64 9, .int .i64 v370, .int .i64 v385, .string ByteArray.empty, .slice none 0 0, .slice a422 (no + 1) c423] (by kernel_rfl) (fun w430 hp431 => ?_))
      refine ⟨.inl rfl, ?_⟩
      refine HOPS.nil ?_
      refine blk_n ?_
      refine thn_n ?_
      exact ⟨(wz.tail).length, (by rw [List.length_tail]; omega), wz.tail, h413, bd415_, ls ++ [v414], a422, no + 1, c423, rfl, ⟨by rw [List.length_append, List.length_singleton, ← List.drop_drop, ← pa, List.drop_one], by rw [List.length_append, List.length_singleton]; omega, rn_step hrn pa hn416 (by omega), tail_size hsw⟩, by kernel_rfl, ((((((((hp431.pull7).pull7).pull7).pull7).pull6).pull6).pull7).sub (.cons_cons _ (.cons_cons _ (.cons_cons _ (.cons_cons _ (.cons_cons _ (.cons_cons _ (.cons_cons _ (.cons _ (.slnil))))))))))⟩
    · refine WP.exit ?_
      refine thn_x ?_
      refine thn_x ?_
      refine blk_hit ?_
      refine thn_n ?_
      refine WP.seq ?_
      refine WP.region _ rfl (by kernel_rfl) ?_
      refine OPS.batch 1 {} [.agg #[.int .i64 9, .int .i64 v370, .int .i64 v385, .string ByteArray.empty, .slice none 0 0, .slice ao no co]] [0, 2, 4, 8, 63] [.string line, .pointer (some ⟨g3, 0, none⟩), .pointer (some ⟨g15, 0, none⟩), .pointer (some ⟨g358, 0, none⟩), .agg #[.int .i64 9, .int .i64 v370, .int .i64 v385, .string ByteArray.empty, .slice none 0 0, .slice ao no co]] (.cons (show Ld Tryd.prog w395 31 ⟨g358, 0, none⟩ (.agg #[.int .i64 9, .int .i64 v370, .int .i64 v385, .string ByteArray.empty, .slice none 0 0, .slice ao no co]) from Ld.rowN (cs := [.int .i64 9, .int .i64 v370, .int .i64 v385, .string ByteArray.empty, .slice none 0 0, .slice ao no co]) hp396.get3 (by kernel_rfl)) .nil) (by kernel_rfl) (fun b432 => ?_)
      obtain ⟨xx, hxx⟩ : ∃ z : StepP, z = ⟨9, v370, v385, ByteArray.empty, (⟨#[]⟩ : ByteArray), ls⟩ := ⟨_, rfl⟩
      have hsm : smS xx := by rw [hxx]; exact ⟨⟨hn372.rng, hn387.rng, hrn.1⟩, (by simp only; decide), (by simp only; decide), by simp only; omega⟩
      refine OPS.cons (opStep.call (some 64) [.agg #[.int .i64 9, .int .i64 v370, .int .i64 v385, .string ByteArray.empty, .slice none 0 0, .slice ao no co]] (by kernel_rfl) (sc_Line (⟨9, v370, v385, ByteArray.empty, ⟨none, 0, 0⟩, ⟨ao, no, co⟩⟩ : GStep) xx _ (hls.fram hp396.fr) (by rw [hxx]; exact (StR.of rfl rfl rfl rfl (⟨rfl, slr_nil0 _⟩) (own_flat (f := i64c) (sz := 1) (fun _ => rfl) (by decide) hp396.get0).symm (SlR.own hp396.get0))) hsm) ?_)
      rintro _ w435 ⟨rfl, hf436⟩
      refine ⟨_, rfl, ?_⟩
      have hp437 := hp396.step hf436
      refine OPS.batch 5 {} [] [0, 2, 4, 8, 9, 10] [.string line, .pointer (some ⟨g3, 0, none⟩), .pointer (some ⟨g15, 0, none⟩), .pointer (some ⟨g358, 0, none⟩), .string (lineV xx), .int .i64 (chkI xx)] .nil (by kernel_rfl) (fun b438 => ?_)
      refine OPS.nil ?_
      refine thn_n ?_
      refine WP.cut (fun e480 w481 => ∃ (x478 : Bool), (True) ∧ Bp x478 ((¬ (bz = true)) ∧ ((chkI xx) = 0) ∧ ((lineV xx) = line)) ∧ List.map e480 [2, 3] = [.pointer (some ⟨g3, 0, none⟩), .bool x478] ∧ Hp w Non [Res.own 3 1 (.slice ao no co) no (List.flatMap i64c ls), Res.row g15 [.slice hz.a hz.n hz.c, .bool bz] 75, Res.lst g10 hz wz, Res.row g358 [.int .i64 9, .int .i64 v370, .int .i64 v385, .string ByteArray.empty, .slice none 0 0, .slice ao no co] 31, Res.row g352 [.string ⟨#[98, 117, 114, 115, 116]⟩, .bool true, .bool true, .bool false, .bool false, .bool true, .bool false] 56, Res.row g27 [.string ((wordsB line).headD ByteArray.empty)] 9, Res.row g3 [.int .i64 9, .int .i64 v370, .int .i64 v385, .string ByteArray.empty, .slice none 0 0, .slice ao no co] 31] w481) ?_ ?_
      · have hp440 := hp437.drew
        refine WP.held (fun w441 => Ld Tryd.prog w441 31 ⟨g358, 0, none⟩ (.agg #[.int .i64 9, .int .i64 v370, .int .i64 v385, .string ByteArray.empty, .slice none 0 0, .slice ao no co]) ∧ Ld Tryd.prog w441 4 ⟨g15, 1, none⟩ (.bool bz) ∧ True) [] [(0, true), (1, true), (2, true), (3, true), (4, true), (5, true), (6, true), (7, true), (8, true), (9, true), (10, true), (11, true), (12, true), (13, true), (14, true), (15, false), (16, true)] (np_thn np_body) (by kernel_rfl) ?_
        refine HOPS.take 7 {} [.agg #[.int .i64 9, .int .i64 v370, .int .i64 v385, .string ByteArray.empty, .slice none 0 0, .slice ao no co], .bool bz] [0, 2, 9, 10, 67, 73] [.string line, .pointer (some ⟨g3, 0, none⟩), .string (lineV xx), .int .i64 (chkI xx), .agg #[.int .i64 9, .int .i64 v370, .int .i64 v385, .string ByteArray.empty, .slice none 0 0, .slice ao no co], .bool (!bz)] (by kernel_rfl) ⟨(show Ld Tryd.prog w435.drew 31 ⟨g358, 0, none⟩ (.agg #[.int .i64 9, .int .i64 v370, .int .i64 v385, .string ByteArray.empty, .slice none 0 0, .slice ao no co]) from Ld.rowN (cs := [.int .i64 9, .int .i64 v370, .int .i64 v385, .string ByteArray.empty, .slice none 0 0, .slice ao no co]) hp440.get3 (by kernel_rfl)), (show Ld Tryd.prog w435.drew 4 ⟨g15, 1, none⟩ (.bool bz) from (Ld.row1 (P := Tryd.prog) (t := 4) (o := 1) (v := .bool bz) hp440.get1 (by kernel_rfl))), trivial⟩ (fun w442 hS443 => QB.mk (.cons (hS443.1) (.cons (hS443.2.1) .nil)) (by kernel_rfl)) (fun b444 => ?_)
        by_cases h445 : bz = true
        · refine HOPS.take 0 {} [] [0, 2, 9, 10, 67, 73] [.string line, .pointer (some ⟨g3, 0, none⟩), .string (lineV xx), .int .i64 (chkI xx), .agg #[.int .i64 9, .int .i64 v370, .int .i64 v385, .string ByteArray.empty, .slice none 0 0, .slice ao no co], .bool (!bz)] (by kernel_rfl) ⟨(show Ld Tryd.prog w435.drew 31 ⟨g358, 0, none⟩ (.agg #[.int .i64 9, .int .i64 v370, .int .i64 v385, .string ByteArray.empty, .slice none 0 0, .slice ao no co]) from Ld.rowN (cs := [.int .i64 9, .int .i64 v370, .int .i64 v385, .string ByteArray.empty, .slice none 0 0, .slice ao no co]) hp440.get3 (by kernel_rfl)), (show Ld Tryd.prog w435.drew 4 ⟨g15, 1, none⟩ (.bool bz) from (Ld.row1 (P := Tryd.prog) (t := 4) (o := 1) (v := .bool bz) hp440.get1 (by kernel_rfl))), trivial⟩ (fun _ _ => QB.mk .nil (by kernel_rfl)) (fun b469 => ?_)
          refine HOPS.re [.string line, .pointer (some ⟨g3, 0, none⟩), .string (lineV xx), .int .i64 (chkI xx), .agg #[.int .i64 9, .int .i64 v370, .int .i64 v385, .string ByteArray.empty, .slice none 0 0, .slice ao no co], .bool false] (by rw [show (!bz) = false from (Bp.not Bp.var).ff (fun k => k h445)]) ?_
          refine HOPS.take 8 { wraps := [76, 81] } [] [2, 67, 81] [.pointer (some ⟨g3, 0, none⟩), .agg #[.int .i64 9, .int .i64 v370, .int .i64 v385, .string ByteArray.empty, .slice none 0 0, .slice ao no co], .bool false] (by kernel_rfl) ⟨(show Ld Tryd.prog w435.drew 31 ⟨g358, 0, none⟩ (.agg #[.int .i64 9, .int .i64 v370, .int .i64 v385, .string ByteArray.empty, .slice none 0 0, .slice ao no co]) from Ld.rowN (cs := [.int .i64 9, .int .i64 v370, .int .i64 v385, .string ByteArray.empty, .slice none 0 0, .slice ao no co]) hp440.get3 (by kernel_rfl)), (show Ld Tryd.prog w435.drew 4 ⟨g15, 1, none⟩ (.bool bz) from (Ld.row1 (P := Tryd.prog) (t := 4) (o := 1) (v := .bool bz) hp440.get1 (by kernel_rfl))), trivial⟩ (fun w470 hS471 => QB.mk .nil (by kernel_rfl)) (fun b472 => ?_)
          refine HOPS.eff _ rfl (opStep.store6 hp440 rfl [.int .i64 9, .int .i64 v370, .int .i64 v385, .string ByteArray.empty, .slice none 0 0, .slice ao no co] [.int .i64 9, .int .i64 v370, .int .i64 v385, .string ByteArray.empty, .slice none 0 0, .slice ao no co] (by kernel_rfl) (fun w473 hp474 => ?_))
          refine ⟨.inr ⟨(show Ld Tryd.prog w473 31 ⟨g358, 0, none⟩ (.agg #[.int .i64 9, .int .i64 v370, .int .i64 v385, .string ByteArray.empty, .slice none 0 0, .slice ao no co]) from Ld.rowN (cs := [.int .i64 9, .int .i64 v370, .int .i64 v385, .string ByteArray.empty, .slice none 0 0, .slice ao no co]) hp474.get3 (by kernel_rfl)), (show Ld Tryd.prog w473 4 ⟨g15, 1, none⟩ (.bool bz) from (Ld.row1 (P := Tryd.prog) (t := 4) (o := 1) (v := .bool bz) hp474.get1 (by kernel_rfl))), trivial⟩, ?_⟩
          refine HOPS.take 1 {} [] [2, 3] [.pointer (some ⟨g3, 0, none⟩), .bool false] (by kernel_rfl) ⟨(show Ld Tryd.prog w473 31 ⟨g358, 0, none⟩ (.agg #[.int .i64 9, .int .i64 v370, .int .i64 v385, .string ByteArray.empty, .slice none 0 0, .slice ao no co]) from Ld.rowN (cs := [.int .i64 9, .int .i64 v370, .int .i64 v385, .string ByteArray.empty, .slice none 0 0, .slice ao no co]) hp474.get3 (by kernel_rfl)), (show Ld Tryd.prog w473 4 ⟨g15, 1, none⟩ (.bool bz) from (Ld.row1 (P := Tryd.prog) (t := 4) (o := 1) (v := .bool bz) hp474.get1 (by kernel_rfl))), trivial⟩ (fun w475 hS476 => QB.mk .nil (by kernel_rfl)) (fun b477 => ?_)
          refine HOPS.nil ?_
          refine thn_n ?_
          exact ⟨false, trivial, Bp.of Bp.f (by first | (simp only [h445, iff_false, false_iff, iff_true, true_iff, Classical.not_not, and_true, true_and, and_false, false_and, or_true, true_or, or_false, false_or, not_true_eq_false, not_false_eq_true, and_self, or_self, iff_self]; done) | (simp [h445]; done) | grind | (simp_all; done)), by kernel_rfl, hp474⟩
        · refine HOPS.take 0 {} [] [0, 2, 9, 10, 67, 73] [.string line, .pointer (some ⟨g3, 0, none⟩), .string (lineV xx), .int .i64 (chkI xx), .agg #[.int .i64 9, .int .i64 v370, .int .i64 v385, .string ByteArray.empty, .slice none 0 0, .slice ao no co], .bool (!bz)] (by kernel_rfl) ⟨(show Ld Tryd.prog w435.drew 31 ⟨g358, 0, none⟩ (.agg #[.int .i64 9, .int .i64 v370, .int .i64 v385, .string ByteArray.empty, .slice none 0 0, .slice ao no co]) from Ld.rowN (cs := [.int .i64 9, .int .i64 v370, .int .i64 v385, .string ByteArray.empty, .slice none 0 0, .slice ao no co]) hp440.get3 (by kernel_rfl)), (show Ld Tryd.prog w435.drew 4 ⟨g15, 1, none⟩ (.bool bz) from (Ld.row1 (P := Tryd.prog) (t := 4) (o := 1) (v := .bool bz) hp440.get1 (by kernel_rfl))), trivial⟩ (fun _ _ => QB.mk .nil (by kernel_rfl)) (fun b446 => ?_)
          refine HOPS.re [.string line, .pointer (some ⟨g3, 0, none⟩), .string (lineV xx), .int .i64 (chkI xx), .agg #[.int .i64 9, .int .i64 v370, .int .i64 v385, .string ByteArray.empty, .slice none 0 0, .slice ao no co], .bool true] (by rw [show (!bz) = true from (Bp.not Bp.var).tt h445]) ?_
          refine HOPS.take 4 { wraps := [76] } [] [0, 2, 9, 67, 77] [.string line, .pointer (some ⟨g3, 0, none⟩), .string (lineV xx), .agg #[.int .i64 9, .int .i64 v370, .int .i64 v385, .string ByteArray.empty, .slice none 0 0, .slice ao no co], .bool (decide ((chkI xx) = 0))] (by kernel_rfl) ⟨(show Ld Tryd.prog w435.drew 31 ⟨g358, 0, none⟩ (.agg #[.int .i64 9, .int .i64 v370, .int .i64 v385, .string ByteArray.empty, .slice none 0 0, .slice ao no co]) from Ld.rowN (cs := [.int .i64 9, .int .i64 v370, .int .i64 v385, .string ByteArray.empty, .slice none 0 0, .slice ao no co]) hp440.get3 (by kernel_rfl)), (show Ld Tryd.prog w435.drew 4 ⟨g15, 1, none⟩ (.bool bz) from (Ld.row1 (P := Tryd.prog) (t := 4) (o := 1) (v := .bool bz) hp440.get1 (by kernel_rfl))), trivial⟩ (fun w447 hS448 => QB.mk .nil (by kernel_rfl)) (fun b449 => ?_)
          by_cases h450 : (chkI xx) = 0
          · refine HOPS.take 0 {} [] [0, 2, 9, 67, 77] [.string line, .pointer (some ⟨g3, 0, none⟩), .string (lineV xx), .agg #[.int .i64 9, .int .i64 v370, .int .i64 v385, .string ByteArray.empty, .slice none 0 0, .slice ao no co], .bool (decide ((chkI xx) = 0))] (by kernel_rfl) ⟨(show Ld Tryd.prog w435.drew 31 ⟨g358, 0, none⟩ (.agg #[.int .i64 9, .int .i64 v370, .int .i64 v385, .string ByteArray.empty, .slice none 0 0, .slice ao no co]) from Ld.rowN (cs := [.int .i64 9, .int .i64 v370, .int .i64 v385, .string ByteArray.empty, .slice none 0 0, .slice ao no co]) hp440.get3 (by kernel_rfl)), (show Ld Tryd.prog w435.drew 4 ⟨g15, 1, none⟩ (.bool bz) from (Ld.row1 (P := Tryd.prog) (t := 4) (o := 1) (v := .bool bz) hp440.get1 (by kernel_rfl))), trivial⟩ (fun _ _ => QB.mk .nil (by kernel_rfl)) (fun b451 => ?_)
            refine HOPS.re [.string line, .pointer (some ⟨g3, 0, none⟩), .string (lineV xx), .agg #[.int .i64 9, .int .i64 v370, .int .i64 v385, .string ByteArray.empty, .slice none 0 0, .slice ao no co], .bool true] (by rw [show (decide ((chkI xx) = 0)) = true from Bp.dec.tt h450]) ?_
            refine HOPS.take 4 { wraps := [81] } [] [2, 67, 81] [.pointer (some ⟨g3, 0, none⟩), .agg #[.int .i64 9, .int .i64 v370, .int .i64 v385, .string ByteArray.empty, .slice none 0 0, .slice ao no co], .bool (decide ((lineV xx) = line))] (by kernel_rfl) ⟨(show Ld Tryd.prog w435.drew 31 ⟨g358, 0, none⟩ (.agg #[.int .i64 9, .int .i64 v370, .int .i64 v385, .string ByteArray.empty, .slice none 0 0, .slice ao no co]) from Ld.rowN (cs := [.int .i64 9, .int .i64 v370, .int .i64 v385, .string ByteArray.empty, .slice none 0 0, .slice ao no co]) hp440.get3 (by kernel_rfl)), (show Ld Tryd.prog w435.drew 4 ⟨g15, 1, none⟩ (.bool bz) from (Ld.row1 (P := Tryd.prog) (t := 4) (o := 1) (v := .bool bz) hp440.get1 (by kernel_rfl))), trivial⟩ (fun w452 hS453 => QB.mk .nil (by kernel_rfl)) (fun b454 => ?_)
            refine HOPS.eff _ rfl (opStep.store6 hp440 rfl [.int .i64 9, .int .i64 v370, .int .i64 v385, .string ByteArray.empty, .slice none 0 0, .slice ao no co] [.int .i64 9, .int .i64 v370, .int .i64 v385, .string ByteArray.empty, .slice none 0 0, .slice ao no co] (by kernel_rfl) (fun w455 hp456 => ?_))
            refine ⟨.inr ⟨(show Ld Tryd.prog w455 31 ⟨g358, 0, none⟩ (.agg #[.int .i64 9, .int .i64 v370, .int .i64 v385, .string ByteArray.empty, .slice none 0 0, .slice ao no co]) from Ld.rowN (cs := [.int .i64 9, .int .i64 v370, .int .i64 v385, .string ByteArray.empty, .slice none 0 0, .slice ao no co]) hp456.get3 (by kernel_rfl)), (show Ld Tryd.prog w455 4 ⟨g15, 1, none⟩ (.bool bz) from (Ld.row1 (P := Tryd.prog) (t := 4) (o := 1) (v := .bool bz) hp456.get1 (by kernel_rfl))), trivial⟩, ?_⟩
            refine HOPS.take 1 {} [] [2, 3] [.pointer (some ⟨g3, 0, none⟩), .bool (decide ((lineV xx) = line))] (by kernel_rfl) ⟨(show Ld Tryd.prog w455 31 ⟨g358, 0, none⟩ (.agg #[.int .i64 9, .int .i64 v370, .int .i64 v385, .string ByteArray.empty, .slice none 0 0, .slice ao no co]) from Ld.rowN (cs := [.int .i64 9, .int .i64 v370, .int .i64 v385, .string ByteArray.empty, .slice none 0 0, .slice ao no co]) hp456.get3 (by kernel_rfl)), (show Ld Tryd.prog w455 4 ⟨g15, 1, none⟩ (.bool bz) from (Ld.row1 (P := Tryd.prog) (t := 4) (o := 1) (v := .bool bz) hp456.get1 (by kernel_rfl))), trivial⟩ (fun w457 hS458 => QB.mk .nil (by kernel_rfl)) (fun b459 => ?_)
            refine HOPS.nil ?_
            refine thn_n ?_
            exact ⟨decide ((lineV xx) = line), trivial, Bp.of Bp.dec (by first | (simp only [h445, h450, iff_false, false_iff, iff_true, true_iff, Classical.not_not, and_true, true_and, and_false, false_and, or_true, true_or, or_false, false_or, not_true_eq_false, not_false_eq_true, and_self, or_self, iff_self]; done) | (simp [h445, h450]; done) | grind | (simp_all; done)), by kernel_rfl, hp456⟩
          · refine HOPS.take 0 {} [] [0, 2, 9, 67, 77] [.string line, .pointer (some ⟨g3, 0, none⟩), .string (lineV xx), .agg #[.int .i64 9, .int .i64 v370, .int .i64 v385, .string ByteArray.empty, .slice none 0 0, .slice ao no co], .bool (decide ((chkI xx) = 0))] (by kernel_rfl) ⟨(show Ld Tryd.prog w435.drew 31 ⟨g358, 0, none⟩ (.agg #[.int .i64 9, .int .i64 v370, .int .i64 v385, .string ByteArray.empty, .slice none 0 0, .slice ao no co]) from Ld.rowN (cs := [.int .i64 9, .int .i64 v370, .int .i64 v385, .string ByteArray.empty, .slice none 0 0, .slice ao no co]) hp440.get3 (by kernel_rfl)), (show Ld Tryd.prog w435.drew 4 ⟨g15, 1, none⟩ (.bool bz) from (Ld.row1 (P := Tryd.prog) (t := 4) (o := 1) (v := .bool bz) hp440.get1 (by kernel_rfl))), trivial⟩ (fun _ _ => QB.mk .nil (by kernel_rfl)) (fun b460 => ?_)
            refine HOPS.re [.string line, .pointer (some ⟨g3, 0, none⟩), .string (lineV xx), .agg #[.int .i64 9, .int .i64 v370, .int .i64 v385, .string ByteArray.empty, .slice none 0 0, .slice ao no co], .bool false] (by rw [show (decide ((chkI xx) = 0)) = false from Bp.dec.ff h450]) ?_
            refine HOPS.take 4 { wraps := [81] } [] [2, 67, 81] [.pointer (some ⟨g3, 0, none⟩), .agg #[.int .i64 9, .int .i64 v370, .int .i64 v385, .string ByteArray.empty, .slice none 0 0, .slice ao no co], .bool false] (by kernel_rfl) ⟨(show Ld Tryd.prog w435.drew 31 ⟨g358, 0, none⟩ (.agg #[.int .i64 9, .int .i64 v370, .int .i64 v385, .string ByteArray.empty, .slice none 0 0, .slice ao no co]) from Ld.rowN (cs := [.int .i64 9, .int .i64 v370, .int .i64 v385, .string ByteArray.empty, .slice none 0 0, .slice ao no co]) hp440.get3 (by kernel_rfl)), (show Ld Tryd.prog w435.drew 4 ⟨g15, 1, none⟩ (.bool bz) from (Ld.row1 (P := Tryd.prog) (t := 4) (o := 1) (v := .bool bz) hp440.get1 (by kernel_rfl))), trivial⟩ (fun w461 hS462 => QB.mk .nil (by kernel_rfl)) (fun b463 => ?_)
            refine HOPS.eff _ rfl (opStep.store6 hp440 rfl [.int .i64 9, .int .i64 v370, .int .i64 v385, .string ByteArray.empty, .slice none 0 0, .slice ao no co] [.int .i64 9, .int .i64 v370, .int .i64 v385, .string ByteArray.empty, .slice none 0 0, .slice ao no co] (by kernel_rfl) (fun w464 hp465 => ?_))
            refine ⟨.inr ⟨(show Ld Tryd.prog w464 31 ⟨g358, 0, none⟩ (.agg #[.int .i64 9, .int .i64 v370, .int .i64 v385, .string ByteArray.empty, .slice none 0 0, .slice ao no co]) from Ld.rowN (cs := [.int .i64 9, .int .i64 v370, .int .i64 v385, .string ByteArray.empty, .slice none 0 0, .slice ao no co]) hp465.get3 (by kernel_rfl)), (show Ld Tryd.prog w464 4 ⟨g15, 1, none⟩ (.bool bz) from (Ld.row1 (P := Tryd.prog) (t := 4) (o := 1) (v := .bool bz) hp465.get1 (by kernel_rfl))), trivial⟩, ?_⟩
            refine HOPS.take 1 {} [] [2, 3] [.pointer (some ⟨g3, 0, none⟩), .bool false] (by kernel_rfl) ⟨(show Ld Tryd.prog w464 31 ⟨g358, 0, none⟩ (.agg #[.int .i64 9, .int .i64 v370, .int .i64 v385, .string ByteArray.empty, .slice none 0 0, .slice ao no co]) from Ld.rowN (cs := [.int .i64 9, .int .i64 v370, .int .i64 v385, .string ByteArray.empty, .slice none 0 0, .slice ao no co]) hp465.get3 (by kernel_rfl)), (show Ld Tryd.prog w464 4 ⟨g15, 1, none⟩ (.bool bz) from (Ld.row1 (P := Tryd.prog) (t := 4) (o := 1) (v := .bool bz) hp465.get1 (by kernel_rfl))), trivial⟩ (fun w466 hS467 => QB.mk .nil (by kernel_rfl)) (fun b468 => ?_)
            refine HOPS.nil ?_
            refine thn_n ?_
            exact ⟨false, trivial, Bp.of Bp.f (by first | (simp only [h445, h450, iff_false, false_iff, iff_true, true_iff, Classical.not_not, and_true, true_and, and_false, false_and, or_true, true_or, or_false, false_or, not_true_eq_false, not_false_eq_true, and_self, or_self, iff_self]; done) | (simp [h445, h450]; done) | grind | (simp_all; done)), by kernel_rfl, hp465⟩
      rintro e480 w481 ⟨x478, hd483, hb479, hE484, hp482⟩
      obtain ⟨b485, rfl⟩ := toMk hE484
      clear hE484
      clear hd483
      refine WP.ret ?_
      refine bodyQ.of _ rfl [.agg #[.int .i64 9, .int .i64 v370, .int .i64 v385, .string ByteArray.empty, .slice none 0 0, .slice ao no co], .bool x478] ⟨⟨_, rfl, (show Ld Tryd.prog w481 31 ⟨g3, 0, none⟩ (.agg #[.int .i64 9, .int .i64 v370, .int .i64 v385, .string ByteArray.empty, .slice none 0 0, .slice ao no co]) from Ld.rowN (cs := [.int .i64 9, .int .i64 v370, .int .i64 v385, .string ByteArray.empty, .slice none 0 0, .slice ao no co]) hp482.get6 (by kernel_rfl))⟩, rfl, trivial⟩ ?_
      have hre := fun y (h1 : okS y) (h2 : inS y) (h3 : y.Kind = 9) (h4 : lineS y = line) => (show _ ∧ xx = y from hxx ▸ read_ok (k := 9) (line := line) rfl rfl (.t rfl ⟨hn372, rfl⟩) (.t rfl ⟨hn387, rfl⟩) (.f rfl ⟨rfl, rfl, rfl⟩) (.f rfl ⟨rfl, rfl, rfl⟩) (rn_end hrn pa (by omega)) h1 h2 h3 h4)
      have hfin := step_fin (P := (¬ (bz = true)) ∧ ((chkI xx) = 0) ∧ ((lineV xx) = line)) hk38 hsm.1 hre (by have q0_ := h401 ; first | grind | (simp_all; done))
      exact ⟨(⟨9, v370, v385, ByteArray.empty, ⟨none, 0, 0⟩, ⟨ao, no, co⟩⟩ : GStep), xx, _, _, rfl, ⟨fun h => hfin.1 (Bp.tr hb479 h), fun h => hfin.2 (Bp.fa hb479 h)⟩, (by rw [hxx]; exact Hp.svMake0 (E := 3) (⟨9, v370, v385, ByteArray.empty, ⟨none, 0, 0⟩, ⟨ao, no, co⟩⟩ : GStep) _ rfl rfl rfl rfl rfl rfl (hp482.sub (.cons_cons _ (.cons _ (.cons _ (.cons _ (.cons _ (.cons _ (.cons _ (.slnil))))))))))⟩
  · rw [hk38]
    refine OPS.batch 1 {} [] [0, 2, 4, 6] [.string line, .pointer (some ⟨g3, 0, none⟩), .pointer (some ⟨g15, 0, none⟩), .int .i64 10] .nil (by kernel_rfl) (fun b486 => ?_)
    refine OPS.nil ?_
    refine thn_n ?_
    refine WP.seq ?_
    refine WP.seq ?_
    refine WP.pure {} [] [0, 2, 4, 6, 21] [.string line, .pointer (some ⟨g3, 0, none⟩), .pointer (some ⟨g15, 0, none⟩), .int .i64 10, .bool false] .nil (by kernel_rfl) (fun b487 => ?_)
    refine thn_n ?_
    refine WP.condF rfl ?_
    refine WP.skip ?_
    refine thn_n ?_
    refine WP.seq ?_
    refine WP.region _ rfl (by kernel_rfl) ?_
    refine OPS.batch 3 {} [.agg #[.string ⟨#[99, 117, 116]⟩, .bool true, .bool true, .bool false, .bool false, .bool false, .bool false]] [0, 2, 4, 6, 25] [.string line, .pointer (some ⟨g3, 0, none⟩), .pointer (some ⟨g15, 0, none⟩), .int .i64 10, .agg #[.string ⟨#[99, 117, 116]⟩, .bool true, .bool true, .bool false, .bool false, .bool false, .bool false]] (.cons (show InB (10) (17) from ⟨by omega, by omega⟩) (.cons (show Ld Tryd.prog w35 56 ⟨0, 70, none⟩ (.agg #[.string ⟨#[99, 117, 116]⟩, .bool true, .bool true, .bool false, .bool false, .bool false, .bool false]) from Ld.rowN (cs := [.string ⟨#[99, 117, 116]⟩, .bool true, .bool true, .bool false, .bool false, .bool false, .bool false]) (row_at hls.tab hp37.fr) (by kernel_rfl)) .nil)) (by kernel_rfl) (fun b488 => ?_)
    refine OPS.cons (opStep.alloc hp37 [.string ByteArray.empty, .bool false, .bool false, .bool false, .bool false, .bool false, .bool false] (by kernel_rfl) (fun g491 w489 hp490 => ?_))
    refine OPS.cons (opStep.store0 hp490 rfl [.string ⟨#[99, 117, 116]⟩, .bool true, .bool true, .bool false, .bool false, .bool false, .bool false] [.string ⟨#[99, 117, 116]⟩, .bool true, .bool true, .bool false, .bool false, .bool false, .bool false] (by kernel_rfl) (fun w492 hp493 => ?_))
    refine OPS.nil ?_
    refine thn_n ?_
    refine WP.seq ?_
    refine WP.region _ rfl (by kernel_rfl) ?_
    refine OPS.batch 2 {} [] [0, 2, 4, 7, 27] [.string line, .pointer (some ⟨g3, 0, none⟩), .pointer (some ⟨g15, 0, none⟩), .pointer (some ⟨g491, 0, none⟩), .agg #[.int .i64 10, .int .i64 0, .int .i64 0, .string ByteArray.empty, .slice none 0 0, .slice none 0 0]] .nil (by kernel_rfl) (fun b494 => ?_)
    refine OPS.cons (opStep.alloc hp493 [.int .i64 0, .int .i64 0, .int .i64 0, .string ByteArray.empty, .slice none 0 0, .slice none 0 0] (by kernel_rfl) (fun g497 w495 hp496 => ?_))
    refine OPS.cons (opStep.store0 hp496 rfl [.int .i64 10, .int .i64 0, .int .i64 0, .string ByteArray.empty, .slice none 0 0, .slice none 0 0] [.int .i64 10, .int .i64 0, .int .i64 0, .string ByteArray.empty, .slice none 0 0, .slice none 0 0] (by kernel_rfl) (fun w498 hp499 => ?_))
    refine OPS.nil ?_
    refine thn_n ?_
    refine WP.seq ?_
    refine WP.seq ?_
    refine WP.pure {} [.bool true] [0, 2, 4, 7, 8, 29] [.string line, .pointer (some ⟨g3, 0, none⟩), .pointer (some ⟨g15, 0, none⟩), .pointer (some ⟨g491, 0, none⟩), .pointer (some ⟨g497, 0, none⟩), .bool true] (.cons (Ld.row1 (P := Tryd.prog) (t := 4) (o := 1) (v := .bool true) hp499.get1 (by kernel_rfl)) .nil) (by kernel_rfl) (fun b500 => ?_)
    refine thn_n ?_
    refine WP.condT rfl ?_
    refine WP.region _ rfl (by kernel_rfl) ?_
    refine OPS.batch 1 {} [] [0, 2, 4, 7, 8, 30] [.string line, .pointer (some ⟨g3, 0, none⟩), .pointer (some ⟨g15, 0, none⟩), .pointer (some ⟨g491, 0, none⟩), .pointer (some ⟨g497, 0, none⟩), .pointer (some ⟨g15, 0, none⟩)] .nil (by kernel_rfl) (fun b501 => ?_)
    have hp504 := hp499.pull4
    have hp505 := hp504.pull4
    refine OPS.cons (opStep.call (some 31) [.pointer (some ⟨g15, 0, none⟩)] (by kernel_rfl) (w_number _ _ g15 g10 h24 ((wordsB line).tail) (false || (wordsB line).isEmpty) _ hl (tail_size hsz) hp505) ?_)
    rintro _ w506 ⟨h508, v509, bd510_, rfl, hn511, hp507⟩
    refine ⟨_, rfl, ?_⟩
    have hn511a := hn511.rng.1
    have hn511b := hn511.rng.2
    have hn511z := itoaT_size hn511a hn511b
    refine OPS.batch 1 {} [] [0, 2, 4, 7, 8, 31, 32] [.string line, .pointer (some ⟨g3, 0, none⟩), .pointer (some ⟨g15, 0, none⟩), .pointer (some ⟨g491, 0, none⟩), .pointer (some ⟨g497, 0, none⟩), .int .i64 v509, .pointer (some ⟨g497, 1, none⟩)] .nil (by kernel_rfl) (fun b512 => ?_)
    refine OPS.cons (opStep.store2 hp507 rfl [.int .i64 v509] [.int .i64 10, .int .i64 v509, .int .i64 0, .string ByteArray.empty, .slice none 0 0, .slice none 0 0] (by kernel_rfl) (fun w513 hp514 => ?_))
    refine OPS.nil ?_
    refine thn_n ?_
    refine WP.seq ?_
    refine WP.seq ?_
    refine WP.pure {} [.bool true] [0, 2, 4, 7, 8, 34] [.string line, .pointer (some ⟨g3, 0, none⟩), .pointer (some ⟨g15, 0, none⟩), .pointer (some ⟨g491, 0, none⟩), .pointer (some ⟨g497, 0, none⟩), .bool true] (.cons (Ld.row1 (P := Tryd.prog) (t := 4) (o := 2) (v := .bool true) hp514.get3 (by kernel_rfl)) .nil) (by kernel_rfl) (fun b515 => ?_)
    refine thn_n ?_
    refine WP.condT rfl ?_
    refine WP.region _ rfl (by kernel_rfl) ?_
    refine OPS.batch 1 {} [] [0, 2, 4, 7, 8, 35] [.string line, .pointer (some ⟨g3, 0, none⟩), .pointer (some ⟨g15, 0, none⟩), .pointer (some ⟨g491, 0, none⟩), .pointer (some ⟨g497, 0, none⟩), .pointer (some ⟨g15, 0, none⟩)] .nil (by kernel_rfl) (fun b516 => ?_)
    have hp519 := hp514.pull1
    have hp520 := hp519.pull1
    refine OPS.cons (opStep.call (some 36) [.pointer (some ⟨g15, 0, none⟩)] (by kernel_rfl) (w_number _ _ g15 g10 h508 (((wordsB line).tail).tail) bd510_ _ hl (tail_size (tail_size hsz)) hp520) ?_)
    rintro _ w521 ⟨h523, v524, bd525_, rfl, hn526, hp522⟩
    refine ⟨_, rfl, ?_⟩
    have hn526a := hn526.rng.1
    have hn526b := hn526.rng.2
    have hn526z := itoaT_size hn526a hn526b
    refine OPS.batch 1 {} [] [0, 2, 4, 7, 8, 36, 37] [.string line, .pointer (some ⟨g3, 0, none⟩), .pointer (some ⟨g15, 0, none⟩), .pointer (some ⟨g491, 0, none⟩), .pointer (some ⟨g497, 0, none⟩), .int .i64 v524, .pointer (some ⟨g497, 2, none⟩)] .nil (by kernel_rfl) (fun b527 => ?_)
    refine OPS.cons (opStep.store2 hp522 rfl [.int .i64 v524] [.int .i64 10, .int .i64 v509, .int .i64 v524, .string ByteArray.empty, .slice none 0 0, .slice none 0 0] (by kernel_rfl) (fun w528 hp529 => ?_))
    refine OPS.nil ?_
    refine thn_n ?_
    refine WP.seq ?_
    refine WP.seq ?_
    refine WP.pure {} [.bool false] [0, 2, 4, 7, 8, 39] [.string line, .pointer (some ⟨g3, 0, none⟩), .pointer (some ⟨g15, 0, none⟩), .pointer (some ⟨g491, 0, none⟩), .pointer (some ⟨g497, 0, none⟩), .bool false] (.cons (Ld.row1 (P := Tryd.prog) (t := 4) (o := 3) (v := .bool false) hp529.get3 (by kernel_rfl)) .nil) (by kernel_rfl) (fun b530 => ?_)
    refine thn_n ?_
    refine WP.condF rfl ?_
    refine WP.skip ?_
    refine thn_n ?_
    refine WP.seq ?_
    refine WP.seq ?_
    refine WP.pure {} [.bool false] [0, 2, 4, 8, 44] [.string line, .pointer (some ⟨g3, 0, none⟩), .pointer (some ⟨g15, 0, none⟩), .pointer (some ⟨g497, 0, none⟩), .bool false] (.cons (Ld.row1 (P := Tryd.prog) (t := 4) (o := 4) (v := .bool false) hp529.get3 (by kernel_rfl)) .nil) (by kernel_rfl) (fun b531 => ?_)
    refine thn_n ?_
    refine WP.condF rfl ?_
    refine WP.skip ?_
    refine thn_n ?_
    refine WP.seq ?_
    refine WP.block ?_
    have hp532 := (show Hp w Non [Res.own 3 1 (.slice none 0 0) 0 (List.flatMap i64c ([] : List Int)), Res.row g15 [.slice h523.a h523.n h523.c, .bool bd525_] 75, Res.lst g10 h523 ((((wordsB line).tail).tail).tail), Res.row g497 [.int .i64 10, .int .i64 v509, .int .i64 v524, .string ByteArray.empty, .slice none 0 0, .slice none 0 0] 31, Res.row g491 [.string ⟨#[99, 117, 116]⟩, .bool true, .bool true, .bool false, .bool false, .bool false, .bool false] 56, Res.row g27 [.string ((wordsB line).headD ByteArray.empty)] 9, Res.row g3 [.int .i64 0, .int .i64 0, .int .i64 0, .string ByteArray.empty, .slice none 0 0, .slice none 0 0] 31] w528 from hp529.nilOwn 3 1)
    refine WP.loop (fun mz_ e533 w534 => ∃ (wz : List ByteArray) (hz : SlH) (bz : Bool) (ls : List Int) (ao : Option Addr) (no : Nat) (co : Nat), mz_ = wz.length ∧ (wz = List.drop ls.length ((((wordsB line).tail).tail).tail) ∧ ls.length ≤ (wordsB line).length ∧ RnI bd525_ ((((wordsB line).tail).tail).tail) ls bz ∧ (∀ x ∈ wz, x.size ≤ 281474976710656)) ∧ List.map e533 [0, 2, 4, 8] = [.string line, .pointer (some ⟨g3, 0, none⟩), .pointer (some ⟨g15, 0, none⟩), .pointer (some ⟨g497, 0, none⟩)] ∧ Hp w Non [Res.own 3 1 (.slice ao no co) no (List.flatMap i64c ls), Res.row g15 [.slice hz.a hz.n hz.c, .bool bz] 75, Res.lst g10 hz wz, Res.row g497 [.int .i64 10, .int .i64 v509, .int .i64 v524, .string ByteArray.empty, .slice none 0 0, .slice ao no co] 31, Res.row g491 [.string ⟨#[99, 117, 116]⟩, .bool true, .bool true, .bool false, .bool false, .bool false, .bool false] 56, Res.row g27 [.string ((wordsB line).headD ByteArray.empty)] 9, Res.row g3 [.int .i64 0, .int .i64 0, .int .i64 0, .string ByteArray.empty, .slice none 0 0, .slice none 0 0] 31] w534) (((((wordsB line).tail).tail).tail).length) ⟨(((wordsB line).tail).tail).tail, h523, bd525_, [], none, 0, 0, rfl, ⟨rfl, Nat.zero_le _, rn_start _ _, (tail_size (tail_size (tail_size hsz)))⟩, by kernel_rfl, hp532⟩ ?_
    rintro _ e533 w534 ⟨wz, hz, bz, ls, ao, no, co, rfl, hI536, hE537, hp535⟩
    obtain ⟨b538, rfl⟩ := toMk hE537
    clear hE537
    obtain ⟨pa, pb, hrn, hsw⟩ := hI536
    have hlz := lst_len hp535.get2
    have hsz := hsw
    have pe := own_flat (f := i64c) (sz := 1) (fun _ => rfl) (by decide) hp535.get0
    have hdl := congrArg List.length pa
    rw [List.length_drop] at hdl
    have hw4 : ((((wordsB line).tail).tail).tail).length ≤ (wordsB line).length := by simp only [List.length_tail]; omega
    refine WP.seq ?_
    refine WP.seq ?_
    refine WP.pure {} [.slice hz.a hz.n hz.c] [0, 2, 4, 8, 54] [.string line, .pointer (some ⟨g3, 0, none⟩), .pointer (some ⟨g15, 0, none⟩), .pointer (some ⟨g497, 0, none⟩), .bool (decide (0 < ((hz.n : Nat) : Int)))] (.cons (Ld.row1 (P := Tryd.prog) (t := 36) (o := 0) (v := .slice hz.a hz.n hz.c) hp535.get1 (by kernel_rfl)) .nil) (by kernel_rfl) (fun b539 => ?_)
    refine thn_n ?_
    refine WP.test (p := 0 < ((hz.n : Nat) : Int)) rfl Bp.dec (fun h540 => ?_) (fun h540 => ?_)
    · refine WP.skip ?_
      refine thn_n ?_
      refine WP.block ?_
      have hp541 := hp535.drew
      refine WP.held (fun w542 => Ld Tryd.prog w542 29 ⟨g497, 5, none⟩ (.slice ao no co) ∧ True) [7] [(0, true), (1, true), (2, true), (3, false), (4, false), (5, false), (6, true), (7, false)] (np_blk (np_thn (np_blk (np_thn np_body)))) (by kernel_rfl) ?_
      refine HOPS.take 3 {} [.slice ao no co] [0, 2, 4, 8, 56, 57] [.string line, .pointer (some ⟨g3, 0, none⟩), .pointer (some ⟨g15, 0, none⟩), .pointer (some ⟨g497, 0, none⟩), .slice ao no co, .pointer (some ⟨g15, 0, none⟩)] (by kernel_rfl) ⟨(show Ld Tryd.prog w534.drew 29 ⟨g497, 5, none⟩ (.slice ao no co) from (Ld.row1 (P := Tryd.prog) (t := 29) (o := 5) (v := .slice ao no co) hp541.get3 (by kernel_rfl))), trivial⟩ (fun w543 hS544 => QB.mk (.cons (hS544.1) .nil) (by kernel_rfl)) (fun b545 => ?_)
      have hp548 := hp541.pull2
      have hp549 := hp548.pull2
      refine HOPS.eff _ rfl (opStep.call (some 58) [.pointer (some ⟨g15, 0, none⟩)] (by kernel_rfl) (w_number _ _ g15 g10 hz wz bz _ hl hsz hp549) ?_)
      rintro _ w550 ⟨h552, v553, bd554_, rfl, hn555, hp551⟩
      refine ⟨_, rfl, ?_⟩
      have hn555a := hn555.rng.1
      have hn555b := hn555.rng.2
      have hn555z := itoaT_size hn555a hn555b
      refine ⟨.inr ⟨(show Ld Tryd.prog w550 29 ⟨g497, 5, none⟩ (.slice ao no co) from (Ld.row1 (P := Tryd.prog) (t := 29) (o := 5) (v := .slice ao no co) hp551.get3 (by kernel_rfl))), trivial⟩, ?_⟩
      refine HOPS.eff _ rfl (opStep.buildSlice (E := 3) hp551 [.int .i64 v553] (by kernel_rfl) (fun g558 w556 hp557 => ?_))
      refine ⟨.inr ⟨(show Ld Tryd.prog w556 29 ⟨g497, 5, none⟩ (.slice ao no co) from (Ld.row1 (P := Tryd.prog) (t := 29) (o := 5) (v := .slice ao no co) hp557.get4 (by kernel_rfl))), trivial⟩, ?_⟩
      refine HOPS.eff _ rfl (opStep.append3 [.int .i64 v553] hp557 8 (by kernel_rfl) rfl rfl rfl (SlR.row (n := 1) hp557.get0 rfl).rd (List.all_eq_true.1 (by kernel_rfl)) (by decide) (by omega) (by omega) (fun a561 c562 w563 hp564 hn565 => ?_))
      rw [(show List.flatMap i64c ls ++ [.int .i64 v553] = List.flatMap i64c (ls ++ [v553]) from (List.flatMap_append (xs := ls) (ys := [v553])).symm)] at hp564
      refine ⟨.inr ⟨(show Ld Tryd.prog w563 29 ⟨g497, 5, none⟩ (.slice ao no co) from (Ld.row1 (P := Tryd.prog) (t := 29) (o := 5) (v := .slice ao no co) hp564.get4 (by kernel_rfl))), trivial⟩, ?_⟩
      refine HOPS.take 1 {} [] [0, 2, 4, 8, 60, 61] [.string line, .pointer (some ⟨g3, 0, none⟩), .pointer (some ⟨g15, 0, none⟩), .pointer (some ⟨g497, 0, none⟩), .slice a561 (no + 1) c562, .pointer (some ⟨g497, 5, none⟩)] (by kernel_rfl) ⟨(show Ld Tryd.prog w563 29 ⟨g497, 5, none⟩ (.slice ao no co) from (Ld.row1 (P := Tryd.prog) (t := 29) (o := 5) (v := .slice ao no co) hp564.get4 (by kernel_rfl))), trivial⟩ (fun w566 hS567 => QB.mk .nil (by kernel_rfl)) (fun b568 => ?_)
      refine HOPS.eff _ rfl (opStep.store4 hp564 rfl [.slice a561 (no + 1) c562] [.int .i64 10, .int .i64 v509, .int .i64 v524, .string ByteArray.empty, .slice none 0 0, .slice a561 (no + 1) c562] (by kernel_rfl) (fun w569 hp570 => ?_))
      refine ⟨.inl rfl, ?_⟩
      refine HOPS.nil ?_
      refine blk_n ?_
      refine thn_n ?_
      exact ⟨(wz.tail).length, (by rw [List.length_tail]; omega), wz.tail, h552, bd554_, ls ++ [v553], a561, no + 1, c562, rfl, ⟨by rw [List.length_append, List.length_singleton, ← List.drop_drop, ← pa, List.drop_one], by rw [List.length_append, List.length_singleton]; omega, rn_step hrn pa hn555 (by omega), tail_size hsw⟩, by kernel_rfl, ((((((((hp570.pull7).pull7).pull7).pull7).pull6).pull6).pull7).sub (.cons_cons _ (.cons_cons _ (.cons_cons _ (.cons_cons _ (.cons_cons _ (.cons_cons _ (.cons_cons _ (.cons _ (.slnil))))))))))⟩
    · refine WP.exit ?_
      refine thn_x ?_
      refine thn_x ?_
      refine blk_hit ?_
      refine thn_n ?_
      refine WP.seq ?_
      refine WP.region _ rfl (by kernel_rfl) ?_
      refine OPS.batch 1 {} [.agg #[.int .i64 10, .int .i64 v509, .int .i64 v524, .string ByteArray.empty, .slice none 0 0, .slice ao no co]] [0, 2, 4, 8, 63] [.string line, .pointer (some ⟨g3, 0, none⟩), .pointer (some ⟨g15, 0, none⟩), .pointer (some ⟨g497, 0, none⟩), .agg #[.int .i64 10, .int .i64 v509, .int .i64 v524, .string ByteArray.empty, .slice none 0 0, .slice ao no co]] (.cons (show Ld Tryd.prog w534 31 ⟨g497, 0, none⟩ (.agg #[.int .i64 10, .int .i64 v509, .int .i64 v524, .string ByteArray.empty, .slice none 0 0, .slice ao no co]) from Ld.rowN (cs := [.int .i64 10, .int .i64 v509, .int .i64 v524, .string ByteArray.empty, .slice none 0 0, .slice ao no co]) hp535.get3 (by kernel_rfl)) .nil) (by kernel_rfl) (fun b571 => ?_)
      obtain ⟨xx, hxx⟩ : ∃ z : StepP, z = ⟨10, v509, v524, ByteArray.empty, (⟨#[]⟩ : ByteArray), ls⟩ := ⟨_, rfl⟩
      have hsm : smS xx := by rw [hxx]; exact ⟨⟨hn511.rng, hn526.rng, hrn.1⟩, (by simp only; decide), (by simp only; decide), by simp only; omega⟩
      refine OPS.cons (opStep.call (some 64) [.agg #[.int .i64 10, .int .i64 v509, .int .i64 v524, .string ByteArray.empty, .slice none 0 0, .slice ao no co]] (by kernel_rfl) (sc_Line (⟨10, v509, v524, ByteArray.empty, ⟨none, 0, 0⟩, ⟨ao, no, co⟩⟩ : GStep) xx _ (hls.fram hp535.fr) (by rw [hxx]; exact (StR.of rfl rfl rfl rfl (⟨rfl, slr_nil0 _⟩) (own_flat (f := i64c) (sz := 1) (fun _ => rfl) (by decide) hp535.get0).symm (SlR.own hp535.get0))) hsm) ?_)
      rintro _ w574 ⟨rfl, hf575⟩
      refine ⟨_, rfl, ?_⟩
      have hp576 := hp535.step hf575
      refine OPS.batch 5 {} [] [0, 2, 4, 8, 9, 10] [.string line, .pointer (some ⟨g3, 0, none⟩), .pointer (some ⟨g15, 0, none⟩), .pointer (some ⟨g497, 0, none⟩), .string (lineV xx), .int .i64 (chkI xx)] .nil (by kernel_rfl) (fun b577 => ?_)
      refine OPS.nil ?_
      refine thn_n ?_
      refine WP.cut (fun e619 w620 => ∃ (x617 : Bool), (True) ∧ Bp x617 ((¬ (bz = true)) ∧ ((chkI xx) = 0) ∧ ((lineV xx) = line)) ∧ List.map e619 [2, 3] = [.pointer (some ⟨g3, 0, none⟩), .bool x617] ∧ Hp w Non [Res.own 3 1 (.slice ao no co) no (List.flatMap i64c ls), Res.row g15 [.slice hz.a hz.n hz.c, .bool bz] 75, Res.lst g10 hz wz, Res.row g497 [.int .i64 10, .int .i64 v509, .int .i64 v524, .string ByteArray.empty, .slice none 0 0, .slice ao no co] 31, Res.row g491 [.string ⟨#[99, 117, 116]⟩, .bool true, .bool true, .bool false, .bool false, .bool false, .bool false] 56, Res.row g27 [.string ((wordsB line).headD ByteArray.empty)] 9, Res.row g3 [.int .i64 10, .int .i64 v509, .int .i64 v524, .string ByteArray.empty, .slice none 0 0, .slice ao no co] 31] w620) ?_ ?_
      · have hp579 := hp576.drew
        refine WP.held (fun w580 => Ld Tryd.prog w580 31 ⟨g497, 0, none⟩ (.agg #[.int .i64 10, .int .i64 v509, .int .i64 v524, .string ByteArray.empty, .slice none 0 0, .slice ao no co]) ∧ Ld Tryd.prog w580 4 ⟨g15, 1, none⟩ (.bool bz) ∧ True) [] [(0, true), (1, true), (2, true), (3, true), (4, true), (5, true), (6, true), (7, true), (8, true), (9, true), (10, true), (11, true), (12, true), (13, true), (14, true), (15, false), (16, true)] (np_thn np_body) (by kernel_rfl) ?_
        refine HOPS.take 7 {} [.agg #[.int .i64 10, .int .i64 v509, .int .i64 v524, .string ByteArray.empty, .slice none 0 0, .slice ao no co], .bool bz] [0, 2, 9, 10, 67, 73] [.string line, .pointer (some ⟨g3, 0, none⟩), .string (lineV xx), .int .i64 (chkI xx), .agg #[.int .i64 10, .int .i64 v509, .int .i64 v524, .string ByteArray.empty, .slice none 0 0, .slice ao no co], .bool (!bz)] (by kernel_rfl) ⟨(show Ld Tryd.prog w574.drew 31 ⟨g497, 0, none⟩ (.agg #[.int .i64 10, .int .i64 v509, .int .i64 v524, .string ByteArray.empty, .slice none 0 0, .slice ao no co]) from Ld.rowN (cs := [.int .i64 10, .int .i64 v509, .int .i64 v524, .string ByteArray.empty, .slice none 0 0, .slice ao no co]) hp579.get3 (by kernel_rfl)), (show Ld Tryd.prog w574.drew 4 ⟨g15, 1, none⟩ (.bool bz) from (Ld.row1 (P := Tryd.prog) (t := 4) (o := 1) (v := .bool bz) hp579.get1 (by kernel_rfl))), trivial⟩ (fun w581 hS582 => QB.mk (.cons (hS582.1) (.cons (hS582.2.1) .nil)) (by kernel_rfl)) (fun b583 => ?_)
        by_cases h584 : bz = true
        · refine HOPS.take 0 {} [] [0, 2, 9, 10, 67, 73] [.string line, .pointer (some ⟨g3, 0, none⟩), .string (lineV xx), .int .i64 (chkI xx), .agg #[.int .i64 10, .int .i64 v509, .int .i64 v524, .string ByteArray.empty, .slice none 0 0, .slice ao no co], .bool (!bz)] (by kernel_rfl) ⟨(show Ld Tryd.prog w574.drew 31 ⟨g497, 0, none⟩ (.agg #[.int .i64 10, .int .i64 v509, .int .i64 v524, .string ByteArray.empty, .slice none 0 0, .slice ao no co]) from Ld.rowN (cs := [.int .i64 10, .int .i64 v509, .int .i64 v524, .string ByteArray.empty, .slice none 0 0, .slice ao no co]) hp579.get3 (by kernel_rfl)), (show Ld Tryd.prog w574.drew 4 ⟨g15, 1, none⟩ (.bool bz) from (Ld.row1 (P := Tryd.prog) (t := 4) (o := 1) (v := .bool bz) hp579.get1 (by kernel_rfl))), trivial⟩ (fun _ _ => QB.mk .nil (by kernel_rfl)) (fun b608 => ?_)
          refine HOPS.re [.string line, .pointer (some ⟨g3, 0, none⟩), .string (lineV xx), .int .i64 (chkI xx), .agg #[.int .i64 10, .int .i64 v509, .int .i64 v524, .string ByteArray.empty, .slice none 0 0, .slice ao no co], .bool false] (by rw [show (!bz) = false from (Bp.not Bp.var).ff (fun k => k h584)]) ?_
          refine HOPS.take 8 { wraps := [76, 81] } [] [2, 67, 81] [.pointer (some ⟨g3, 0, none⟩), .agg #[.int .i64 10, .int .i64 v509, .int .i64 v524, .string ByteArray.empty, .slice none 0 0, .slice ao no co], .bool false] (by kernel_rfl) ⟨(show Ld Tryd.prog w574.drew 31 ⟨g497, 0, none⟩ (.agg #[.int .i64 10, .int .i64 v509, .int .i64 v524, .string ByteArray.empty, .slice none 0 0, .slice ao no co]) from Ld.rowN (cs := [.int .i64 10, .int .i64 v509, .int .i64 v524, .string ByteArray.empty, .slice none 0 0, .slice ao no co]) hp579.get3 (by kernel_rfl)), (show Ld Tryd.prog w574.drew 4 ⟨g15, 1, none⟩ (.bool bz) from (Ld.row1 (P := Tryd.prog) (t := 4) (o := 1) (v := .bool bz) hp579.get1 (by kernel_rfl))), trivial⟩ (fun w609 hS610 => QB.mk .nil (by kernel_rfl)) (fun b611 => ?_)
          refine HOPS.eff _ rfl (opStep.store6 hp579 rfl [.int .i64 10, .int .i64 v509, .int .i64 v524, .string ByteArray.empty, .slice none 0 0, .slice ao no co] [.int .i64 10, .int .i64 v509, .int .i64 v524, .string ByteArray.empty, .slice none 0 0, .slice ao no co] (by kernel_rfl) (fun w612 hp613 => ?_))
          refine ⟨.inr ⟨(show Ld Tryd.prog w612 31 ⟨g497, 0, none⟩ (.agg #[.int .i64 10, .int .i64 v509, .int .i64 v524, .string ByteArray.empty, .slice none 0 0, .slice ao no co]) from Ld.rowN (cs := [.int .i64 10, .int .i64 v509, .int .i64 v524, .string ByteArray.empty, .slice none 0 0, .slice ao no co]) hp613.get3 (by kernel_rfl)), (show Ld Tryd.prog w612 4 ⟨g15, 1, none⟩ (.bool bz) from (Ld.row1 (P := Tryd.prog) (t := 4) (o := 1) (v := .bool bz) hp613.get1 (by kernel_rfl))), trivial⟩, ?_⟩
          refine HOPS.take 1 {} [] [2, 3] [.pointer (some ⟨g3, 0, none⟩), .bool false] (by kernel_rfl) ⟨(show Ld Tryd.prog w612 31 ⟨g497, 0, none⟩ (.agg #[.int .i64 10, .int .i64 v509, .int .i64 v524, .string ByteArray.empty, .slice none 0 0, .slice ao no co]) from Ld.rowN (cs := [.int .i64 10, .int .i64 v509, .int .i64 v524, .string ByteArray.empty, .slice none 0 0, .slice ao no co]) hp613.get3 (by kernel_rfl)), (show Ld Tryd.prog w612 4 ⟨g15, 1, none⟩ (.bool bz) from (Ld.row1 (P := Tryd.prog) (t := 4) (o := 1) (v := .bool bz) hp613.get1 (by kernel_rfl))), trivial⟩ (fun w614 hS615 => QB.mk .nil (by kernel_rfl)) (fun b616 => ?_)
          refine HOPS.nil ?_
          refine thn_n ?_
          exact ⟨false, trivial, Bp.of Bp.f (by first | (simp only [h584, iff_false, false_iff, iff_true, true_iff, Classical.not_not, and_true, true_and, and_false, false_and, or_true, true_or, or_false, false_or, not_true_eq_false, not_false_eq_true, and_self, or_self, iff_self]; done) | (simp [h584]; done) | grind | (simp_all; done)), by kernel_rfl, hp613⟩
        · refine HOPS.take 0 {} [] [0, 2, 9, 10, 67, 73] [.string line, .pointer (some ⟨g3, 0, none⟩), .string (lineV xx), .int .i64 (chkI xx), .agg #[.int .i64 10, .int .i64 v509, .int .i64 v524, .string ByteArray.empty, .slice none 0 0, .slice ao no co], .bool (!bz)] (by kernel_rfl) ⟨(show Ld Tryd.prog w574.drew 31 ⟨g497, 0, none⟩ (.agg #[.int .i64 10, .int .i64 v509, .int .i64 v524, .string ByteArray.empty, .slice none 0 0, .slice ao no co]) from Ld.rowN (cs := [.int .i64 10, .int .i64 v509, .int .i64 v524, .string ByteArray.empty, .slice none 0 0, .slice ao no co]) hp579.get3 (by kernel_rfl)), (show Ld Tryd.prog w574.drew 4 ⟨g15, 1, none⟩ (.bool bz) from (Ld.row1 (P := Tryd.prog) (t := 4) (o := 1) (v := .bool bz) hp579.get1 (by kernel_rfl))), trivial⟩ (fun _ _ => QB.mk .nil (by kernel_rfl)) (fun b585 => ?_)
          refine HOPS.re [.string line, .pointer (some ⟨g3, 0, none⟩), .string (lineV xx), .int .i64 (chkI xx), .agg #[.int .i64 10, .int .i64 v509, .int .i64 v524, .string ByteArray.empty, .slice none 0 0, .slice ao no co], .bool true] (by rw [show (!bz) = true from (Bp.not Bp.var).tt h584]) ?_
          refine HOPS.take 4 { wraps := [76] } [] [0, 2, 9, 67, 77] [.string line, .pointer (some ⟨g3, 0, none⟩), .string (lineV xx), .agg #[.int .i64 10, .int .i64 v509, .int .i64 v524, .string ByteArray.empty, .slice none 0 0, .slice ao no co], .bool (decide ((chkI xx) = 0))] (by kernel_rfl) ⟨(show Ld Tryd.prog w574.drew 31 ⟨g497, 0, none⟩ (.agg #[.int .i64 10, .int .i64 v509, .int .i64 v524, .string ByteArray.empty, .slice none 0 0, .slice ao no co]) from Ld.rowN (cs := [.int .i64 10, .int .i64 v509, .int .i64 v524, .string ByteArray.empty, .slice none 0 0, .slice ao no co]) hp579.get3 (by kernel_rfl)), (show Ld Tryd.prog w574.drew 4 ⟨g15, 1, none⟩ (.bool bz) from (Ld.row1 (P := Tryd.prog) (t := 4) (o := 1) (v := .bool bz) hp579.get1 (by kernel_rfl))), trivial⟩ (fun w586 hS587 => QB.mk .nil (by kernel_rfl)) (fun b588 => ?_)
          by_cases h589 : (chkI xx) = 0
          · refine HOPS.take 0 {} [] [0, 2, 9, 67, 77] [.string line, .pointer (some ⟨g3, 0, none⟩), .string (lineV xx), .agg #[.int .i64 10, .int .i64 v509, .int .i64 v524, .string ByteArray.empty, .slice none 0 0, .slice ao no co], .bool (decide ((chkI xx) = 0))] (by kernel_rfl) ⟨(show Ld Tryd.prog w574.drew 31 ⟨g497, 0, none⟩ (.agg #[.int .i64 10, .int .i64 v509, .int .i64 v524, .string ByteArray.empty, .slice none 0 0, .slice ao no co]) from Ld.rowN (cs := [.int .i64 10, .int .i64 v509, .int .i64 v524, .string ByteArray.empty, .slice none 0 0, .slice ao no co]) hp579.get3 (by kernel_rfl)), (show Ld Tryd.prog w574.drew 4 ⟨g15, 1, none⟩ (.bool bz) from (Ld.row1 (P := Tryd.prog) (t := 4) (o := 1) (v := .bool bz) hp579.get1 (by kernel_rfl))), trivial⟩ (fun _ _ => QB.mk .nil (by kernel_rfl)) (fun b590 => ?_)
            refine HOPS.re [.string line, .pointer (some ⟨g3, 0, none⟩), .string (lineV xx), .agg #[.int .i64 10, .int .i64 v509, .int .i64 v524, .string ByteArray.empty, .slice none 0 0, .slice ao no co], .bool true] (by rw [show (decide ((chkI xx) = 0)) = true from Bp.dec.tt h589]) ?_
            refine HOPS.take 4 { wraps := [81] } [] [2, 67, 81] [.pointer (some ⟨g3, 0, none⟩), .agg #[.int .i64 10, .int .i64 v509, .int .i64 v524, .string ByteArray.empty, .slice none 0 0, .slice ao no co], .bool (decide ((lineV xx) = line))] (by kernel_rfl) ⟨(show Ld Tryd.prog w574.drew 31 ⟨g497, 0, none⟩ (.agg #[.int .i64 10, .int .i64 v509, .int .i64 v524, .string ByteArray.empty, .slice none 0 0, .slice ao no co]) from Ld.rowN (cs := [.int .i64 10, .int .i64 v509, .int .i64 v524, .string ByteArray.empty, .slice none 0 0, .slice ao no co]) hp579.get3 (by kernel_rfl)), (show Ld Tryd.prog w574.drew 4 ⟨g15, 1, none⟩ (.bool bz) from (Ld.row1 (P := Tryd.prog) (t := 4) (o := 1) (v := .bool bz) hp579.get1 (by kernel_rfl))), trivial⟩ (fun w591 hS592 => QB.mk .nil (by kernel_rfl)) (fun b593 => ?_)
            refine HOPS.eff _ rfl (opStep.store6 hp579 rfl [.int .i64 10, .int .i64 v509, .int .i64 v524, .string ByteArray.empty, .slice none 0 0, .slice ao no co] [.int .i64 10, .int .i64 v509, .int .i64 v524, .string ByteArray.empty, .slice none 0 0, .slice ao no co] (by kernel_rfl) (fun w594 hp595 => ?_))
            refine ⟨.inr ⟨(show Ld Tryd.prog w594 31 ⟨g497, 0, none⟩ (.agg #[.int .i64 10, .int .i64 v509, .int .i64 v524, .string ByteArray.empty, .slice none 0 0, .slice ao no co]) from Ld.rowN (cs := [.int .i64 10, .int .i64 v509, .int .i64 v524, .string ByteArray.empty, .slice none 0 0, .slice ao no co]) hp595.get3 (by kernel_rfl)), (show Ld Tryd.prog w594 4 ⟨g15, 1, none⟩ (.bool bz) from (Ld.row1 (P := Tryd.prog) (t := 4) (o := 1) (v := .bool bz) hp595.get1 (by kernel_rfl))), trivial⟩, ?_⟩
            refine HOPS.take 1 {} [] [2, 3] [.pointer (some ⟨g3, 0, none⟩), .bool (decide ((lineV xx) = line))] (by kernel_rfl) ⟨(show Ld Tryd.prog w594 31 ⟨g497, 0, none⟩ (.agg #[.int .i64 10, .int .i64 v509, .int .i64 v524, .string ByteArray.empty, .slice none 0 0, .slice ao no co]) from Ld.rowN (cs := [.int .i64 10, .int .i64 v509, .int .i64 v524, .string ByteArray.empty, .slice none 0 0, .slice ao no co]) hp595.get3 (by kernel_rfl)), (show Ld Tryd.prog w594 4 ⟨g15, 1, none⟩ (.bool bz) from (Ld.row1 (P := Tryd.prog) (t := 4) (o := 1) (v := .bool bz) hp595.get1 (by kernel_rfl))), trivial⟩ (fun w596 hS597 => QB.mk .nil (by kernel_rfl)) (fun b598 => ?_)
            refine HOPS.nil ?_
            refine thn_n ?_
            exact ⟨decide ((lineV xx) = line), trivial, Bp.of Bp.dec (by first | (simp only [h584, h589, iff_false, false_iff, iff_true, true_iff, Classical.not_not, and_true, true_and, and_false, false_and, or_true, true_or, or_false, false_or, not_true_eq_false, not_false_eq_true, and_self, or_self, iff_self]; done) | (simp [h584, h589]; done) | grind | (simp_all; done)), by kernel_rfl, hp595⟩
          · refine HOPS.take 0 {} [] [0, 2, 9, 67, 77] [.string line, .pointer (some ⟨g3, 0, none⟩), .string (lineV xx), .agg #[.int .i64 10, .int .i64 v509, .int .i64 v524, .string ByteArray.empty, .slice none 0 0, .slice ao no co], .bool (decide ((chkI xx) = 0))] (by kernel_rfl) ⟨(show Ld Tryd.prog w574.drew 31 ⟨g497, 0, none⟩ (.agg #[.int .i64 10, .int .i64 v509, .int .i64 v524, .string ByteArray.empty, .slice none 0 0, .slice ao no co]) from Ld.rowN (cs := [.int .i64 10, .int .i64 v509, .int .i64 v524, .string ByteArray.empty, .slice none 0 0, .slice ao no co]) hp579.get3 (by kernel_rfl)), (show Ld Tryd.prog w574.drew 4 ⟨g15, 1, none⟩ (.bool bz) from (Ld.row1 (P := Tryd.prog) (t := 4) (o := 1) (v := .bool bz) hp579.get1 (by kernel_rfl))), trivial⟩ (fun _ _ => QB.mk .nil (by kernel_rfl)) (fun b599 => ?_)
            refine HOPS.re [.string line, .pointer (some ⟨g3, 0, none⟩), .string (lineV xx), .agg #[.int .i64 10, .int .i64 v509, .int .i64 v524, .string ByteArray.empty, .slice none 0 0, .slice ao no co], .bool false] (by rw [show (decide ((chkI xx) = 0)) = false from Bp.dec.ff h589]) ?_
            refine HOPS.take 4 { wraps := [81] } [] [2, 67, 81] [.pointer (some ⟨g3, 0, none⟩), .agg #[.int .i64 10, .int .i64 v509, .int .i64 v524, .string ByteArray.empty, .slice none 0 0, .slice ao no co], .bool false] (by kernel_rfl) ⟨(show Ld Tryd.prog w574.drew 31 ⟨g497, 0, none⟩ (.agg #[.int .i64 10, .int .i64 v509, .int .i64 v524, .string ByteArray.empty, .slice none 0 0, .slice ao no co]) from Ld.rowN (cs := [.int .i64 10, .int .i64 v509, .int .i64 v524, .string ByteArray.empty, .slice none 0 0, .slice ao no co]) hp579.get3 (by kernel_rfl)), (show Ld Tryd.prog w574.drew 4 ⟨g15, 1, none⟩ (.bool bz) from (Ld.row1 (P := Tryd.prog) (t := 4) (o := 1) (v := .bool bz) hp579.get1 (by kernel_rfl))), trivial⟩ (fun w600 hS601 => QB.mk .nil (by kernel_rfl)) (fun b602 => ?_)
            refine HOPS.eff _ rfl (opStep.store6 hp579 rfl [.int .i64 10, .int .i64 v509, .int .i64 v524, .string ByteArray.empty, .slice none 0 0, .slice ao no co] [.int .i64 10, .int .i64 v509, .int .i64 v524, .string ByteArray.empty, .slice none 0 0, .slice ao no co] (by kernel_rfl) (fun w603 hp604 => ?_))
            refine ⟨.inr ⟨(show Ld Tryd.prog w603 31 ⟨g497, 0, none⟩ (.agg #[.int .i64 10, .int .i64 v509, .int .i64 v524, .string ByteArray.empty, .slice none 0 0, .slice ao no co]) from Ld.rowN (cs := [.int .i64 10, .int .i64 v509, .int .i64 v524, .string ByteArray.empty, .slice none 0 0, .slice ao no co]) hp604.get3 (by kernel_rfl)), (show Ld Tryd.prog w603 4 ⟨g15, 1, none⟩ (.bool bz) from (Ld.row1 (P := Tryd.prog) (t := 4) (o := 1) (v := .bool bz) hp604.get1 (by kernel_rfl))), trivial⟩, ?_⟩
            refine HOPS.take 1 {} [] [2, 3] [.pointer (some ⟨g3, 0, none⟩), .bool false] (by kernel_rfl) ⟨(show Ld Tryd.prog w603 31 ⟨g497, 0, none⟩ (.agg #[.int .i64 10, .int .i64 v509, .int .i64 v524, .string ByteArray.empty, .slice none 0 0, .slice ao no co]) from Ld.rowN (cs := [.int .i64 10, .int .i64 v509, .int .i64 v524, .string ByteArray.empty, .slice none 0 0, .slice ao no co]) hp604.get3 (by kernel_rfl)), (show Ld Tryd.prog w603 4 ⟨g15, 1, none⟩ (.bool bz) from (Ld.row1 (P := Tryd.prog) (t := 4) (o := 1) (v := .bool bz) hp604.get1 (by kernel_rfl))), trivial⟩ (fun w605 hS606 => QB.mk .nil (by kernel_rfl)) (fun b607 => ?_)
            refine HOPS.nil ?_
            refine thn_n ?_
            exact ⟨false, trivial, Bp.of Bp.f (by first | (simp only [h584, h589, iff_false, false_iff, iff_true, true_iff, Classical.not_not, and_true, true_and, and_false, false_and, or_true, true_or, or_false, false_or, not_true_eq_false, not_false_eq_true, and_self, or_self, iff_self]; done) | (simp [h584, h589]; done) | grind | (simp_all; done)), by kernel_rfl, hp604⟩
      rintro e619 w620 ⟨x617, hd622, hb618, hE623, hp621⟩
      obtain ⟨b624, rfl⟩ := toMk hE623
      clear hE623
      clear hd622
      refine WP.ret ?_
      refine bodyQ.of _ rfl [.agg #[.int .i64 10, .int .i64 v509, .int .i64 v524, .string ByteArray.empty, .slice none 0 0, .slice ao no co], .bool x617] ⟨⟨_, rfl, (show Ld Tryd.prog w620 31 ⟨g3, 0, none⟩ (.agg #[.int .i64 10, .int .i64 v509, .int .i64 v524, .string ByteArray.empty, .slice none 0 0, .slice ao no co]) from Ld.rowN (cs := [.int .i64 10, .int .i64 v509, .int .i64 v524, .string ByteArray.empty, .slice none 0 0, .slice ao no co]) hp621.get6 (by kernel_rfl))⟩, rfl, trivial⟩ ?_
      have hre := fun y (h1 : okS y) (h2 : inS y) (h3 : y.Kind = 10) (h4 : lineS y = line) => (show _ ∧ xx = y from hxx ▸ read_ok (k := 10) (line := line) rfl rfl (.t rfl ⟨hn511, rfl⟩) (.t rfl ⟨hn526, rfl⟩) (.f rfl ⟨rfl, rfl, rfl⟩) (.f rfl ⟨rfl, rfl, rfl⟩) (rn_end hrn pa (by omega)) h1 h2 h3 h4)
      have hfin := step_fin (P := (¬ (bz = true)) ∧ ((chkI xx) = 0) ∧ ((lineV xx) = line)) hk38 hsm.1 hre (by have q0_ := h540 ; first | grind | (simp_all; done))
      exact ⟨(⟨10, v509, v524, ByteArray.empty, ⟨none, 0, 0⟩, ⟨ao, no, co⟩⟩ : GStep), xx, _, _, rfl, ⟨fun h => hfin.1 (Bp.tr hb618 h), fun h => hfin.2 (Bp.fa hb618 h)⟩, (by rw [hxx]; exact Hp.svMake0 (E := 3) (⟨10, v509, v524, ByteArray.empty, ⟨none, 0, 0⟩, ⟨ao, no, co⟩⟩ : GStep) _ rfl rfl rfl rfl rfl rfl (hp621.sub (.cons_cons _ (.cons _ (.cons _ (.cons _ (.cons _ (.cons _ (.cons _ (.slnil))))))))))⟩
  · rw [hk38]
    refine OPS.batch 1 {} [] [0, 2, 4, 6] [.string line, .pointer (some ⟨g3, 0, none⟩), .pointer (some ⟨g15, 0, none⟩), .int .i64 12] .nil (by kernel_rfl) (fun b625 => ?_)
    refine OPS.nil ?_
    refine thn_n ?_
    refine WP.seq ?_
    refine WP.seq ?_
    refine WP.pure {} [] [0, 2, 4, 6, 21] [.string line, .pointer (some ⟨g3, 0, none⟩), .pointer (some ⟨g15, 0, none⟩), .int .i64 12, .bool false] .nil (by kernel_rfl) (fun b626 => ?_)
    refine thn_n ?_
    refine WP.condF rfl ?_
    refine WP.skip ?_
    refine thn_n ?_
    refine WP.seq ?_
    refine WP.region _ rfl (by kernel_rfl) ?_
    refine OPS.batch 3 {} [.agg #[.string ⟨#[99, 114, 97, 115, 104]⟩, .bool true, .bool false, .bool false, .bool false, .bool false, .bool true]] [0, 2, 4, 6, 25] [.string line, .pointer (some ⟨g3, 0, none⟩), .pointer (some ⟨g15, 0, none⟩), .int .i64 12, .agg #[.string ⟨#[99, 114, 97, 115, 104]⟩, .bool true, .bool false, .bool false, .bool false, .bool false, .bool true]] (.cons (show InB (12) (17) from ⟨by omega, by omega⟩) (.cons (show Ld Tryd.prog w35 56 ⟨0, 84, none⟩ (.agg #[.string ⟨#[99, 114, 97, 115, 104]⟩, .bool true, .bool false, .bool false, .bool false, .bool false, .bool true]) from Ld.rowN (cs := [.string ⟨#[99, 114, 97, 115, 104]⟩, .bool true, .bool false, .bool false, .bool false, .bool false, .bool true]) (row_at hls.tab hp37.fr) (by kernel_rfl)) .nil)) (by kernel_rfl) (fun b627 => ?_)
    refine OPS.cons (opStep.alloc hp37 [.string ByteArray.empty, .bool false, .bool false, .bool false, .bool false, .bool false, .bool false] (by kernel_rfl) (fun g630 w628 hp629 => ?_))
    refine OPS.cons (opStep.store0 hp629 rfl [.string ⟨#[99, 114, 97, 115, 104]⟩, .bool true, .bool false, .bool false, .bool false, .bool false, .bool true] [.string ⟨#[99, 114, 97, 115, 104]⟩, .bool true, .bool false, .bool false, .bool false, .bool false, .bool true] (by kernel_rfl) (fun w631 hp632 => ?_))
    refine OPS.nil ?_
    refine thn_n ?_
    refine WP.seq ?_
    refine WP.region _ rfl (by kernel_rfl) ?_
    refine OPS.batch 2 {} [] [0, 2, 4, 7, 27] [.string line, .pointer (some ⟨g3, 0, none⟩), .pointer (some ⟨g15, 0, none⟩), .pointer (some ⟨g630, 0, none⟩), .agg #[.int .i64 12, .int .i64 0, .int .i64 0, .string ByteArray.empty, .slice none 0 0, .slice none 0 0]] .nil (by kernel_rfl) (fun b633 => ?_)
    refine OPS.cons (opStep.alloc hp632 [.int .i64 0, .int .i64 0, .int .i64 0, .string ByteArray.empty, .slice none 0 0, .slice none 0 0] (by kernel_rfl) (fun g636 w634 hp635 => ?_))
    refine OPS.cons (opStep.store0 hp635 rfl [.int .i64 12, .int .i64 0, .int .i64 0, .string ByteArray.empty, .slice none 0 0, .slice none 0 0] [.int .i64 12, .int .i64 0, .int .i64 0, .string ByteArray.empty, .slice none 0 0, .slice none 0 0] (by kernel_rfl) (fun w637 hp638 => ?_))
    refine OPS.nil ?_
    refine thn_n ?_
    refine WP.seq ?_
    refine WP.seq ?_
    refine WP.pure {} [.bool true] [0, 2, 4, 7, 8, 29] [.string line, .pointer (some ⟨g3, 0, none⟩), .pointer (some ⟨g15, 0, none⟩), .pointer (some ⟨g630, 0, none⟩), .pointer (some ⟨g636, 0, none⟩), .bool true] (.cons (Ld.row1 (P := Tryd.prog) (t := 4) (o := 1) (v := .bool true) hp638.get1 (by kernel_rfl)) .nil) (by kernel_rfl) (fun b639 => ?_)
    refine thn_n ?_
    refine WP.condT rfl ?_
    refine WP.region _ rfl (by kernel_rfl) ?_
    refine OPS.batch 1 {} [] [0, 2, 4, 7, 8, 30] [.string line, .pointer (some ⟨g3, 0, none⟩), .pointer (some ⟨g15, 0, none⟩), .pointer (some ⟨g630, 0, none⟩), .pointer (some ⟨g636, 0, none⟩), .pointer (some ⟨g15, 0, none⟩)] .nil (by kernel_rfl) (fun b640 => ?_)
    have hp643 := hp638.pull4
    have hp644 := hp643.pull4
    refine OPS.cons (opStep.call (some 31) [.pointer (some ⟨g15, 0, none⟩)] (by kernel_rfl) (w_number _ _ g15 g10 h24 ((wordsB line).tail) (false || (wordsB line).isEmpty) _ hl (tail_size hsz) hp644) ?_)
    rintro _ w645 ⟨h647, v648, bd649_, rfl, hn650, hp646⟩
    refine ⟨_, rfl, ?_⟩
    have hn650a := hn650.rng.1
    have hn650b := hn650.rng.2
    have hn650z := itoaT_size hn650a hn650b
    refine OPS.batch 1 {} [] [0, 2, 4, 7, 8, 31, 32] [.string line, .pointer (some ⟨g3, 0, none⟩), .pointer (some ⟨g15, 0, none⟩), .pointer (some ⟨g630, 0, none⟩), .pointer (some ⟨g636, 0, none⟩), .int .i64 v648, .pointer (some ⟨g636, 1, none⟩)] .nil (by kernel_rfl) (fun b651 => ?_)
    refine OPS.cons (opStep.store2 hp646 rfl [.int .i64 v648] [.int .i64 12, .int .i64 v648, .int .i64 0, .string ByteArray.empty, .slice none 0 0, .slice none 0 0] (by kernel_rfl) (fun w652 hp653 => ?_))
    refine OPS.nil ?_
    refine thn_n ?_
    refine WP.seq ?_
    refine WP.seq ?_
    refine WP.pure {} [.bool false] [0, 2, 4, 7, 8, 34] [.string line, .pointer (some ⟨g3, 0, none⟩), .pointer (some ⟨g15, 0, none⟩), .pointer (some ⟨g630, 0, none⟩), .pointer (some ⟨g636, 0, none⟩), .bool false] (.cons (Ld.row1 (P := Tryd.prog) (t := 4) (o := 2) (v := .bool false) hp653.get3 (by kernel_rfl)) .nil) (by kernel_rfl) (fun b654 => ?_)
    refine thn_n ?_
    refine WP.condF rfl ?_
    refine WP.skip ?_
    refine thn_n ?_
    refine WP.seq ?_
    refine WP.seq ?_
    refine WP.pure {} [.bool false] [0, 2, 4, 7, 8, 39] [.string line, .pointer (some ⟨g3, 0, none⟩), .pointer (some ⟨g15, 0, none⟩), .pointer (some ⟨g630, 0, none⟩), .pointer (some ⟨g636, 0, none⟩), .bool false] (.cons (Ld.row1 (P := Tryd.prog) (t := 4) (o := 3) (v := .bool false) hp653.get3 (by kernel_rfl)) .nil) (by kernel_rfl) (fun b655 => ?_)
    refine thn_n ?_
    refine WP.condF rfl ?_
    refine WP.skip ?_
    refine thn_n ?_
    refine WP.seq ?_
    refine WP.seq ?_
    refine WP.pure {} [.bool false] [0, 2, 4, 8, 44] [.string line, .pointer (some ⟨g3, 0, none⟩), .pointer (some ⟨g15, 0, none⟩), .pointer (some ⟨g636, 0, none⟩), .bool false] (.cons (Ld.row1 (P := Tryd.prog) (t := 4) (o := 4) (v := .bool false) hp653.get3 (by kernel_rfl)) .nil) (by kernel_rfl) (fun b656 => ?_)
    refine thn_n ?_
    refine WP.condF rfl ?_
    refine WP.skip ?_
    refine thn_n ?_
    refine WP.seq ?_
    refine WP.block ?_
    have hp657 := (show Hp w Non [Res.own 3 1 (.slice none 0 0) 0 (List.flatMap i64c ([] : List Int)), Res.row g15 [.slice h647.a h647.n h647.c, .bool bd649_] 75, Res.lst g10 h647 (((wordsB line).tail).tail), Res.row g636 [.int .i64 12, .int .i64 v648, .int .i64 0, .string ByteArray.empty, .slice none 0 0, .slice none 0 0] 31, Res.row g630 [.string ⟨#[99, 114, 97, 115, 104]⟩, .bool true, .bool false, .bool false, .bool false, .bool false, .bool true] 56, Res.row g27 [.string ((wordsB line).headD ByteArray.empty)] 9, Res.row g3 [.int .i64 0, .int .i64 0, .int .i64 0, .string ByteArray.empty, .slice none 0 0, .slice none 0 0] 31] w652 from hp653.nilOwn 3 1)
    refine WP.loop (fun mz_ e658 w659 => ∃ (wz : List ByteArray) (hz : SlH) (bz : Bool) (ls : List Int) (ao : Option Addr) (no : Nat) (co : Nat), mz_ = wz.length ∧ (wz = List.drop ls.length (((wordsB line).tail).tail) ∧ ls.length ≤ (wordsB line).length ∧ RnI bd649_ (((wordsB line).tail).tail) ls bz ∧ (∀ x ∈ wz, x.size ≤ 281474976710656)) ∧ List.map e658 [0, 2, 4, 8] = [.string line, .pointer (some ⟨g3, 0, none⟩), .pointer (some ⟨g15, 0, none⟩), .pointer (some ⟨g636, 0, none⟩)] ∧ Hp w Non [Res.own 3 1 (.slice ao no co) no (List.flatMap i64c ls), Res.row g15 [.slice hz.a hz.n hz.c, .bool bz] 75, Res.lst g10 hz wz, Res.row g636 [.int .i64 12, .int .i64 v648, .int .i64 0, .string ByteArray.empty, .slice none 0 0, .slice ao no co] 31, Res.row g630 [.string ⟨#[99, 114, 97, 115, 104]⟩, .bool true, .bool false, .bool false, .bool false, .bool false, .bool true] 56, Res.row g27 [.string ((wordsB line).headD ByteArray.empty)] 9, Res.row g3 [.int .i64 0, .int .i64 0, .int .i64 0, .string ByteArray.empty, .slice none 0 0, .slice none 0 0] 31] w659) ((((wordsB line).tail).tail).length) ⟨((wordsB line).tail).tail, h647, bd649_, [], none, 0, 0, rfl, ⟨rfl, Nat.zero_le _, rn_start _ _, (tail_size (tail_size hsz))⟩, by kernel_rfl, hp657⟩ ?_
    rintro _ e658 w659 ⟨wz, hz, bz, ls, ao, no, co, rfl, hI661, hE662, hp660⟩
    obtain ⟨b663, rfl⟩ := toMk hE662
    clear hE662
    obtain ⟨pa, pb, hrn, hsw⟩ := hI661
    have hlz := lst_len hp660.get2
    have hsz := hsw
    have pe := own_flat (f := i64c) (sz := 1) (fun _ => rfl) (by decide) hp660.get0
    have hdl := congrArg List.length pa
    rw [List.length_drop] at hdl
    have hw4 : (((wordsB line).tail).tail).length ≤ (wordsB line).length := by simp only [List.length_tail]; omega
    refine WP.seq ?_
    refine WP.seq ?_
    refine WP.pure {} [.slice hz.a hz.n hz.c] [0, 2, 4, 8, 54] [.string line, .pointer (some ⟨g3, 0, none⟩), .pointer (some ⟨g15, 0, none⟩), .pointer (some ⟨g636, 0, none⟩), .bool (decide (0 < ((hz.n : Nat) : Int)))] (.cons (Ld.row1 (P := Tryd.prog) (t := 36) (o := 0) (v := .slice hz.a hz.n hz.c) hp660.get1 (by kernel_rfl)) .nil) (by kernel_rfl) (fun b664 => ?_)
    refine thn_n ?_
    refine WP.test (p := 0 < ((hz.n : Nat) : Int)) rfl Bp.dec (fun h665 => ?_) (fun h665 => ?_)
    · refine WP.skip ?_
      refine thn_n ?_
      refine WP.block ?_
      have hp666 := hp660.drew
      refine WP.held (fun w667 => Ld Tryd.prog w667 29 ⟨g636, 5, none⟩ (.slice ao no co) ∧ True) [7] [(0, true), (1, true), (2, true), (3, false), (4, false), (5, false), (6, true), (7, false)] (np_blk (np_thn (np_blk (np_thn np_body)))) (by kernel_rfl) ?_
      refine HOPS.take 3 {} [.slice ao no co] [0, 2, 4, 8, 56, 57] [.string line, .pointer (some ⟨g3, 0, none⟩), .pointer (some ⟨g15, 0, none⟩), .pointer (some ⟨g636, 0, none⟩), .slice ao no co, .pointer (some ⟨g15, 0, none⟩)] (by kernel_rfl) ⟨(show Ld Tryd.prog w659.drew 29 ⟨g636, 5, none⟩ (.slice ao no co) from (Ld.row1 (P := Tryd.prog) (t := 29) (o := 5) (v := .slice ao no co) hp666.get3 (by kernel_rfl))), trivial⟩ (fun w668 hS669 => QB.mk (.cons (hS669.1) .nil) (by kernel_rfl)) (fun b670 => ?_)
      have hp673 := hp666.pull2
      have hp674 := hp673.pull2
      refine HOPS.eff _ rfl (opStep.call (some 58) [.pointer (some ⟨g15, 0, none⟩)] (by kernel_rfl) (w_number _ _ g15 g10 hz wz bz _ hl hsz hp674) ?_)
      rintro _ w675 ⟨h677, v678, bd679_, rfl, hn680, hp676⟩
      refine ⟨_, rfl, ?_⟩
      have hn680a := hn680.rng.1
      have hn680b := hn680.rng.2
      have hn680z := itoaT_size hn680a hn680b
      refine ⟨.inr ⟨(show Ld Tryd.prog w675 29 ⟨g636, 5, none⟩ (.slice ao no co) from (Ld.row1 (P := Tryd.prog) (t := 29) (o := 5) (v := .slice ao no co) hp676.get3 (by kernel_rfl))), trivial⟩, ?_⟩
      refine HOPS.eff _ rfl (opStep.buildSlice (E := 3) hp676 [.int .i64 v678] (by kernel_rfl) (fun g683 w681 hp682 => ?_))
      refine ⟨.inr ⟨(show Ld Tryd.prog w681 29 ⟨g636, 5, none⟩ (.slice ao no co) from (Ld.row1 (P := Tryd.prog) (t := 29) (o := 5) (v := .slice ao no co) hp682.get4 (by kernel_rfl))), trivial⟩, ?_⟩
      refine HOPS.eff _ rfl (opStep.append3 [.int .i64 v678] hp682 8 (by kernel_rfl) rfl rfl rfl (SlR.row (n := 1) hp682.get0 rfl).rd (List.all_eq_true.1 (by kernel_rfl)) (by decide) (by omega) (by omega) (fun a686 c687 w688 hp689 hn690 => ?_))
      rw [(show List.flatMap i64c ls ++ [.int .i64 v678] = List.flatMap i64c (ls ++ [v678]) from (List.flatMap_append (xs := ls) (ys := [v678])).symm)] at hp689
      refine ⟨.inr ⟨(show Ld Tryd.prog w688 29 ⟨g636, 5, none⟩ (.slice ao no co) from (Ld.row1 (P := Tryd.prog) (t := 29) (o := 5) (v := .slice ao no co) hp689.get4 (by kernel_rfl))), trivial⟩, ?_⟩
      refine HOPS.take 1 {} [] [0, 2, 4, 8, 60, 61] [.string line, .pointer (some ⟨g3, 0, none⟩), .pointer (some ⟨g15, 0, none⟩), .pointer (some ⟨g636, 0, none⟩), .slice a686 (no + 1) c687, .pointer (some ⟨g636, 5, none⟩)] (by kernel_rfl) ⟨(show Ld Tryd.prog w688 29 ⟨g636, 5, none⟩ (.slice ao no co) from (Ld.row1 (P := Tryd.prog) (t := 29) (o := 5) (v := .slice ao no co) hp689.get4 (by kernel_rfl))), trivial⟩ (fun w691 hS692 => QB.mk .nil (by kernel_rfl)) (fun b693 => ?_)
      refine HOPS.eff _ rfl (opStep.store4 hp689 rfl [.slice a686 (no + 1) c687] [.int .i64 12, .int .i64 v648, .int .i64 0, .string ByteArray.empty, .slice none 0 0, .slice a686 (no + 1) c687] (by kernel_rfl) (fun w694 hp695 => ?_))
      refine ⟨.inl rfl, ?_⟩
      refine HOPS.nil ?_
      refine blk_n ?_
      refine thn_n ?_
      exact ⟨(wz.tail).length, (by rw [List.length_tail]; omega), wz.tail, h677, bd679_, ls ++ [v678], a686, no + 1, c687, rfl, ⟨by rw [List.length_append, List.length_singleton, ← List.drop_drop, ← pa, List.drop_one], by rw [List.length_append, List.length_singleton]; omega, rn_step hrn pa hn680 (by omega), tail_size hsw⟩, by kernel_rfl, ((((((((hp695.pull7).pull7).pull7).pull7).pull6).pull6).pull7).sub (.cons_cons _ (.cons_cons _ (.cons_cons _ (.cons_cons _ (.cons_cons _ (.cons_cons _ (.cons_cons _ (.cons _ (.slnil))))))))))⟩
    · refine WP.exit ?_
      refine thn_x ?_
      refine thn_x ?_
      refine blk_hit ?_
      refine thn_n ?_
      refine WP.seq ?_
      refine WP.region _ rfl (by kernel_rfl) ?_
      refine OPS.batch 1 {} [.agg #[.int .i64 12, .int .i64 v648, .int .i64 0, .string ByteArray.empty, .slice none 0 0, .slice ao no co]] [0, 2, 4, 8, 63] [.string line, .pointer (some ⟨g3, 0, none⟩), .pointer (some ⟨g15, 0, none⟩), .pointer (some ⟨g636, 0, none⟩), .agg #[.int .i64 12, .int .i64 v648, .int .i64 0, .string ByteArray.empty, .slice none 0 0, .slice ao no co]] (.cons (show Ld Tryd.prog w659 31 ⟨g636, 0, none⟩ (.agg #[.int .i64 12, .int .i64 v648, .int .i64 0, .string ByteArray.empty, .slice none 0 0, .slice ao no co]) from Ld.rowN (cs := [.int .i64 12, .int .i64 v648, .int .i64 0, .string ByteArray.empty, .slice none 0 0, .slice ao no co]) hp660.get3 (by kernel_rfl)) .nil) (by kernel_rfl) (fun b696 => ?_)
      obtain ⟨xx, hxx⟩ : ∃ z : StepP, z = ⟨12, v648, 0, ByteArray.empty, (⟨#[]⟩ : ByteArray), ls⟩ := ⟨_, rfl⟩
      have hsm : smS xx := by rw [hxx]; exact ⟨⟨hn650.rng, in0, hrn.1⟩, (by simp only; decide), (by simp only; decide), by simp only; omega⟩
      refine OPS.cons (opStep.call (some 64) [.agg #[.int .i64 12, .int .i64 v648, .int .i64 0, .string ByteArray.empty, .slice none 0 0, .slice ao no co]] (by kernel_rfl) (sc_Line (⟨12, v648, 0, ByteArray.empty, ⟨none, 0, 0⟩, ⟨ao, no, co⟩⟩ : GStep) xx _ (hls.fram hp660.fr) (by rw [hxx]; exact (StR.of rfl rfl rfl rfl (⟨rfl, slr_nil0 _⟩) (own_flat (f := i64c) (sz := 1) (fun _ => rfl) (by decide) hp660.get0).symm (SlR.own hp660.get0))) hsm) ?_)
      rintro _ w699 ⟨rfl, hf700⟩
      refine ⟨_, rfl, ?_⟩
      have hp701 := hp660.step hf700
      refine OPS.batch 5 {} [] [0, 2, 4, 8, 9, 10] [.string line, .pointer (some ⟨g3, 0, none⟩), .pointer (some ⟨g15, 0, none⟩), .pointer (some ⟨g636, 0, none⟩), .string (lineV xx), .int .i64 (chkI xx)] .nil (by kernel_rfl) (fun b702 => ?_)
      refine OPS.nil ?_
      refine thn_n ?_
      refine WP.cut (fun e744 w745 => ∃ (x742 : Bool), (True) ∧ Bp x742 ((¬ (bz = true)) ∧ ((chkI xx) = 0) ∧ ((lineV xx) = line)) ∧ List.map e744 [2, 3] = [.pointer (some ⟨g3, 0, none⟩), .bool x742] ∧ Hp w Non [Res.own 3 1 (.slice ao no co) no (List.flatMap i64c ls), Res.row g15 [.slice hz.a hz.n hz.c, .bool bz] 75, Res.lst g10 hz wz, Res.row g636 [.int .i64 12, .int .i64 v648, .int .i64 0, .string ByteArray.empty, .slice none 0 0, .slice ao no co] 31, Res.row g630 [.string ⟨#[99, 114, 97, 115, 104]⟩, .bool true, .bool false, .bool false, .bool false, .bool false, .bool true] 56, Res.row g27 [.string ((wordsB line).headD ByteArray.empty)] 9, Res.row g3 [.int .i64 12, .int .i64 v648, .int .i64 0, .string ByteArray.empty, .slice none 0 0, .slice ao no co] 31] w745) ?_ ?_
      · have hp704 := hp701.drew
        refine WP.held (fun w705 => Ld Tryd.prog w705 31 ⟨g636, 0, none⟩ (.agg #[.int .i64 12, .int .i64 v648, .int .i64 0, .string ByteArray.empty, .slice none 0 0, .slice ao no co]) ∧ Ld Tryd.prog w705 4 ⟨g15, 1, none⟩ (.bool bz) ∧ True) [] [(0, true), (1, true), (2, true), (3, true), (4, true), (5, true), (6, true), (7, true), (8, true), (9, true), (10, true), (11, true), (12, true), (13, true), (14, true), (15, false), (16, true)] (np_thn np_body) (by kernel_rfl) ?_
        refine HOPS.take 7 {} [.agg #[.int .i64 12, .int .i64 v648, .int .i64 0, .string ByteArray.empty, .slice none 0 0, .slice ao no co], .bool bz] [0, 2, 9, 10, 67, 73] [.string line, .pointer (some ⟨g3, 0, none⟩), .string (lineV xx), .int .i64 (chkI xx), .agg #[.int .i64 12, .int .i64 v648, .int .i64 0, .string ByteArray.empty, .slice none 0 0, .slice ao no co], .bool (!bz)] (by kernel_rfl) ⟨(show Ld Tryd.prog w699.drew 31 ⟨g636, 0, none⟩ (.agg #[.int .i64 12, .int .i64 v648, .int .i64 0, .string ByteArray.empty, .slice none 0 0, .slice ao no co]) from Ld.rowN (cs := [.int .i64 12, .int .i64 v648, .int .i64 0, .string ByteArray.empty, .slice none 0 0, .slice ao no co]) hp704.get3 (by kernel_rfl)), (show Ld Tryd.prog w699.drew 4 ⟨g15, 1, none⟩ (.bool bz) from (Ld.row1 (P := Tryd.prog) (t := 4) (o := 1) (v := .bool bz) hp704.get1 (by kernel_rfl))), trivial⟩ (fun w706 hS707 => QB.mk (.cons (hS707.1) (.cons (hS707.2.1) .nil)) (by kernel_rfl)) (fun b708 => ?_)
        by_cases h709 : bz = true
        · refine HOPS.take 0 {} [] [0, 2, 9, 10, 67, 73] [.string line, .pointer (some ⟨g3, 0, none⟩), .string (lineV xx), .int .i64 (chkI xx), .agg #[.int .i64 12, .int .i64 v648, .int .i64 0, .string ByteArray.empty, .slice none 0 0, .slice ao no co], .bool (!bz)] (by kernel_rfl) ⟨(show Ld Tryd.prog w699.drew 31 ⟨g636, 0, none⟩ (.agg #[.int .i64 12, .int .i64 v648, .int .i64 0, .string ByteArray.empty, .slice none 0 0, .slice ao no co]) from Ld.rowN (cs := [.int .i64 12, .int .i64 v648, .int .i64 0, .string ByteArray.empty, .slice none 0 0, .slice ao no co]) hp704.get3 (by kernel_rfl)), (show Ld Tryd.prog w699.drew 4 ⟨g15, 1, none⟩ (.bool bz) from (Ld.row1 (P := Tryd.prog) (t := 4) (o := 1) (v := .bool bz) hp704.get1 (by kernel_rfl))), trivial⟩ (fun _ _ => QB.mk .nil (by kernel_rfl)) (fun b733 => ?_)
          refine HOPS.re [.string line, .pointer (some ⟨g3, 0, none⟩), .string (lineV xx), .int .i64 (chkI xx), .agg #[.int .i64 12, .int .i64 v648, .int .i64 0, .string ByteArray.empty, .slice none 0 0, .slice ao no co], .bool false] (by rw [show (!bz) = false from (Bp.not Bp.var).ff (fun k => k h709)]) ?_
          refine HOPS.take 8 { wraps := [76, 81] } [] [2, 67, 81] [.pointer (some ⟨g3, 0, none⟩), .agg #[.int .i64 12, .int .i64 v648, .int .i64 0, .string ByteArray.empty, .slice none 0 0, .slice ao no co], .bool false] (by kernel_rfl) ⟨(show Ld Tryd.prog w699.drew 31 ⟨g636, 0, none⟩ (.agg #[.int .i64 12, .int .i64 v648, .int .i64 0, .string ByteArray.empty, .slice none 0 0, .slice ao no co]) from Ld.rowN (cs := [.int .i64 12, .int .i64 v648, .int .i64 0, .string ByteArray.empty, .slice none 0 0, .slice ao no co]) hp704.get3 (by kernel_rfl)), (show Ld Tryd.prog w699.drew 4 ⟨g15, 1, none⟩ (.bool bz) from (Ld.row1 (P := Tryd.prog) (t := 4) (o := 1) (v := .bool bz) hp704.get1 (by kernel_rfl))), trivial⟩ (fun w734 hS735 => QB.mk .nil (by kernel_rfl)) (fun b736 => ?_)
          refine HOPS.eff _ rfl (opStep.store6 hp704 rfl [.int .i64 12, .int .i64 v648, .int .i64 0, .string ByteArray.empty, .slice none 0 0, .slice ao no co] [.int .i64 12, .int .i64 v648, .int .i64 0, .string ByteArray.empty, .slice none 0 0, .slice ao no co] (by kernel_rfl) (fun w737 hp738 => ?_))
          refine ⟨.inr ⟨(show Ld Tryd.prog w737 31 ⟨g636, 0, none⟩ (.agg #[.int .i64 12, .int .i64 v648, .int .i64 0, .string ByteArray.empty, .slice none 0 0, .slice ao no co]) from Ld.rowN (cs := [.int .i64 12, .int .i64 v648, .int .i64 0, .string ByteArray.empty, .slice none 0 0, .slice ao no co]) hp738.get3 (by kernel_rfl)), (show Ld Tryd.prog w737 4 ⟨g15, 1, none⟩ (.bool bz) from (Ld.row1 (P := Tryd.prog) (t := 4) (o := 1) (v := .bool bz) hp738.get1 (by kernel_rfl))), trivial⟩, ?_⟩
          refine HOPS.take 1 {} [] [2, 3] [.pointer (some ⟨g3, 0, none⟩), .bool false] (by kernel_rfl) ⟨(show Ld Tryd.prog w737 31 ⟨g636, 0, none⟩ (.agg #[.int .i64 12, .int .i64 v648, .int .i64 0, .string ByteArray.empty, .slice none 0 0, .slice ao no co]) from Ld.rowN (cs := [.int .i64 12, .int .i64 v648, .int .i64 0, .string ByteArray.empty, .slice none 0 0, .slice ao no co]) hp738.get3 (by kernel_rfl)), (show Ld Tryd.prog w737 4 ⟨g15, 1, none⟩ (.bool bz) from (Ld.row1 (P := Tryd.prog) (t := 4) (o := 1) (v := .bool bz) hp738.get1 (by kernel_rfl))), trivial⟩ (fun w739 hS740 => QB.mk .nil (by kernel_rfl)) (fun b741 => ?_)
          refine HOPS.nil ?_
          refine thn_n ?_
          exact ⟨false, trivial, Bp.of Bp.f (by first | (simp only [h709, iff_false, false_iff, iff_true, true_iff, Classical.not_not, and_true, true_and, and_false, false_and, or_true, true_or, or_false, false_or, not_true_eq_false, not_false_eq_true, and_self, or_self, iff_self]; done) | (simp [h709]; done) | grind | (simp_all; done)), by kernel_rfl, hp738⟩
        · refine HOPS.take 0 {} [] [0, 2, 9, 10, 67, 73] [.string line, .pointer (some ⟨g3, 0, none⟩), .string (lineV xx), .int .i64 (chkI xx), .agg #[.int .i64 12, .int .i64 v648, .int .i64 0, .string ByteArray.empty, .slice none 0 0, .slice ao no co], .bool (!bz)] (by kernel_rfl) ⟨(show Ld Tryd.prog w699.drew 31 ⟨g636, 0, none⟩ (.agg #[.int .i64 12, .int .i64 v648, .int .i64 0, .string ByteArray.empty, .slice none 0 0, .slice ao no co]) from Ld.rowN (cs := [.int .i64 12, .int .i64 v648, .int .i64 0, .string ByteArray.empty, .slice none 0 0, .slice ao no co]) hp704.get3 (by kernel_rfl)), (show Ld Tryd.prog w699.drew 4 ⟨g15, 1, none⟩ (.bool bz) from (Ld.row1 (P := Tryd.prog) (t := 4) (o := 1) (v := .bool bz) hp704.get1 (by kernel_rfl))), trivial⟩ (fun _ _ => QB.mk .nil (by kernel_rfl)) (fun b710 => ?_)
          refine HOPS.re [.string line, .pointer (some ⟨g3, 0, none⟩), .string (lineV xx), .int .i64 (chkI xx), .agg #[.int .i64 12, .int .i64 v648, .int .i64 0, .string ByteArray.empty, .slice none 0 0, .slice ao no co], .bool true] (by rw [show (!bz) = true from (Bp.not Bp.var).tt h709]) ?_
          refine HOPS.take 4 { wraps := [76] } [] [0, 2, 9, 67, 77] [.string line, .pointer (some ⟨g3, 0, none⟩), .string (lineV xx), .agg #[.int .i64 12, .int .i64 v648, .int .i64 0, .string ByteArray.empty, .slice none 0 0, .slice ao no co], .bool (decide ((chkI xx) = 0))] (by kernel_rfl) ⟨(show Ld Tryd.prog w699.drew 31 ⟨g636, 0, none⟩ (.agg #[.int .i64 12, .int .i64 v648, .int .i64 0, .string ByteArray.empty, .slice none 0 0, .slice ao no co]) from Ld.rowN (cs := [.int .i64 12, .int .i64 v648, .int .i64 0, .string ByteArray.empty, .slice none 0 0, .slice ao no co]) hp704.get3 (by kernel_rfl)), (show Ld Tryd.prog w699.drew 4 ⟨g15, 1, none⟩ (.bool bz) from (Ld.row1 (P := Tryd.prog) (t := 4) (o := 1) (v := .bool bz) hp704.get1 (by kernel_rfl))), trivial⟩ (fun w711 hS712 => QB.mk .nil (by kernel_rfl)) (fun b713 => ?_)
          by_cases h714 : (chkI xx) = 0
          · refine HOPS.take 0 {} [] [0, 2, 9, 67, 77] [.string line, .pointer (some ⟨g3, 0, none⟩), .string (lineV xx), .agg #[.int .i64 12, .int .i64 v648, .int .i64 0, .string ByteArray.empty, .slice none 0 0, .slice ao no co], .bool (decide ((chkI xx) = 0))] (by kernel_rfl) ⟨(show Ld Tryd.prog w699.drew 31 ⟨g636, 0, none⟩ (.agg #[.int .i64 12, .int .i64 v648, .int .i64 0, .string ByteArray.empty, .slice none 0 0, .slice ao no co]) from Ld.rowN (cs := [.int .i64 12, .int .i64 v648, .int .i64 0, .string ByteArray.empty, .slice none 0 0, .slice ao no co]) hp704.get3 (by kernel_rfl)), (show Ld Tryd.prog w699.drew 4 ⟨g15, 1, none⟩ (.bool bz) from (Ld.row1 (P := Tryd.prog) (t := 4) (o := 1) (v := .bool bz) hp704.get1 (by kernel_rfl))), trivial⟩ (fun _ _ => QB.mk .nil (by kernel_rfl)) (fun b715 => ?_)
            refine HOPS.re [.string line, .pointer (some ⟨g3, 0, none⟩), .string (lineV xx), .agg #[.int .i64 12, .int .i64 v648, .int .i64 0, .string ByteArray.empty, .slice none 0 0, .slice ao no co], .bool true] (by rw [show (decide ((chkI xx) = 0)) = true from Bp.dec.tt h714]) ?_
            refine HOPS.take 4 { wraps := [81] } [] [2, 67, 81] [.pointer (some ⟨g3, 0, none⟩), .agg #[.int .i64 12, .int .i64 v648, .int .i64 0, .string ByteArray.empty, .slice none 0 0, .slice ao no co], .bool (decide ((lineV xx) = line))] (by kernel_rfl) ⟨(show Ld Tryd.prog w699.drew 31 ⟨g636, 0, none⟩ (.agg #[.int .i64 12, .int .i64 v648, .int .i64 0, .string ByteArray.empty, .slice none 0 0, .slice ao no co]) from Ld.rowN (cs := [.int .i64 12, .int .i64 v648, .int .i64 0, .string ByteArray.empty, .slice none 0 0, .slice ao no co]) hp704.get3 (by kernel_rfl)), (show Ld Tryd.prog w699.drew 4 ⟨g15, 1, none⟩ (.bool bz) from (Ld.row1 (P := Tryd.prog) (t := 4) (o := 1) (v := .bool bz) hp704.get1 (by kernel_rfl))), trivial⟩ (fun w716 hS717 => QB.mk .nil (by kernel_rfl)) (fun b718 => ?_)
            refine HOPS.eff _ rfl (opStep.store6 hp704 rfl [.int .i64 12, .int .i64 v648, .int .i64 0, .string ByteArray.empty, .slice none 0 0, .slice ao no co] [.int .i64 12, .int .i64 v648, .int .i64 0, .string ByteArray.empty, .slice none 0 0, .slice ao no co] (by kernel_rfl) (fun w719 hp720 => ?_))
            refine ⟨.inr ⟨(show Ld Tryd.prog w719 31 ⟨g636, 0, none⟩ (.agg #[.int .i64 12, .int .i64 v648, .int .i64 0, .string ByteArray.empty, .slice none 0 0, .slice ao no co]) from Ld.rowN (cs := [.int .i64 12, .int .i64 v648, .int .i64 0, .string ByteArray.empty, .slice none 0 0, .slice ao no co]) hp720.get3 (by kernel_rfl)), (show Ld Tryd.prog w719 4 ⟨g15, 1, none⟩ (.bool bz) from (Ld.row1 (P := Tryd.prog) (t := 4) (o := 1) (v := .bool bz) hp720.get1 (by kernel_rfl))), trivial⟩, ?_⟩
            refine HOPS.take 1 {} [] [2, 3] [.pointer (some ⟨g3, 0, none⟩), .bool (decide ((lineV xx) = line))] (by kernel_rfl) ⟨(show Ld Tryd.prog w719 31 ⟨g636, 0, none⟩ (.agg #[.int .i64 12, .int .i64 v648, .int .i64 0, .string ByteArray.empty, .slice none 0 0, .slice ao no co]) from Ld.rowN (cs := [.int .i64 12, .int .i64 v648, .int .i64 0, .string ByteArray.empty, .slice none 0 0, .slice ao no co]) hp720.get3 (by kernel_rfl)), (show Ld Tryd.prog w719 4 ⟨g15, 1, none⟩ (.bool bz) from (Ld.row1 (P := Tryd.prog) (t := 4) (o := 1) (v := .bool bz) hp720.get1 (by kernel_rfl))), trivial⟩ (fun w721 hS722 => QB.mk .nil (by kernel_rfl)) (fun b723 => ?_)
            refine HOPS.nil ?_
            refine thn_n ?_
            exact ⟨decide ((lineV xx) = line), trivial, Bp.of Bp.dec (by first | (simp only [h709, h714, iff_false, false_iff, iff_true, true_iff, Classical.not_not, and_true, true_and, and_false, false_and, or_true, true_or, or_false, false_or, not_true_eq_false, not_false_eq_true, and_self, or_self, iff_self]; done) | (simp [h709, h714]; done) | grind | (simp_all; done)), by kernel_rfl, hp720⟩
          · refine HOPS.take 0 {} [] [0, 2, 9, 67, 77] [.string line, .pointer (some ⟨g3, 0, none⟩), .string (lineV xx), .agg #[.int .i64 12, .int .i64 v648, .int .i64 0, .string ByteArray.empty, .slice none 0 0, .slice ao no co], .bool (decide ((chkI xx) = 0))] (by kernel_rfl) ⟨(show Ld Tryd.prog w699.drew 31 ⟨g636, 0, none⟩ (.agg #[.int .i64 12, .int .i64 v648, .int .i64 0, .string ByteArray.empty, .slice none 0 0, .slice ao no co]) from Ld.rowN (cs := [.int .i64 12, .int .i64 v648, .int .i64 0, .string ByteArray.empty, .slice none 0 0, .slice ao no co]) hp704.get3 (by kernel_rfl)), (show Ld Tryd.prog w699.drew 4 ⟨g15, 1, none⟩ (.bool bz) from (Ld.row1 (P := Tryd.prog) (t := 4) (o := 1) (v := .bool bz) hp704.get1 (by kernel_rfl))), trivial⟩ (fun _ _ => QB.mk .nil (by kernel_rfl)) (fun b724 => ?_)
            refine HOPS.re [.string line, .pointer (some ⟨g3, 0, none⟩), .string (lineV xx), .agg #[.int .i64 12, .int .i64 v648, .int .i64 0, .string ByteArray.empty, .slice none 0 0, .slice ao no co], .bool false] (by rw [show (decide ((chkI xx) = 0)) = false from Bp.dec.ff h714]) ?_
            refine HOPS.take 4 { wraps := [81] } [] [2, 67, 81] [.pointer (some ⟨g3, 0, none⟩), .agg #[.int .i64 12, .int .i64 v648, .int .i64 0, .string ByteArray.empty, .slice none 0 0, .slice ao no co], .bool false] (by kernel_rfl) ⟨(show Ld Tryd.prog w699.drew 31 ⟨g636, 0, none⟩ (.agg #[.int .i64 12, .int .i64 v648, .int .i64 0, .string ByteArray.empty, .slice none 0 0, .slice ao no co]) from Ld.rowN (cs := [.int .i64 12, .int .i64 v648, .int .i64 0, .string ByteArray.empty, .slice none 0 0, .slice ao no co]) hp704.get3 (by kernel_rfl)), (show Ld Tryd.prog w699.drew 4 ⟨g15, 1, none⟩ (.bool bz) from (Ld.row1 (P := Tryd.prog) (t := 4) (o := 1) (v := .bool bz) hp704.get1 (by kernel_rfl))), trivial⟩ (fun w725 hS726 => QB.mk .nil (by kernel_rfl)) (fun b727 => ?_)
            refine HOPS.eff _ rfl (opStep.store6 hp704 rfl [.int .i64 12, .int .i64 v648, .int .i64 0, .string ByteArray.empty, .slice none 0 0, .slice ao no co] [.int .i64 12, .int .i64 v648, .int .i64 0, .string ByteArray.empty, .slice none 0 0, .slice ao no co] (by kernel_rfl) (fun w728 hp729 => ?_))
            refine ⟨.inr ⟨(show Ld Tryd.prog w728 31 ⟨g636, 0, none⟩ (.agg #[.int .i64 12, .int .i64 v648, .int .i64 0, .string ByteArray.empty, .slice none 0 0, .slice ao no co]) from Ld.rowN (cs := [.int .i64 12, .int .i64 v648, .int .i64 0, .string ByteArray.empty, .slice none 0 0, .slice ao no co]) hp729.get3 (by kernel_rfl)), (show Ld Tryd.prog w728 4 ⟨g15, 1, none⟩ (.bool bz) from (Ld.row1 (P := Tryd.prog) (t := 4) (o := 1) (v := .bool bz) hp729.get1 (by kernel_rfl))), trivial⟩, ?_⟩
            refine HOPS.take 1 {} [] [2, 3] [.pointer (some ⟨g3, 0, none⟩), .bool false] (by kernel_rfl) ⟨(show Ld Tryd.prog w728 31 ⟨g636, 0, none⟩ (.agg #[.int .i64 12, .int .i64 v648, .int .i64 0, .string ByteArray.empty, .slice none 0 0, .slice ao no co]) from Ld.rowN (cs := [.int .i64 12, .int .i64 v648, .int .i64 0, .string ByteArray.empty, .slice none 0 0, .slice ao no co]) hp729.get3 (by kernel_rfl)), (show Ld Tryd.prog w728 4 ⟨g15, 1, none⟩ (.bool bz) from (Ld.row1 (P := Tryd.prog) (t := 4) (o := 1) (v := .bool bz) hp729.get1 (by kernel_rfl))), trivial⟩ (fun w730 hS731 => QB.mk .nil (by kernel_rfl)) (fun b732 => ?_)
            refine HOPS.nil ?_
            refine thn_n ?_
            exact ⟨false, trivial, Bp.of Bp.f (by first | (simp only [h709, h714, iff_false, false_iff, iff_true, true_iff, Classical.not_not, and_true, true_and, and_false, false_and, or_true, true_or, or_false, false_or, not_true_eq_false, not_false_eq_true, and_self, or_self, iff_self]; done) | (simp [h709, h714]; done) | grind | (simp_all; done)), by kernel_rfl, hp729⟩
      rintro e744 w745 ⟨x742, hd747, hb743, hE748, hp746⟩
      obtain ⟨b749, rfl⟩ := toMk hE748
      clear hE748
      clear hd747
      refine WP.ret ?_
      refine bodyQ.of _ rfl [.agg #[.int .i64 12, .int .i64 v648, .int .i64 0, .string ByteArray.empty, .slice none 0 0, .slice ao no co], .bool x742] ⟨⟨_, rfl, (show Ld Tryd.prog w745 31 ⟨g3, 0, none⟩ (.agg #[.int .i64 12, .int .i64 v648, .int .i64 0, .string ByteArray.empty, .slice none 0 0, .slice ao no co]) from Ld.rowN (cs := [.int .i64 12, .int .i64 v648, .int .i64 0, .string ByteArray.empty, .slice none 0 0, .slice ao no co]) hp746.get6 (by kernel_rfl))⟩, rfl, trivial⟩ ?_
      have hre := fun y (h1 : okS y) (h2 : inS y) (h3 : y.Kind = 12) (h4 : lineS y = line) => (show _ ∧ xx = y from hxx ▸ read_ok (k := 12) (line := line) rfl rfl (.t rfl ⟨hn650, rfl⟩) (.f rfl ⟨rfl, rfl, rfl⟩) (.f rfl ⟨rfl, rfl, rfl⟩) (.f rfl ⟨rfl, rfl, rfl⟩) (rn_end hrn pa (by omega)) h1 h2 h3 h4)
      have hfin := step_fin (P := (¬ (bz = true)) ∧ ((chkI xx) = 0) ∧ ((lineV xx) = line)) hk38 hsm.1 hre (by have q0_ := h665 ; first | grind | (simp_all; done))
      exact ⟨(⟨12, v648, 0, ByteArray.empty, ⟨none, 0, 0⟩, ⟨ao, no, co⟩⟩ : GStep), xx, _, _, rfl, ⟨fun h => hfin.1 (Bp.tr hb743 h), fun h => hfin.2 (Bp.fa hb743 h)⟩, (by rw [hxx]; exact Hp.svMake0 (E := 3) (⟨12, v648, 0, ByteArray.empty, ⟨none, 0, 0⟩, ⟨ao, no, co⟩⟩ : GStep) _ rfl rfl rfl rfl rfl rfl (hp746.sub (.cons_cons _ (.cons _ (.cons _ (.cons _ (.cons _ (.cons _ (.cons _ (.slnil))))))))))⟩
  · rw [hk38]
    refine OPS.batch 1 {} [] [0, 2, 4, 6] [.string line, .pointer (some ⟨g3, 0, none⟩), .pointer (some ⟨g15, 0, none⟩), .int .i64 14] .nil (by kernel_rfl) (fun b750 => ?_)
    refine OPS.nil ?_
    refine thn_n ?_
    refine WP.seq ?_
    refine WP.seq ?_
    refine WP.pure {} [] [0, 2, 4, 6, 21] [.string line, .pointer (some ⟨g3, 0, none⟩), .pointer (some ⟨g15, 0, none⟩), .int .i64 14, .bool false] .nil (by kernel_rfl) (fun b751 => ?_)
    refine thn_n ?_
    refine WP.condF rfl ?_
    refine WP.skip ?_
    refine thn_n ?_
    refine WP.seq ?_
    refine WP.region _ rfl (by kernel_rfl) ?_
    refine OPS.batch 3 {} [.agg #[.string ⟨#[100, 105, 101]⟩, .bool true, .bool true, .bool false, .bool false, .bool false, .bool true]] [0, 2, 4, 6, 25] [.string line, .pointer (some ⟨g3, 0, none⟩), .pointer (some ⟨g15, 0, none⟩), .int .i64 14, .agg #[.string ⟨#[100, 105, 101]⟩, .bool true, .bool true, .bool false, .bool false, .bool false, .bool true]] (.cons (show InB (14) (17) from ⟨by omega, by omega⟩) (.cons (show Ld Tryd.prog w35 56 ⟨0, 98, none⟩ (.agg #[.string ⟨#[100, 105, 101]⟩, .bool true, .bool true, .bool false, .bool false, .bool false, .bool true]) from Ld.rowN (cs := [.string ⟨#[100, 105, 101]⟩, .bool true, .bool true, .bool false, .bool false, .bool false, .bool true]) (row_at hls.tab hp37.fr) (by kernel_rfl)) .nil)) (by kernel_rfl) (fun b752 => ?_)
    refine OPS.cons (opStep.alloc hp37 [.string ByteArray.empty, .bool false, .bool false, .bool false, .bool false, .bool false, .bool false] (by kernel_rfl) (fun g755 w753 hp754 => ?_))
    refine OPS.cons (opStep.store0 hp754 rfl [.string ⟨#[100, 105, 101]⟩, .bool true, .bool true, .bool false, .bool false, .bool false, .bool true] [.string ⟨#[100, 105, 101]⟩, .bool true, .bool true, .bool false, .bool false, .bool false, .bool true] (by kernel_rfl) (fun w756 hp757 => ?_))
    refine OPS.nil ?_
    refine thn_n ?_
    refine WP.seq ?_
    refine WP.region _ rfl (by kernel_rfl) ?_
    refine OPS.batch 2 {} [] [0, 2, 4, 7, 27] [.string line, .pointer (some ⟨g3, 0, none⟩), .pointer (some ⟨g15, 0, none⟩), .pointer (some ⟨g755, 0, none⟩), .agg #[.int .i64 14, .int .i64 0, .int .i64 0, .string ByteArray.empty, .slice none 0 0, .slice none 0 0]] .nil (by kernel_rfl) (fun b758 => ?_)
    refine OPS.cons (opStep.alloc hp757 [.int .i64 0, .int .i64 0, .int .i64 0, .string ByteArray.empty, .slice none 0 0, .slice none 0 0] (by kernel_rfl) (fun g761 w759 hp760 => ?_))
    refine OPS.cons (opStep.store0 hp760 rfl [.int .i64 14, .int .i64 0, .int .i64 0, .string ByteArray.empty, .slice none 0 0, .slice none 0 0] [.int .i64 14, .int .i64 0, .int .i64 0, .string ByteArray.empty, .slice none 0 0, .slice none 0 0] (by kernel_rfl) (fun w762 hp763 => ?_))
    refine OPS.nil ?_
    refine thn_n ?_
    refine WP.seq ?_
    refine WP.seq ?_
    refine WP.pure {} [.bool true] [0, 2, 4, 7, 8, 29] [.string line, .pointer (some ⟨g3, 0, none⟩), .pointer (some ⟨g15, 0, none⟩), .pointer (some ⟨g755, 0, none⟩), .pointer (some ⟨g761, 0, none⟩), .bool true] (.cons (Ld.row1 (P := Tryd.prog) (t := 4) (o := 1) (v := .bool true) hp763.get1 (by kernel_rfl)) .nil) (by kernel_rfl) (fun b764 => ?_)
    refine thn_n ?_
    refine WP.condT rfl ?_
    refine WP.region _ rfl (by kernel_rfl) ?_
    refine OPS.batch 1 {} [] [0, 2, 4, 7, 8, 30] [.string line, .pointer (some ⟨g3, 0, none⟩), .pointer (some ⟨g15, 0, none⟩), .pointer (some ⟨g755, 0, none⟩), .pointer (some ⟨g761, 0, none⟩), .pointer (some ⟨g15, 0, none⟩)] .nil (by kernel_rfl) (fun b765 => ?_)
    have hp768 := hp763.pull4
    have hp769 := hp768.pull4
    refine OPS.cons (opStep.call (some 31) [.pointer (some ⟨g15, 0, none⟩)] (by kernel_rfl) (w_number _ _ g15 g10 h24 ((wordsB line).tail) (false || (wordsB line).isEmpty) _ hl (tail_size hsz) hp769) ?_)
    rintro _ w770 ⟨h772, v773, bd774_, rfl, hn775, hp771⟩
    refine ⟨_, rfl, ?_⟩
    have hn775a := hn775.rng.1
    have hn775b := hn775.rng.2
    have hn775z := itoaT_size hn775a hn775b
    refine OPS.batch 1 {} [] [0, 2, 4, 7, 8, 31, 32] [.string line, .pointer (some ⟨g3, 0, none⟩), .pointer (some ⟨g15, 0, none⟩), .pointer (some ⟨g755, 0, none⟩), .pointer (some ⟨g761, 0, none⟩), .int .i64 v773, .pointer (some ⟨g761, 1, none⟩)] .nil (by kernel_rfl) (fun b776 => ?_)
    refine OPS.cons (opStep.store2 hp771 rfl [.int .i64 v773] [.int .i64 14, .int .i64 v773, .int .i64 0, .string ByteArray.empty, .slice none 0 0, .slice none 0 0] (by kernel_rfl) (fun w777 hp778 => ?_))
    refine OPS.nil ?_
    refine thn_n ?_
    refine WP.seq ?_
    refine WP.seq ?_
    refine WP.pure {} [.bool true] [0, 2, 4, 7, 8, 34] [.string line, .pointer (some ⟨g3, 0, none⟩), .pointer (some ⟨g15, 0, none⟩), .pointer (some ⟨g755, 0, none⟩), .pointer (some ⟨g761, 0, none⟩), .bool true] (.cons (Ld.row1 (P := Tryd.prog) (t := 4) (o := 2) (v := .bool true) hp778.get3 (by kernel_rfl)) .nil) (by kernel_rfl) (fun b779 => ?_)
    refine thn_n ?_
    refine WP.condT rfl ?_
    refine WP.region _ rfl (by kernel_rfl) ?_
    refine OPS.batch 1 {} [] [0, 2, 4, 7, 8, 35] [.string line, .pointer (some ⟨g3, 0, none⟩), .pointer (some ⟨g15, 0, none⟩), .pointer (some ⟨g755, 0, none⟩), .pointer (some ⟨g761, 0, none⟩), .pointer (some ⟨g15, 0, none⟩)] .nil (by kernel_rfl) (fun b780 => ?_)
    have hp783 := hp778.pull1
    have hp784 := hp783.pull1
    refine OPS.cons (opStep.call (some 36) [.pointer (some ⟨g15, 0, none⟩)] (by kernel_rfl) (w_number _ _ g15 g10 h772 (((wordsB line).tail).tail) bd774_ _ hl (tail_size (tail_size hsz)) hp784) ?_)
    rintro _ w785 ⟨h787, v788, bd789_, rfl, hn790, hp786⟩
    refine ⟨_, rfl, ?_⟩
    have hn790a := hn790.rng.1
    have hn790b := hn790.rng.2
    have hn790z := itoaT_size hn790a hn790b
    refine OPS.batch 1 {} [] [0, 2, 4, 7, 8, 36, 37] [.string line, .pointer (some ⟨g3, 0, none⟩), .pointer (some ⟨g15, 0, none⟩), .pointer (some ⟨g755, 0, none⟩), .pointer (some ⟨g761, 0, none⟩), .int .i64 v788, .pointer (some ⟨g761, 2, none⟩)] .nil (by kernel_rfl) (fun b791 => ?_)
    refine OPS.cons (opStep.store2 hp786 rfl [.int .i64 v788] [.int .i64 14, .int .i64 v773, .int .i64 v788, .string ByteArray.empty, .slice none 0 0, .slice none 0 0] (by kernel_rfl) (fun w792 hp793 => ?_))
    refine OPS.nil ?_
    refine thn_n ?_
    refine WP.seq ?_
    refine WP.seq ?_
    refine WP.pure {} [.bool false] [0, 2, 4, 7, 8, 39] [.string line, .pointer (some ⟨g3, 0, none⟩), .pointer (some ⟨g15, 0, none⟩), .pointer (some ⟨g755, 0, none⟩), .pointer (some ⟨g761, 0, none⟩), .bool false] (.cons (Ld.row1 (P := Tryd.prog) (t := 4) (o := 3) (v := .bool false) hp793.get3 (by kernel_rfl)) .nil) (by kernel_rfl) (fun b794 => ?_)
    refine thn_n ?_
    refine WP.condF rfl ?_
    refine WP.skip ?_
    refine thn_n ?_
    refine WP.seq ?_
    refine WP.seq ?_
    refine WP.pure {} [.bool false] [0, 2, 4, 8, 44] [.string line, .pointer (some ⟨g3, 0, none⟩), .pointer (some ⟨g15, 0, none⟩), .pointer (some ⟨g761, 0, none⟩), .bool false] (.cons (Ld.row1 (P := Tryd.prog) (t := 4) (o := 4) (v := .bool false) hp793.get3 (by kernel_rfl)) .nil) (by kernel_rfl) (fun b795 => ?_)
    refine thn_n ?_
    refine WP.condF rfl ?_
    refine WP.skip ?_
    refine thn_n ?_
    refine WP.seq ?_
    refine WP.block ?_
    have hp796 := (show Hp w Non [Res.own 3 1 (.slice none 0 0) 0 (List.flatMap i64c ([] : List Int)), Res.row g15 [.slice h787.a h787.n h787.c, .bool bd789_] 75, Res.lst g10 h787 ((((wordsB line).tail).tail).tail), Res.row g761 [.int .i64 14, .int .i64 v773, .int .i64 v788, .string ByteArray.empty, .slice none 0 0, .slice none 0 0] 31, Res.row g755 [.string ⟨#[100, 105, 101]⟩, .bool true, .bool true, .bool false, .bool false, .bool false, .bool true] 56, Res.row g27 [.string ((wordsB line).headD ByteArray.empty)] 9, Res.row g3 [.int .i64 0, .int .i64 0, .int .i64 0, .string ByteArray.empty, .slice none 0 0, .slice none 0 0] 31] w792 from hp793.nilOwn 3 1)
    refine WP.loop (fun mz_ e797 w798 => ∃ (wz : List ByteArray) (hz : SlH) (bz : Bool) (ls : List Int) (ao : Option Addr) (no : Nat) (co : Nat), mz_ = wz.length ∧ (wz = List.drop ls.length ((((wordsB line).tail).tail).tail) ∧ ls.length ≤ (wordsB line).length ∧ RnI bd789_ ((((wordsB line).tail).tail).tail) ls bz ∧ (∀ x ∈ wz, x.size ≤ 281474976710656)) ∧ List.map e797 [0, 2, 4, 8] = [.string line, .pointer (some ⟨g3, 0, none⟩), .pointer (some ⟨g15, 0, none⟩), .pointer (some ⟨g761, 0, none⟩)] ∧ Hp w Non [Res.own 3 1 (.slice ao no co) no (List.flatMap i64c ls), Res.row g15 [.slice hz.a hz.n hz.c, .bool bz] 75, Res.lst g10 hz wz, Res.row g761 [.int .i64 14, .int .i64 v773, .int .i64 v788, .string ByteArray.empty, .slice none 0 0, .slice ao no co] 31, Res.row g755 [.string ⟨#[100, 105, 101]⟩, .bool true, .bool true, .bool false, .bool false, .bool false, .bool true] 56, Res.row g27 [.string ((wordsB line).headD ByteArray.empty)] 9, Res.row g3 [.int .i64 0, .int .i64 0, .int .i64 0, .string ByteArray.empty, .slice none 0 0, .slice none 0 0] 31] w798) (((((wordsB line).tail).tail).tail).length) ⟨(((wordsB line).tail).tail).tail, h787, bd789_, [], none, 0, 0, rfl, ⟨rfl, Nat.zero_le _, rn_start _ _, (tail_size (tail_size (tail_size hsz)))⟩, by kernel_rfl, hp796⟩ ?_
    rintro _ e797 w798 ⟨wz, hz, bz, ls, ao, no, co, rfl, hI800, hE801, hp799⟩
    obtain ⟨b802, rfl⟩ := toMk hE801
    clear hE801
    obtain ⟨pa, pb, hrn, hsw⟩ := hI800
    have hlz := lst_len hp799.get2
    have hsz := hsw
    have pe := own_flat (f := i64c) (sz := 1) (fun _ => rfl) (by decide) hp799.get0
    have hdl := congrArg List.length pa
    rw [List.length_drop] at hdl
    have hw4 : ((((wordsB line).tail).tail).tail).length ≤ (wordsB line).length := by simp only [List.length_tail]; omega
    refine WP.seq ?_
    refine WP.seq ?_
    refine WP.pure {} [.slice hz.a hz.n hz.c] [0, 2, 4, 8, 54] [.string line, .pointer (some ⟨g3, 0, none⟩), .pointer (some ⟨g15, 0, none⟩), .pointer (some ⟨g761, 0, none⟩), .bool (decide (0 < ((hz.n : Nat) : Int)))] (.cons (Ld.row1 (P := Tryd.prog) (t := 36) (o := 0) (v := .slice hz.a hz.n hz.c) hp799.get1 (by kernel_rfl)) .nil) (by kernel_rfl) (fun b803 => ?_)
    refine thn_n ?_
    refine WP.test (p := 0 < ((hz.n : Nat) : Int)) rfl Bp.dec (fun h804 => ?_) (fun h804 => ?_)
    · refine WP.skip ?_
      refine thn_n ?_
      refine WP.block ?_
      have hp805 := hp799.drew
      refine WP.held (fun w806 => Ld Tryd.prog w806 29 ⟨g761, 5, none⟩ (.slice ao no co) ∧ True) [7] [(0, true), (1, true), (2, true), (3, false), (4, false), (5, false), (6, true), (7, false)] (np_blk (np_thn (np_blk (np_thn np_body)))) (by kernel_rfl) ?_
      refine HOPS.take 3 {} [.slice ao no co] [0, 2, 4, 8, 56, 57] [.string line, .pointer (some ⟨g3, 0, none⟩), .pointer (some ⟨g15, 0, none⟩), .pointer (some ⟨g761, 0, none⟩), .slice ao no co, .pointer (some ⟨g15, 0, none⟩)] (by kernel_rfl) ⟨(show Ld Tryd.prog w798.drew 29 ⟨g761, 5, none⟩ (.slice ao no co) from (Ld.row1 (P := Tryd.prog) (t := 29) (o := 5) (v := .slice ao no co) hp805.get3 (by kernel_rfl))), trivial⟩ (fun w807 hS808 => QB.mk (.cons (hS808.1) .nil) (by kernel_rfl)) (fun b809 => ?_)
      have hp812 := hp805.pull2
      have hp813 := hp812.pull2
      refine HOPS.eff _ rfl (opStep.call (some 58) [.pointer (some ⟨g15, 0, none⟩)] (by kernel_rfl) (w_number _ _ g15 g10 hz wz bz _ hl hsz hp813) ?_)
      rintro _ w814 ⟨h816, v817, bd818_, rfl, hn819, hp815⟩
      refine ⟨_, rfl, ?_⟩
      have hn819a := hn819.rng.1
      have hn819b := hn819.rng.2
      have hn819z := itoaT_size hn819a hn819b
      refine ⟨.inr ⟨(show Ld Tryd.prog w814 29 ⟨g761, 5, none⟩ (.slice ao no co) from (Ld.row1 (P := Tryd.prog) (t := 29) (o := 5) (v := .slice ao no co) hp815.get3 (by kernel_rfl))), trivial⟩, ?_⟩
      refine HOPS.eff _ rfl (opStep.buildSlice (E := 3) hp815 [.int .i64 v817] (by kernel_rfl) (fun g822 w820 hp821 => ?_))
      refine ⟨.inr ⟨(show Ld Tryd.prog w820 29 ⟨g761, 5, none⟩ (.slice ao no co) from (Ld.row1 (P := Tryd.prog) (t := 29) (o := 5) (v := .slice ao no co) hp821.get4 (by kernel_rfl))), trivial⟩, ?_⟩
      refine HOPS.eff _ rfl (opStep.append3 [.int .i64 v817] hp821 8 (by kernel_rfl) rfl rfl rfl (SlR.row (n := 1) hp821.get0 rfl).rd (List.all_eq_true.1 (by kernel_rfl)) (by decide) (by omega) (by omega) (fun a825 c826 w827 hp828 hn829 => ?_))
      rw [(show List.flatMap i64c ls ++ [.int .i64 v817] = List.flatMap i64c (ls ++ [v817]) from (List.flatMap_append (xs := ls) (ys := [v817])).symm)] at hp828
      refine ⟨.inr ⟨(show Ld Tryd.prog w827 29 ⟨g761, 5, none⟩ (.slice ao no co) from (Ld.row1 (P := Tryd.prog) (t := 29) (o := 5) (v := .slice ao no co) hp828.get4 (by kernel_rfl))), trivial⟩, ?_⟩
      refine HOPS.take 1 {} [] [0, 2, 4, 8, 60, 61] [.string line, .pointer (some ⟨g3, 0, none⟩), .pointer (some ⟨g15, 0, none⟩), .pointer (some ⟨g761, 0, none⟩), .slice a825 (no + 1) c826, .pointer (some ⟨g761, 5, none⟩)] (by kernel_rfl) ⟨(show Ld Tryd.prog w827 29 ⟨g761, 5, none⟩ (.slice ao no co) from (Ld.row1 (P := Tryd.prog) (t := 29) (o := 5) (v := .slice ao no co) hp828.get4 (by kernel_rfl))), trivial⟩ (fun w830 hS831 => QB.mk .nil (by kernel_rfl)) (fun b832 => ?_)
      refine HOPS.eff _ rfl (opStep.store4 hp828 rfl [.slice a825 (no + 1) c826] [.int .i64 14, .int .i64 v773, .int .i64 v788, .string ByteArray.empty, .slice none 0 0, .slice a825 (no + 1) c826] (by kernel_rfl) (fun w833 hp834 => ?_))
      refine ⟨.inl rfl, ?_⟩
      refine HOPS.nil ?_
      refine blk_n ?_
      refine thn_n ?_
      exact ⟨(wz.tail).length, (by rw [List.length_tail]; omega), wz.tail, h816, bd818_, ls ++ [v817], a825, no + 1, c826, rfl, ⟨by rw [List.length_append, List.length_singleton, ← List.drop_drop, ← pa, List.drop_one], by rw [List.length_append, List.length_singleton]; omega, rn_step hrn pa hn819 (by omega), tail_size hsw⟩, by kernel_rfl, ((((((((hp834.pull7).pull7).pull7).pull7).pull6).pull6).pull7).sub (.cons_cons _ (.cons_cons _ (.cons_cons _ (.cons_cons _ (.cons_cons _ (.cons_cons _ (.cons_cons _ (.cons _ (.slnil))))))))))⟩
    · refine WP.exit ?_
      refine thn_x ?_
      refine thn_x ?_
      refine blk_hit ?_
      refine thn_n ?_
      refine WP.seq ?_
      refine WP.region _ rfl (by kernel_rfl) ?_
      refine OPS.batch 1 {} [.agg #[.int .i64 14, .int .i64 v773, .int .i64 v788, .string ByteArray.empty, .slice none 0 0, .slice ao no co]] [0, 2, 4, 8, 63] [.string line, .pointer (some ⟨g3, 0, none⟩), .pointer (some ⟨g15, 0, none⟩), .pointer (some ⟨g761, 0, none⟩), .agg #[.int .i64 14, .int .i64 v773, .int .i64 v788, .string ByteArray.empty, .slice none 0 0, .slice ao no co]] (.cons (show Ld Tryd.prog w798 31 ⟨g761, 0, none⟩ (.agg #[.int .i64 14, .int .i64 v773, .int .i64 v788, .string ByteArray.empty, .slice none 0 0, .slice ao no co]) from Ld.rowN (cs := [.int .i64 14, .int .i64 v773, .int .i64 v788, .string ByteArray.empty, .slice none 0 0, .slice ao no co]) hp799.get3 (by kernel_rfl)) .nil) (by kernel_rfl) (fun b835 => ?_)
      obtain ⟨xx, hxx⟩ : ∃ z : StepP, z = ⟨14, v773, v788, ByteArray.empty, (⟨#[]⟩ : ByteArray), ls⟩ := ⟨_, rfl⟩
      have hsm : smS xx := by rw [hxx]; exact ⟨⟨hn775.rng, hn790.rng, hrn.1⟩, (by simp only; decide), (by simp only; decide), by simp only; omega⟩
      refine OPS.cons (opStep.call (some 64) [.agg #[.int .i64 14, .int .i64 v773, .int .i64 v788, .string ByteArray.empty, .slice none 0 0, .slice ao no co]] (by kernel_rfl) (sc_Line (⟨14, v773, v788, ByteArray.empty, ⟨none, 0, 0⟩, ⟨ao, no, co⟩⟩ : GStep) xx _ (hls.fram hp799.fr) (by rw [hxx]; exact (StR.of rfl rfl rfl rfl (⟨rfl, slr_nil0 _⟩) (own_flat (f := i64c) (sz := 1) (fun _ => rfl) (by decide) hp799.get0).symm (SlR.own hp799.get0))) hsm) ?_)
      rintro _ w838 ⟨rfl, hf839⟩
      refine ⟨_, rfl, ?_⟩
      have hp840 := hp799.step hf839
      refine OPS.batch 5 {} [] [0, 2, 4, 8, 9, 10] [.string line, .pointer (some ⟨g3, 0, none⟩), .pointer (some ⟨g15, 0, none⟩), .pointer (some ⟨g761, 0, none⟩), .string (lineV xx), .int .i64 (chkI xx)] .nil (by kernel_rfl) (fun b841 => ?_)
      refine OPS.nil ?_
      refine thn_n ?_
      refine WP.cut (fun e883 w884 => ∃ (x881 : Bool), (True) ∧ Bp x881 ((¬ (bz = true)) ∧ ((chkI xx) = 0) ∧ ((lineV xx) = line)) ∧ List.map e883 [2, 3] = [.pointer (some ⟨g3, 0, none⟩), .bool x881] ∧ Hp w Non [Res.own 3 1 (.slice ao no co) no (List.flatMap i64c ls), Res.row g15 [.slice hz.a hz.n hz.c, .bool bz] 75, Res.lst g10 hz wz, Res.row g761 [.int .i64 14, .int .i64 v773, .int .i64 v788, .string ByteArray.empty, .slice none 0 0, .slice ao no co] 31, Res.row g755 [.string ⟨#[100, 105, 101]⟩, .bool true, .bool true, .bool false, .bool false, .bool false, .bool true] 56, Res.row g27 [.string ((wordsB line).headD ByteArray.empty)] 9, Res.row g3 [.int .i64 14, .int .i64 v773, .int .i64 v788, .string ByteArray.empty, .slice none 0 0, .slice ao no co] 31] w884) ?_ ?_
      · have hp843 := hp840.drew
        refine WP.held (fun w844 => Ld Tryd.prog w844 31 ⟨g761, 0, none⟩ (.agg #[.int .i64 14, .int .i64 v773, .int .i64 v788, .string ByteArray.empty, .slice none 0 0, .slice ao no co]) ∧ Ld Tryd.prog w844 4 ⟨g15, 1, none⟩ (.bool bz) ∧ True) [] [(0, true), (1, true), (2, true), (3, true), (4, true), (5, true), (6, true), (7, true), (8, true), (9, true), (10, true), (11, true), (12, true), (13, true), (14, true), (15, false), (16, true)] (np_thn np_body) (by kernel_rfl) ?_
        refine HOPS.take 7 {} [.agg #[.int .i64 14, .int .i64 v773, .int .i64 v788, .string ByteArray.empty, .slice none 0 0, .slice ao no co], .bool bz] [0, 2, 9, 10, 67, 73] [.string line, .pointer (some ⟨g3, 0, none⟩), .string (lineV xx), .int .i64 (chkI xx), .agg #[.int .i64 14, .int .i64 v773, .int .i64 v788, .string ByteArray.empty, .slice none 0 0, .slice ao no co], .bool (!bz)] (by kernel_rfl) ⟨(show Ld Tryd.prog w838.drew 31 ⟨g761, 0, none⟩ (.agg #[.int .i64 14, .int .i64 v773, .int .i64 v788, .string ByteArray.empty, .slice none 0 0, .slice ao no co]) from Ld.rowN (cs := [.int .i64 14, .int .i64 v773, .int .i64 v788, .string ByteArray.empty, .slice none 0 0, .slice ao no co]) hp843.get3 (by kernel_rfl)), (show Ld Tryd.prog w838.drew 4 ⟨g15, 1, none⟩ (.bool bz) from (Ld.row1 (P := Tryd.prog) (t := 4) (o := 1) (v := .bool bz) hp843.get1 (by kernel_rfl))), trivial⟩ (fun w845 hS846 => QB.mk (.cons (hS846.1) (.cons (hS846.2.1) .nil)) (by kernel_rfl)) (fun b847 => ?_)
        by_cases h848 : bz = true
        · refine HOPS.take 0 {} [] [0, 2, 9, 10, 67, 73] [.string line, .pointer (some ⟨g3, 0, none⟩), .string (lineV xx), .int .i64 (chkI xx), .agg #[.int .i64 14, .int .i64 v773, .int .i64 v788, .string ByteArray.empty, .slice none 0 0, .slice ao no co], .bool (!bz)] (by kernel_rfl) ⟨(show Ld Tryd.prog w838.drew 31 ⟨g761, 0, none⟩ (.agg #[.int .i64 14, .int .i64 v773, .int .i64 v788, .string ByteArray.empty, .slice none 0 0, .slice ao no co]) from Ld.rowN (cs := [.int .i64 14, .int .i64 v773, .int .i64 v788, .string ByteArray.empty, .slice none 0 0, .slice ao no co]) hp843.get3 (by kernel_rfl)), (show Ld Tryd.prog w838.drew 4 ⟨g15, 1, none⟩ (.bool bz) from (Ld.row1 (P := Tryd.prog) (t := 4) (o := 1) (v := .bool bz) hp843.get1 (by kernel_rfl))), trivial⟩ (fun _ _ => QB.mk .nil (by kernel_rfl)) (fun b872 => ?_)
          refine HOPS.re [.string line, .pointer (some ⟨g3, 0, none⟩), .string (lineV xx), .int .i64 (chkI xx), .agg #[.int .i64 14, .int .i64 v773, .int .i64 v788, .string ByteArray.empty, .slice none 0 0, .slice ao no co], .bool false] (by rw [show (!bz) = false from (Bp.not Bp.var).ff (fun k => k h848)]) ?_
          refine HOPS.take 8 { wraps := [76, 81] } [] [2, 67, 81] [.pointer (some ⟨g3, 0, none⟩), .agg #[.int .i64 14, .int .i64 v773, .int .i64 v788, .string ByteArray.empty, .slice none 0 0, .slice ao no co], .bool false] (by kernel_rfl) ⟨(show Ld Tryd.prog w838.drew 31 ⟨g761, 0, none⟩ (.agg #[.int .i64 14, .int .i64 v773, .int .i64 v788, .string ByteArray.empty, .slice none 0 0, .slice ao no co]) from Ld.rowN (cs := [.int .i64 14, .int .i64 v773, .int .i64 v788, .string ByteArray.empty, .slice none 0 0, .slice ao no co]) hp843.get3 (by kernel_rfl)), (show Ld Tryd.prog w838.drew 4 ⟨g15, 1, none⟩ (.bool bz) from (Ld.row1 (P := Tryd.prog) (t := 4) (o := 1) (v := .bool bz) hp843.get1 (by kernel_rfl))), trivial⟩ (fun w873 hS874 => QB.mk .nil (by kernel_rfl)) (fun b875 => ?_)
          refine HOPS.eff _ rfl (opStep.store6 hp843 rfl [.int .i64 14, .int .i64 v773, .int .i64 v788, .string ByteArray.empty, .slice none 0 0, .slice ao no co] [.int .i64 14, .int .i64 v773, .int .i64 v788, .string ByteArray.empty, .slice none 0 0, .slice ao no co] (by kernel_rfl) (fun w876 hp877 => ?_))
          refine ⟨.inr ⟨(show Ld Tryd.prog w876 31 ⟨g761, 0, none⟩ (.agg #[.int .i64 14, .int .i64 v773, .int .i64 v788, .string ByteArray.empty, .slice none 0 0, .slice ao no co]) from Ld.rowN (cs := [.int .i64 14, .int .i64 v773, .int .i64 v788, .string ByteArray.empty, .slice none 0 0, .slice ao no co]) hp877.get3 (by kernel_rfl)), (show Ld Tryd.prog w876 4 ⟨g15, 1, none⟩ (.bool bz) from (Ld.row1 (P := Tryd.prog) (t := 4) (o := 1) (v := .bool bz) hp877.get1 (by kernel_rfl))), trivial⟩, ?_⟩
          refine HOPS.take 1 {} [] [2, 3] [.pointer (some ⟨g3, 0, none⟩), .bool false] (by kernel_rfl) ⟨(show Ld Tryd.prog w876 31 ⟨g761, 0, none⟩ (.agg #[.int .i64 14, .int .i64 v773, .int .i64 v788, .string ByteArray.empty, .slice none 0 0, .slice ao no co]) from Ld.rowN (cs := [.int .i64 14, .int .i64 v773, .int .i64 v788, .string ByteArray.empty, .slice none 0 0, .slice ao no co]) hp877.get3 (by kernel_rfl)), (show Ld Tryd.prog w876 4 ⟨g15, 1, none⟩ (.bool bz) from (Ld.row1 (P := Tryd.prog) (t := 4) (o := 1) (v := .bool bz) hp877.get1 (by kernel_rfl))), trivial⟩ (fun w878 hS879 => QB.mk .nil (by kernel_rfl)) (fun b880 => ?_)
          refine HOPS.nil ?_
          refine thn_n ?_
          exact ⟨false, trivial, Bp.of Bp.f (by first | (simp only [h848, iff_false, false_iff, iff_true, true_iff, Classical.not_not, and_true, true_and, and_false, false_and, or_true, true_or, or_false, false_or, not_true_eq_false, not_false_eq_true, and_self, or_self, iff_self]; done) | (simp [h848]; done) | grind | (simp_all; done)), by kernel_rfl, hp877⟩
        · refine HOPS.take 0 {} [] [0, 2, 9, 10, 67, 73] [.string line, .pointer (some ⟨g3, 0, none⟩), .string (lineV xx), .int .i64 (chkI xx), .agg #[.int .i64 14, .int .i64 v773, .int .i64 v788, .string ByteArray.empty, .slice none 0 0, .slice ao no co], .bool (!bz)] (by kernel_rfl) ⟨(show Ld Tryd.prog w838.drew 31 ⟨g761, 0, none⟩ (.agg #[.int .i64 14, .int .i64 v773, .int .i64 v788, .string ByteArray.empty, .slice none 0 0, .slice ao no co]) from Ld.rowN (cs := [.int .i64 14, .int .i64 v773, .int .i64 v788, .string ByteArray.empty, .slice none 0 0, .slice ao no co]) hp843.get3 (by kernel_rfl)), (show Ld Tryd.prog w838.drew 4 ⟨g15, 1, none⟩ (.bool bz) from (Ld.row1 (P := Tryd.prog) (t := 4) (o := 1) (v := .bool bz) hp843.get1 (by kernel_rfl))), trivial⟩ (fun _ _ => QB.mk .nil (by kernel_rfl)) (fun b849 => ?_)
          refine HOPS.re [.string line, .pointer (some ⟨g3, 0, none⟩), .string (lineV xx), .int .i64 (chkI xx), .agg #[.int .i64 14, .int .i64 v773, .int .i64 v788, .string ByteArray.empty, .slice none 0 0, .slice ao no co], .bool true] (by rw [show (!bz) = true from (Bp.not Bp.var).tt h848]) ?_
          refine HOPS.take 4 { wraps := [76] } [] [0, 2, 9, 67, 77] [.string line, .pointer (some ⟨g3, 0, none⟩), .string (lineV xx), .agg #[.int .i64 14, .int .i64 v773, .int .i64 v788, .string ByteArray.empty, .slice none 0 0, .slice ao no co], .bool (decide ((chkI xx) = 0))] (by kernel_rfl) ⟨(show Ld Tryd.prog w838.drew 31 ⟨g761, 0, none⟩ (.agg #[.int .i64 14, .int .i64 v773, .int .i64 v788, .string ByteArray.empty, .slice none 0 0, .slice ao no co]) from Ld.rowN (cs := [.int .i64 14, .int .i64 v773, .int .i64 v788, .string ByteArray.empty, .slice none 0 0, .slice ao no co]) hp843.get3 (by kernel_rfl)), (show Ld Tryd.prog w838.drew 4 ⟨g15, 1, none⟩ (.bool bz) from (Ld.row1 (P := Tryd.prog) (t := 4) (o := 1) (v := .bool bz) hp843.get1 (by kernel_rfl))), trivial⟩ (fun w850 hS851 => QB.mk .nil (by kernel_rfl)) (fun b852 => ?_)
          by_cases h853 : (chkI xx) = 0
          · refine HOPS.take 0 {} [] [0, 2, 9, 67, 77] [.string line, .pointer (some ⟨g3, 0, none⟩), .string (lineV xx), .agg #[.int .i64 14, .int .i64 v773, .int .i64 v788, .string ByteArray.empty, .slice none 0 0, .slice ao no co], .bool (decide ((chkI xx) = 0))] (by kernel_rfl) ⟨(show Ld Tryd.prog w838.drew 31 ⟨g761, 0, none⟩ (.agg #[.int .i64 14, .int .i64 v773, .int .i64 v788, .string ByteArray.empty, .slice none 0 0, .slice ao no co]) from Ld.rowN (cs := [.int .i64 14, .int .i64 v773, .int .i64 v788, .string ByteArray.empty, .slice none 0 0, .slice ao no co]) hp843.get3 (by kernel_rfl)), (show Ld Tryd.prog w838.drew 4 ⟨g15, 1, none⟩ (.bool bz) from (Ld.row1 (P := Tryd.prog) (t := 4) (o := 1) (v := .bool bz) hp843.get1 (by kernel_rfl))), trivial⟩ (fun _ _ => QB.mk .nil (by kernel_rfl)) (fun b854 => ?_)
            refine HOPS.re [.string line, .pointer (some ⟨g3, 0, none⟩), .string (lineV xx), .agg #[.int .i64 14, .int .i64 v773, .int .i64 v788, .string ByteArray.empty, .slice none 0 0, .slice ao no co], .bool true] (by rw [show (decide ((chkI xx) = 0)) = true from Bp.dec.tt h853]) ?_
            refine HOPS.take 4 { wraps := [81] } [] [2, 67, 81] [.pointer (some ⟨g3, 0, none⟩), .agg #[.int .i64 14, .int .i64 v773, .int .i64 v788, .string ByteArray.empty, .slice none 0 0, .slice ao no co], .bool (decide ((lineV xx) = line))] (by kernel_rfl) ⟨(show Ld Tryd.prog w838.drew 31 ⟨g761, 0, none⟩ (.agg #[.int .i64 14, .int .i64 v773, .int .i64 v788, .string ByteArray.empty, .slice none 0 0, .slice ao no co]) from Ld.rowN (cs := [.int .i64 14, .int .i64 v773, .int .i64 v788, .string ByteArray.empty, .slice none 0 0, .slice ao no co]) hp843.get3 (by kernel_rfl)), (show Ld Tryd.prog w838.drew 4 ⟨g15, 1, none⟩ (.bool bz) from (Ld.row1 (P := Tryd.prog) (t := 4) (o := 1) (v := .bool bz) hp843.get1 (by kernel_rfl))), trivial⟩ (fun w855 hS856 => QB.mk .nil (by kernel_rfl)) (fun b857 => ?_)
            refine HOPS.eff _ rfl (opStep.store6 hp843 rfl [.int .i64 14, .int .i64 v773, .int .i64 v788, .string ByteArray.empty, .slice none 0 0, .slice ao no co] [.int .i64 14, .int .i64 v773, .int .i64 v788, .string ByteArray.empty, .slice none 0 0, .slice ao no co] (by kernel_rfl) (fun w858 hp859 => ?_))
            refine ⟨.inr ⟨(show Ld Tryd.prog w858 31 ⟨g761, 0, none⟩ (.agg #[.int .i64 14, .int .i64 v773, .int .i64 v788, .string ByteArray.empty, .slice none 0 0, .slice ao no co]) from Ld.rowN (cs := [.int .i64 14, .int .i64 v773, .int .i64 v788, .string ByteArray.empty, .slice none 0 0, .slice ao no co]) hp859.get3 (by kernel_rfl)), (show Ld Tryd.prog w858 4 ⟨g15, 1, none⟩ (.bool bz) from (Ld.row1 (P := Tryd.prog) (t := 4) (o := 1) (v := .bool bz) hp859.get1 (by kernel_rfl))), trivial⟩, ?_⟩
            refine HOPS.take 1 {} [] [2, 3] [.pointer (some ⟨g3, 0, none⟩), .bool (decide ((lineV xx) = line))] (by kernel_rfl) ⟨(show Ld Tryd.prog w858 31 ⟨g761, 0, none⟩ (.agg #[.int .i64 14, .int .i64 v773, .int .i64 v788, .string ByteArray.empty, .slice none 0 0, .slice ao no co]) from Ld.rowN (cs := [.int .i64 14, .int .i64 v773, .int .i64 v788, .string ByteArray.empty, .slice none 0 0, .slice ao no co]) hp859.get3 (by kernel_rfl)), (show Ld Tryd.prog w858 4 ⟨g15, 1, none⟩ (.bool bz) from (Ld.row1 (P := Tryd.prog) (t := 4) (o := 1) (v := .bool bz) hp859.get1 (by kernel_rfl))), trivial⟩ (fun w860 hS861 => QB.mk .nil (by kernel_rfl)) (fun b862 => ?_)
            refine HOPS.nil ?_
            refine thn_n ?_
            exact ⟨decide ((lineV xx) = line), trivial, Bp.of Bp.dec (by first | (simp only [h848, h853, iff_false, false_iff, iff_true, true_iff, Classical.not_not, and_true, true_and, and_false, false_and, or_true, true_or, or_false, false_or, not_true_eq_false, not_false_eq_true, and_self, or_self, iff_self]; done) | (simp [h848, h853]; done) | grind | (simp_all; done)), by kernel_rfl, hp859⟩
          · refine HOPS.take 0 {} [] [0, 2, 9, 67, 77] [.string line, .pointer (some ⟨g3, 0, none⟩), .string (lineV xx), .agg #[.int .i64 14, .int .i64 v773, .int .i64 v788, .string ByteArray.empty, .slice none 0 0, .slice ao no co], .bool (decide ((chkI xx) = 0))] (by kernel_rfl) ⟨(show Ld Tryd.prog w838.drew 31 ⟨g761, 0, none⟩ (.agg #[.int .i64 14, .int .i64 v773, .int .i64 v788, .string ByteArray.empty, .slice none 0 0, .slice ao no co]) from Ld.rowN (cs := [.int .i64 14, .int .i64 v773, .int .i64 v788, .string ByteArray.empty, .slice none 0 0, .slice ao no co]) hp843.get3 (by kernel_rfl)), (show Ld Tryd.prog w838.drew 4 ⟨g15, 1, none⟩ (.bool bz) from (Ld.row1 (P := Tryd.prog) (t := 4) (o := 1) (v := .bool bz) hp843.get1 (by kernel_rfl))), trivial⟩ (fun _ _ => QB.mk .nil (by kernel_rfl)) (fun b863 => ?_)
            refine HOPS.re [.string line, .pointer (some ⟨g3, 0, none⟩), .string (lineV xx), .agg #[.int .i64 14, .int .i64 v773, .int .i64 v788, .string ByteArray.empty, .slice none 0 0, .slice ao no co], .bool false] (by rw [show (decide ((chkI xx) = 0)) = false from Bp.dec.ff h853]) ?_
            refine HOPS.take 4 { wraps := [81] } [] [2, 67, 81] [.pointer (some ⟨g3, 0, none⟩), .agg #[.int .i64 14, .int .i64 v773, .int .i64 v788, .string ByteArray.empty, .slice none 0 0, .slice ao no co], .bool false] (by kernel_rfl) ⟨(show Ld Tryd.prog w838.drew 31 ⟨g761, 0, none⟩ (.agg #[.int .i64 14, .int .i64 v773, .int .i64 v788, .string ByteArray.empty, .slice none 0 0, .slice ao no co]) from Ld.rowN (cs := [.int .i64 14, .int .i64 v773, .int .i64 v788, .string ByteArray.empty, .slice none 0 0, .slice ao no co]) hp843.get3 (by kernel_rfl)), (show Ld Tryd.prog w838.drew 4 ⟨g15, 1, none⟩ (.bool bz) from (Ld.row1 (P := Tryd.prog) (t := 4) (o := 1) (v := .bool bz) hp843.get1 (by kernel_rfl))), trivial⟩ (fun w864 hS865 => QB.mk .nil (by kernel_rfl)) (fun b866 => ?_)
            refine HOPS.eff _ rfl (opStep.store6 hp843 rfl [.int .i64 14, .int .i64 v773, .int .i64 v788, .string ByteArray.empty, .slice none 0 0, .slice ao no co] [.int .i64 14, .int .i64 v773, .int .i64 v788, .string ByteArray.empty, .slice none 0 0, .slice ao no co] (by kernel_rfl) (fun w867 hp868 => ?_))
            refine ⟨.inr ⟨(show Ld Tryd.prog w867 31 ⟨g761, 0, none⟩ (.agg #[.int .i64 14, .int .i64 v773, .int .i64 v788, .string ByteArray.empty, .slice none 0 0, .slice ao no co]) from Ld.rowN (cs := [.int .i64 14, .int .i64 v773, .int .i64 v788, .string ByteArray.empty, .slice none 0 0, .slice ao no co]) hp868.get3 (by kernel_rfl)), (show Ld Tryd.prog w867 4 ⟨g15, 1, none⟩ (.bool bz) from (Ld.row1 (P := Tryd.prog) (t := 4) (o := 1) (v := .bool bz) hp868.get1 (by kernel_rfl))), trivial⟩, ?_⟩
            refine HOPS.take 1 {} [] [2, 3] [.pointer (some ⟨g3, 0, none⟩), .bool false] (by kernel_rfl) ⟨(show Ld Tryd.prog w867 31 ⟨g761, 0, none⟩ (.agg #[.int .i64 14, .int .i64 v773, .int .i64 v788, .string ByteArray.empty, .slice none 0 0, .slice ao no co]) from Ld.rowN (cs := [.int .i64 14, .int .i64 v773, .int .i64 v788, .string ByteArray.empty, .slice none 0 0, .slice ao no co]) hp868.get3 (by kernel_rfl)), (show Ld Tryd.prog w867 4 ⟨g15, 1, none⟩ (.bool bz) from (Ld.row1 (P := Tryd.prog) (t := 4) (o := 1) (v := .bool bz) hp868.get1 (by kernel_rfl))), trivial⟩ (fun w869 hS870 => QB.mk .nil (by kernel_rfl)) (fun b871 => ?_)
            refine HOPS.nil ?_
            refine thn_n ?_
            exact ⟨false, trivial, Bp.of Bp.f (by first | (simp only [h848, h853, iff_false, false_iff, iff_true, true_iff, Classical.not_not, and_true, true_and, and_false, false_and, or_true, true_or, or_false, false_or, not_true_eq_false, not_false_eq_true, and_self, or_self, iff_self]; done) | (simp [h848, h853]; done) | grind | (simp_all; done)), by kernel_rfl, hp868⟩
      rintro e883 w884 ⟨x881, hd886, hb882, hE887, hp885⟩
      obtain ⟨b888, rfl⟩ := toMk hE887
      clear hE887
      clear hd886
      refine WP.ret ?_
      refine bodyQ.of _ rfl [.agg #[.int .i64 14, .int .i64 v773, .int .i64 v788, .string ByteArray.empty, .slice none 0 0, .slice ao no co], .bool x881] ⟨⟨_, rfl, (show Ld Tryd.prog w884 31 ⟨g3, 0, none⟩ (.agg #[.int .i64 14, .int .i64 v773, .int .i64 v788, .string ByteArray.empty, .slice none 0 0, .slice ao no co]) from Ld.rowN (cs := [.int .i64 14, .int .i64 v773, .int .i64 v788, .string ByteArray.empty, .slice none 0 0, .slice ao no co]) hp885.get6 (by kernel_rfl))⟩, rfl, trivial⟩ ?_
      have hre := fun y (h1 : okS y) (h2 : inS y) (h3 : y.Kind = 14) (h4 : lineS y = line) => (show _ ∧ xx = y from hxx ▸ read_ok (k := 14) (line := line) rfl rfl (.t rfl ⟨hn775, rfl⟩) (.t rfl ⟨hn790, rfl⟩) (.f rfl ⟨rfl, rfl, rfl⟩) (.f rfl ⟨rfl, rfl, rfl⟩) (rn_end hrn pa (by omega)) h1 h2 h3 h4)
      have hfin := step_fin (P := (¬ (bz = true)) ∧ ((chkI xx) = 0) ∧ ((lineV xx) = line)) hk38 hsm.1 hre (by have q0_ := h804 ; first | grind | (simp_all; done))
      exact ⟨(⟨14, v773, v788, ByteArray.empty, ⟨none, 0, 0⟩, ⟨ao, no, co⟩⟩ : GStep), xx, _, _, rfl, ⟨fun h => hfin.1 (Bp.tr hb882 h), fun h => hfin.2 (Bp.fa hb882 h)⟩, (by rw [hxx]; exact Hp.svMake0 (E := 3) (⟨14, v773, v788, ByteArray.empty, ⟨none, 0, 0⟩, ⟨ao, no, co⟩⟩ : GStep) _ rfl rfl rfl rfl rfl rfl (hp885.sub (.cons_cons _ (.cons _ (.cons _ (.cons _ (.cons _ (.cons _ (.cons _ (.slnil))))))))))⟩
  · rw [hk38]
    refine OPS.batch 1 {} [] [0, 2, 4, 6] [.string line, .pointer (some ⟨g3, 0, none⟩), .pointer (some ⟨g15, 0, none⟩), .int .i64 16] .nil (by kernel_rfl) (fun b889 => ?_)
    refine OPS.nil ?_
    refine thn_n ?_
    refine WP.seq ?_
    refine WP.seq ?_
    refine WP.pure {} [] [0, 2, 4, 6, 21] [.string line, .pointer (some ⟨g3, 0, none⟩), .pointer (some ⟨g15, 0, none⟩), .int .i64 16, .bool false] .nil (by kernel_rfl) (fun b890 => ?_)
    refine thn_n ?_
    refine WP.condF rfl ?_
    refine WP.skip ?_
    refine thn_n ?_
    refine WP.seq ?_
    refine WP.region _ rfl (by kernel_rfl) ?_
    refine OPS.batch 3 {} [.agg #[.string ⟨#[114, 111, 117, 110, 100]⟩, .bool false, .bool true, .bool false, .bool false, .bool false, .bool true]] [0, 2, 4, 6, 25] [.string line, .pointer (some ⟨g3, 0, none⟩), .pointer (some ⟨g15, 0, none⟩), .int .i64 16, .agg #[.string ⟨#[114, 111, 117, 110, 100]⟩, .bool false, .bool true, .bool false, .bool false, .bool false, .bool true]] (.cons (show InB (16) (17) from ⟨by omega, by omega⟩) (.cons (show Ld Tryd.prog w35 56 ⟨0, 112, none⟩ (.agg #[.string ⟨#[114, 111, 117, 110, 100]⟩, .bool false, .bool true, .bool false, .bool false, .bool false, .bool true]) from Ld.rowN (cs := [.string ⟨#[114, 111, 117, 110, 100]⟩, .bool false, .bool true, .bool false, .bool false, .bool false, .bool true]) (row_at hls.tab hp37.fr) (by kernel_rfl)) .nil)) (by kernel_rfl) (fun b891 => ?_)
    refine OPS.cons (opStep.alloc hp37 [.string ByteArray.empty, .bool false, .bool false, .bool false, .bool false, .bool false, .bool false] (by kernel_rfl) (fun g894 w892 hp893 => ?_))
    refine OPS.cons (opStep.store0 hp893 rfl [.string ⟨#[114, 111, 117, 110, 100]⟩, .bool false, .bool true, .bool false, .bool false, .bool false, .bool true] [.string ⟨#[114, 111, 117, 110, 100]⟩, .bool false, .bool true, .bool false, .bool false, .bool false, .bool true] (by kernel_rfl) (fun w895 hp896 => ?_))
    refine OPS.nil ?_
    refine thn_n ?_
    refine WP.seq ?_
    refine WP.region _ rfl (by kernel_rfl) ?_
    refine OPS.batch 2 {} [] [0, 2, 4, 7, 27] [.string line, .pointer (some ⟨g3, 0, none⟩), .pointer (some ⟨g15, 0, none⟩), .pointer (some ⟨g894, 0, none⟩), .agg #[.int .i64 16, .int .i64 0, .int .i64 0, .string ByteArray.empty, .slice none 0 0, .slice none 0 0]] .nil (by kernel_rfl) (fun b897 => ?_)
    refine OPS.cons (opStep.alloc hp896 [.int .i64 0, .int .i64 0, .int .i64 0, .string ByteArray.empty, .slice none 0 0, .slice none 0 0] (by kernel_rfl) (fun g900 w898 hp899 => ?_))
    refine OPS.cons (opStep.store0 hp899 rfl [.int .i64 16, .int .i64 0, .int .i64 0, .string ByteArray.empty, .slice none 0 0, .slice none 0 0] [.int .i64 16, .int .i64 0, .int .i64 0, .string ByteArray.empty, .slice none 0 0, .slice none 0 0] (by kernel_rfl) (fun w901 hp902 => ?_))
    refine OPS.nil ?_
    refine thn_n ?_
    refine WP.seq ?_
    refine WP.seq ?_
    refine WP.pure {} [.bool false] [0, 2, 4, 7, 8, 29] [.string line, .pointer (some ⟨g3, 0, none⟩), .pointer (some ⟨g15, 0, none⟩), .pointer (some ⟨g894, 0, none⟩), .pointer (some ⟨g900, 0, none⟩), .bool false] (.cons (Ld.row1 (P := Tryd.prog) (t := 4) (o := 1) (v := .bool false) hp902.get1 (by kernel_rfl)) .nil) (by kernel_rfl) (fun b903 => ?_)
    refine thn_n ?_
    refine WP.condF rfl ?_
    refine WP.skip ?_
    refine thn_n ?_
    refine WP.seq ?_
    refine WP.seq ?_
    refine WP.pure {} [.bool true] [0, 2, 4, 7, 8, 34] [.string line, .pointer (some ⟨g3, 0, none⟩), .pointer (some ⟨g15, 0, none⟩), .pointer (some ⟨g894, 0, none⟩), .pointer (some ⟨g900, 0, none⟩), .bool true] (.cons (Ld.row1 (P := Tryd.prog) (t := 4) (o := 2) (v := .bool true) hp902.get1 (by kernel_rfl)) .nil) (by kernel_rfl) (fun b904 => ?_)
    refine thn_n ?_
    refine WP.condT rfl ?_
    refine WP.region _ rfl (by kernel_rfl) ?_
    refine OPS.batch 1 {} [] [0, 2, 4, 7, 8, 35] [.string line, .pointer (some ⟨g3, 0, none⟩), .pointer (some ⟨g15, 0, none⟩), .pointer (some ⟨g894, 0, none⟩), .pointer (some ⟨g900, 0, none⟩), .pointer (some ⟨g15, 0, none⟩)] .nil (by kernel_rfl) (fun b905 => ?_)
    have hp908 := hp902.pull4
    have hp909 := hp908.pull4
    refine OPS.cons (opStep.call (some 36) [.pointer (some ⟨g15, 0, none⟩)] (by kernel_rfl) (w_number _ _ g15 g10 h24 ((wordsB line).tail) (false || (wordsB line).isEmpty) _ hl (tail_size hsz) hp909) ?_)
    rintro _ w910 ⟨h912, v913, bd914_, rfl, hn915, hp911⟩
    refine ⟨_, rfl, ?_⟩
    have hn915a := hn915.rng.1
    have hn915b := hn915.rng.2
    have hn915z := itoaT_size hn915a hn915b
    refine OPS.batch 1 {} [] [0, 2, 4, 7, 8, 36, 37] [.string line, .pointer (some ⟨g3, 0, none⟩), .pointer (some ⟨g15, 0, none⟩), .pointer (some ⟨g894, 0, none⟩), .pointer (some ⟨g900, 0, none⟩), .int .i64 v913, .pointer (some ⟨g900, 2, none⟩)] .nil (by kernel_rfl) (fun b916 => ?_)
    refine OPS.cons (opStep.store2 hp911 rfl [.int .i64 v913] [.int .i64 16, .int .i64 0, .int .i64 v913, .string ByteArray.empty, .slice none 0 0, .slice none 0 0] (by kernel_rfl) (fun w917 hp918 => ?_))
    refine OPS.nil ?_
    refine thn_n ?_
    refine WP.seq ?_
    refine WP.seq ?_
    refine WP.pure {} [.bool false] [0, 2, 4, 7, 8, 39] [.string line, .pointer (some ⟨g3, 0, none⟩), .pointer (some ⟨g15, 0, none⟩), .pointer (some ⟨g894, 0, none⟩), .pointer (some ⟨g900, 0, none⟩), .bool false] (.cons (Ld.row1 (P := Tryd.prog) (t := 4) (o := 3) (v := .bool false) hp918.get3 (by kernel_rfl)) .nil) (by kernel_rfl) (fun b919 => ?_)
    refine thn_n ?_
    refine WP.condF rfl ?_
    refine WP.skip ?_
    refine thn_n ?_
    refine WP.seq ?_
    refine WP.seq ?_
    refine WP.pure {} [.bool false] [0, 2, 4, 8, 44] [.string line, .pointer (some ⟨g3, 0, none⟩), .pointer (some ⟨g15, 0, none⟩), .pointer (some ⟨g900, 0, none⟩), .bool false] (.cons (Ld.row1 (P := Tryd.prog) (t := 4) (o := 4) (v := .bool false) hp918.get3 (by kernel_rfl)) .nil) (by kernel_rfl) (fun b920 => ?_)
    refine thn_n ?_
    refine WP.condF rfl ?_
    refine WP.skip ?_
    refine thn_n ?_
    refine WP.seq ?_
    refine WP.block ?_
    have hp921 := (show Hp w Non [Res.own 3 1 (.slice none 0 0) 0 (List.flatMap i64c ([] : List Int)), Res.row g15 [.slice h912.a h912.n h912.c, .bool bd914_] 75, Res.lst g10 h912 (((wordsB line).tail).tail), Res.row g900 [.int .i64 16, .int .i64 0, .int .i64 v913, .string ByteArray.empty, .slice none 0 0, .slice none 0 0] 31, Res.row g894 [.string ⟨#[114, 111, 117, 110, 100]⟩, .bool false, .bool true, .bool false, .bool false, .bool false, .bool true] 56, Res.row g27 [.string ((wordsB line).headD ByteArray.empty)] 9, Res.row g3 [.int .i64 0, .int .i64 0, .int .i64 0, .string ByteArray.empty, .slice none 0 0, .slice none 0 0] 31] w917 from hp918.nilOwn 3 1)
    refine WP.loop (fun mz_ e922 w923 => ∃ (wz : List ByteArray) (hz : SlH) (bz : Bool) (ls : List Int) (ao : Option Addr) (no : Nat) (co : Nat), mz_ = wz.length ∧ (wz = List.drop ls.length (((wordsB line).tail).tail) ∧ ls.length ≤ (wordsB line).length ∧ RnI bd914_ (((wordsB line).tail).tail) ls bz ∧ (∀ x ∈ wz, x.size ≤ 281474976710656)) ∧ List.map e922 [0, 2, 4, 8] = [.string line, .pointer (some ⟨g3, 0, none⟩), .pointer (some ⟨g15, 0, none⟩), .pointer (some ⟨g900, 0, none⟩)] ∧ Hp w Non [Res.own 3 1 (.slice ao no co) no (List.flatMap i64c ls), Res.row g15 [.slice hz.a hz.n hz.c, .bool bz] 75, Res.lst g10 hz wz, Res.row g900 [.int .i64 16, .int .i64 0, .int .i64 v913, .string ByteArray.empty, .slice none 0 0, .slice ao no co] 31, Res.row g894 [.string ⟨#[114, 111, 117, 110, 100]⟩, .bool false, .bool true, .bool false, .bool false, .bool false, .bool true] 56, Res.row g27 [.string ((wordsB line).headD ByteArray.empty)] 9, Res.row g3 [.int .i64 0, .int .i64 0, .int .i64 0, .string ByteArray.empty, .slice none 0 0, .slice none 0 0] 31] w923) ((((wordsB line).tail).tail).length) ⟨((wordsB line).tail).tail, h912, bd914_, [], none, 0, 0, rfl, ⟨rfl, Nat.zero_le _, rn_start _ _, (tail_size (tail_size hsz))⟩, by kernel_rfl, hp921⟩ ?_
    rintro _ e922 w923 ⟨wz, hz, bz, ls, ao, no, co, rfl, hI925, hE926, hp924⟩
    obtain ⟨b927, rfl⟩ := toMk hE926
    clear hE926
    obtain ⟨pa, pb, hrn, hsw⟩ := hI925
    have hlz := lst_len hp924.get2
    have hsz := hsw
    have pe := own_flat (f := i64c) (sz := 1) (fun _ => rfl) (by decide) hp924.get0
    have hdl := congrArg List.length pa
    rw [List.length_drop] at hdl
    have hw4 : (((wordsB line).tail).tail).length ≤ (wordsB line).length := by simp only [List.length_tail]; omega
    refine WP.seq ?_
    refine WP.seq ?_
    refine WP.pure {} [.slice hz.a hz.n hz.c] [0, 2, 4, 8, 54] [.string line, .pointer (some ⟨g3, 0, none⟩), .pointer (some ⟨g15, 0, none⟩), .pointer (some ⟨g900, 0, none⟩), .bool (decide (0 < ((hz.n : Nat) : Int)))] (.cons (Ld.row1 (P := Tryd.prog) (t := 36) (o := 0) (v := .slice hz.a hz.n hz.c) hp924.get1 (by kernel_rfl)) .nil) (by kernel_rfl) (fun b928 => ?_)
    refine thn_n ?_
    refine WP.test (p := 0 < ((hz.n : Nat) : Int)) rfl Bp.dec (fun h929 => ?_) (fun h929 => ?_)
    · refine WP.skip ?_
      refine thn_n ?_
      refine WP.block ?_
      have hp930 := hp924.drew
      refine WP.held (fun w931 => Ld Tryd.prog w931 29 ⟨g900, 5, none⟩ (.slice ao no co) ∧ True) [7] [(0, true), (1, true), (2, true), (3, false), (4, false), (5, false), (6, true), (7, false)] (np_blk (np_thn (np_blk (np_thn np_body)))) (by kernel_rfl) ?_
      refine HOPS.take 3 {} [.slice ao no co] [0, 2, 4, 8, 56, 57] [.string line, .pointer (some ⟨g3, 0, none⟩), .pointer (some ⟨g15, 0, none⟩), .pointer (some ⟨g900, 0, none⟩), .slice ao no co, .pointer (some ⟨g15, 0, none⟩)] (by kernel_rfl) ⟨(show Ld Tryd.prog w923.drew 29 ⟨g900, 5, none⟩ (.slice ao no co) from (Ld.row1 (P := Tryd.prog) (t := 29) (o := 5) (v := .slice ao no co) hp930.get3 (by kernel_rfl))), trivial⟩ (fun w932 hS933 => QB.mk (.cons (hS933.1) .nil) (by kernel_rfl)) (fun b934 => ?_)
      have hp937 := hp930.pull2
      have hp938 := hp937.pull2
      refine HOPS.eff _ rfl (opStep.call (some 58) [.pointer (some ⟨g15, 0, none⟩)] (by kernel_rfl) (w_number _ _ g15 g10 hz wz bz _ hl hsz hp938) ?_)
      rintro _ w939 ⟨h941, v942, bd943_, rfl, hn944, hp940⟩
      refine ⟨_, rfl, ?_⟩
      have hn944a := hn944.rng.1
      have hn944b := hn944.rng.2
      have hn944z := itoaT_size hn944a hn944b
      refine ⟨.inr ⟨(show Ld Tryd.prog w939 29 ⟨g900, 5, none⟩ (.slice ao no co) from (Ld.row1 (P := Tryd.prog) (t := 29) (o := 5) (v := .slice ao no co) hp940.get3 (by kernel_rfl))), trivial⟩, ?_⟩
      refine HOPS.eff _ rfl (opStep.buildSlice (E := 3) hp940 [.int .i64 v942] (by kernel_rfl) (fun g947 w945 hp946 => ?_))
      refine ⟨.inr ⟨(show Ld Tryd.prog w945 29 ⟨g900, 5, none⟩ (.slice ao no co) from (Ld.row1 (P := Tryd.prog) (t := 29) (o := 5) (v := .slice ao no co) hp946.get4 (by kernel_rfl))), trivial⟩, ?_⟩
      refine HOPS.eff _ rfl (opStep.append3 [.int .i64 v942] hp946 8 (by kernel_rfl) rfl rfl rfl (SlR.row (n := 1) hp946.get0 rfl).rd (List.all_eq_true.1 (by kernel_rfl)) (by decide) (by omega) (by omega) (fun a950 c951 w952 hp953 hn954 => ?_))
      rw [(show List.flatMap i64c ls ++ [.int .i64 v942] = List.flatMap i64c (ls ++ [v942]) from (List.flatMap_append (xs := ls) (ys := [v942])).symm)] at hp953
      refine ⟨.inr ⟨(show Ld Tryd.prog w952 29 ⟨g900, 5, none⟩ (.slice ao no co) from (Ld.row1 (P := Tryd.prog) (t := 29) (o := 5) (v := .slice ao no co) hp953.get4 (by kernel_rfl))), trivial⟩, ?_⟩
      refine HOPS.take 1 {} [] [0, 2, 4, 8, 60, 61] [.string line, .pointer (some ⟨g3, 0, none⟩), .pointer (some ⟨g15, 0, none⟩), .pointer (some ⟨g900, 0, none⟩), .slice a950 (no + 1) c951, .pointer (some ⟨g900, 5, none⟩)] (by kernel_rfl) ⟨(show Ld Tryd.prog w952 29 ⟨g900, 5, none⟩ (.slice ao no co) from (Ld.row1 (P := Tryd.prog) (t := 29) (o := 5) (v := .slice ao no co) hp953.get4 (by kernel_rfl))), trivial⟩ (fun w955 hS956 => QB.mk .nil (by kernel_rfl)) (fun b957 => ?_)
      refine HOPS.eff _ rfl (opStep.store4 hp953 rfl [.slice a950 (no + 1) c951] [.int .i64 16, .int .i64 0, .int .i64 v913, .string ByteArray.empty, .slice none 0 0, .slice a950 (no + 1) c951] (by kernel_rfl) (fun w958 hp959 => ?_))
      refine ⟨.inl rfl, ?_⟩
      refine HOPS.nil ?_
      refine blk_n ?_
      refine thn_n ?_
      exact ⟨(wz.tail).length, (by rw [List.length_tail]; omega), wz.tail, h941, bd943_, ls ++ [v942], a950, no + 1, c951, rfl, ⟨by rw [List.length_append, List.length_singleton, ← List.drop_drop, ← pa, List.drop_one], by rw [List.length_append, List.length_singleton]; omega, rn_step hrn pa hn944 (by omega), tail_size hsw⟩, by kernel_rfl, ((((((((hp959.pull7).pull7).pull7).pull7).pull6).pull6).pull7).sub (.cons_cons _ (.cons_cons _ (.cons_cons _ (.cons_cons _ (.cons_cons _ (.cons_cons _ (.cons_cons _ (.cons _ (.slnil))))))))))⟩
    · refine WP.exit ?_
      refine thn_x ?_
      refine thn_x ?_
      refine blk_hit ?_
      refine thn_n ?_
      refine WP.seq ?_
      refine WP.region _ rfl (by kernel_rfl) ?_
      refine OPS.batch 1 {} [.agg #[.int .i64 16, .int .i64 0, .int .i64 v913, .string ByteArray.empty, .slice none 0 0, .slice ao no co]] [0, 2, 4, 8, 63] [.string line, .pointer (some ⟨g3, 0, none⟩), .pointer (some ⟨g15, 0, none⟩), .pointer (some ⟨g900, 0, none⟩), .agg #[.int .i64 16, .int .i64 0, .int .i64 v913, .string ByteArray.empty, .slice none 0 0, .slice ao no co]] (.cons (show Ld Tryd.prog w923 31 ⟨g900, 0, none⟩ (.agg #[.int .i64 16, .int .i64 0, .int .i64 v913, .string ByteArray.empty, .slice none 0 0, .slice ao no co]) from Ld.rowN (cs := [.int .i64 16, .int .i64 0, .int .i64 v913, .string ByteArray.empty, .slice none 0 0, .slice ao no co]) hp924.get3 (by kernel_rfl)) .nil) (by kernel_rfl) (fun b960 => ?_)
      obtain ⟨xx, hxx⟩ : ∃ z : StepP, z = ⟨16, 0, v913, ByteArray.empty, (⟨#[]⟩ : ByteArray), ls⟩ := ⟨_, rfl⟩
      have hsm : smS xx := by rw [hxx]; exact ⟨⟨in0, hn915.rng, hrn.1⟩, (by simp only; decide), (by simp only; decide), by simp only; omega⟩
      refine OPS.cons (opStep.call (some 64) [.agg #[.int .i64 16, .int .i64 0, .int .i64 v913, .string ByteArray.empty, .slice none 0 0, .slice ao no co]] (by kernel_rfl) (sc_Line (⟨16, 0, v913, ByteArray.empty, ⟨none, 0, 0⟩, ⟨ao, no, co⟩⟩ : GStep) xx _ (hls.fram hp924.fr) (by rw [hxx]; exact (StR.of rfl rfl rfl rfl (⟨rfl, slr_nil0 _⟩) (own_flat (f := i64c) (sz := 1) (fun _ => rfl) (by decide) hp924.get0).symm (SlR.own hp924.get0))) hsm) ?_)
      rintro _ w963 ⟨rfl, hf964⟩
      refine ⟨_, rfl, ?_⟩
      have hp965 := hp924.step hf964
      refine OPS.batch 5 {} [] [0, 2, 4, 8, 9, 10] [.string line, .pointer (some ⟨g3, 0, none⟩), .pointer (some ⟨g15, 0, none⟩), .pointer (some ⟨g900, 0, none⟩), .string (lineV xx), .int .i64 (chkI xx)] .nil (by kernel_rfl) (fun b966 => ?_)
      refine OPS.nil ?_
      refine thn_n ?_
      refine WP.cut (fun e1008 w1009 => ∃ (x1006 : Bool), (True) ∧ Bp x1006 ((¬ (bz = true)) ∧ ((chkI xx) = 0) ∧ ((lineV xx) = line)) ∧ List.map e1008 [2, 3] = [.pointer (some ⟨g3, 0, none⟩), .bool x1006] ∧ Hp w Non [Res.own 3 1 (.slice ao no co) no (List.flatMap i64c ls), Res.row g15 [.slice hz.a hz.n hz.c, .bool bz] 75, Res.lst g10 hz wz, Res.row g900 [.int .i64 16, .int .i64 0, .int .i64 v913, .string ByteArray.empty, .slice none 0 0, .slice ao no co] 31, Res.row g894 [.string ⟨#[114, 111, 117, 110, 100]⟩, .bool false, .bool true, .bool false, .bool false, .bool false, .bool true] 56, Res.row g27 [.string ((wordsB line).headD ByteArray.empty)] 9, Res.row g3 [.int .i64 16, .int .i64 0, .int .i64 v913, .string ByteArray.empty, .slice none 0 0, .slice ao no co] 31] w1009) ?_ ?_
      · have hp968 := hp965.drew
        refine WP.held (fun w969 => Ld Tryd.prog w969 31 ⟨g900, 0, none⟩ (.agg #[.int .i64 16, .int .i64 0, .int .i64 v913, .string ByteArray.empty, .slice none 0 0, .slice ao no co]) ∧ Ld Tryd.prog w969 4 ⟨g15, 1, none⟩ (.bool bz) ∧ True) [] [(0, true), (1, true), (2, true), (3, true), (4, true), (5, true), (6, true), (7, true), (8, true), (9, true), (10, true), (11, true), (12, true), (13, true), (14, true), (15, false), (16, true)] (np_thn np_body) (by kernel_rfl) ?_
        refine HOPS.take 7 {} [.agg #[.int .i64 16, .int .i64 0, .int .i64 v913, .string ByteArray.empty, .slice none 0 0, .slice ao no co], .bool bz] [0, 2, 9, 10, 67, 73] [.string line, .pointer (some ⟨g3, 0, none⟩), .string (lineV xx), .int .i64 (chkI xx), .agg #[.int .i64 16, .int .i64 0, .int .i64 v913, .string ByteArray.empty, .slice none 0 0, .slice ao no co], .bool (!bz)] (by kernel_rfl) ⟨(show Ld Tryd.prog w963.drew 31 ⟨g900, 0, none⟩ (.agg #[.int .i64 16, .int .i64 0, .int .i64 v913, .string ByteArray.empty, .slice none 0 0, .slice ao no co]) from Ld.rowN (cs := [.int .i64 16, .int .i64 0, .int .i64 v913, .string ByteArray.empty, .slice none 0 0, .slice ao no co]) hp968.get3 (by kernel_rfl)), (show Ld Tryd.prog w963.drew 4 ⟨g15, 1, none⟩ (.bool bz) from (Ld.row1 (P := Tryd.prog) (t := 4) (o := 1) (v := .bool bz) hp968.get1 (by kernel_rfl))), trivial⟩ (fun w970 hS971 => QB.mk (.cons (hS971.1) (.cons (hS971.2.1) .nil)) (by kernel_rfl)) (fun b972 => ?_)
        by_cases h973 : bz = true
        · refine HOPS.take 0 {} [] [0, 2, 9, 10, 67, 73] [.string line, .pointer (some ⟨g3, 0, none⟩), .string (lineV xx), .int .i64 (chkI xx), .agg #[.int .i64 16, .int .i64 0, .int .i64 v913, .string ByteArray.empty, .slice none 0 0, .slice ao no co], .bool (!bz)] (by kernel_rfl) ⟨(show Ld Tryd.prog w963.drew 31 ⟨g900, 0, none⟩ (.agg #[.int .i64 16, .int .i64 0, .int .i64 v913, .string ByteArray.empty, .slice none 0 0, .slice ao no co]) from Ld.rowN (cs := [.int .i64 16, .int .i64 0, .int .i64 v913, .string ByteArray.empty, .slice none 0 0, .slice ao no co]) hp968.get3 (by kernel_rfl)), (show Ld Tryd.prog w963.drew 4 ⟨g15, 1, none⟩ (.bool bz) from (Ld.row1 (P := Tryd.prog) (t := 4) (o := 1) (v := .bool bz) hp968.get1 (by kernel_rfl))), trivial⟩ (fun _ _ => QB.mk .nil (by kernel_rfl)) (fun b997 => ?_)
          refine HOPS.re [.string line, .pointer (some ⟨g3, 0, none⟩), .string (lineV xx), .int .i64 (chkI xx), .agg #[.int .i64 16, .int .i64 0, .int .i64 v913, .string ByteArray.empty, .slice none 0 0, .slice ao no co], .bool false] (by rw [show (!bz) = false from (Bp.not Bp.var).ff (fun k => k h973)]) ?_
          refine HOPS.take 8 { wraps := [76, 81] } [] [2, 67, 81] [.pointer (some ⟨g3, 0, none⟩), .agg #[.int .i64 16, .int .i64 0, .int .i64 v913, .string ByteArray.empty, .slice none 0 0, .slice ao no co], .bool false] (by kernel_rfl) ⟨(show Ld Tryd.prog w963.drew 31 ⟨g900, 0, none⟩ (.agg #[.int .i64 16, .int .i64 0, .int .i64 v913, .string ByteArray.empty, .slice none 0 0, .slice ao no co]) from Ld.rowN (cs := [.int .i64 16, .int .i64 0, .int .i64 v913, .string ByteArray.empty, .slice none 0 0, .slice ao no co]) hp968.get3 (by kernel_rfl)), (show Ld Tryd.prog w963.drew 4 ⟨g15, 1, none⟩ (.bool bz) from (Ld.row1 (P := Tryd.prog) (t := 4) (o := 1) (v := .bool bz) hp968.get1 (by kernel_rfl))), trivial⟩ (fun w998 hS999 => QB.mk .nil (by kernel_rfl)) (fun b1000 => ?_)
          refine HOPS.eff _ rfl (opStep.store6 hp968 rfl [.int .i64 16, .int .i64 0, .int .i64 v913, .string ByteArray.empty, .slice none 0 0, .slice ao no co] [.int .i64 16, .int .i64 0, .int .i64 v913, .string ByteArray.empty, .slice none 0 0, .slice ao no co] (by kernel_rfl) (fun w1001 hp1002 => ?_))
          refine ⟨.inr ⟨(show Ld Tryd.prog w1001 31 ⟨g900, 0, none⟩ (.agg #[.int .i64 16, .int .i64 0, .int .i64 v913, .string ByteArray.empty, .slice none 0 0, .slice ao no co]) from Ld.rowN (cs := [.int .i64 16, .int .i64 0, .int .i64 v913, .string ByteArray.empty, .slice none 0 0, .slice ao no co]) hp1002.get3 (by kernel_rfl)), (show Ld Tryd.prog w1001 4 ⟨g15, 1, none⟩ (.bool bz) from (Ld.row1 (P := Tryd.prog) (t := 4) (o := 1) (v := .bool bz) hp1002.get1 (by kernel_rfl))), trivial⟩, ?_⟩
          refine HOPS.take 1 {} [] [2, 3] [.pointer (some ⟨g3, 0, none⟩), .bool false] (by kernel_rfl) ⟨(show Ld Tryd.prog w1001 31 ⟨g900, 0, none⟩ (.agg #[.int .i64 16, .int .i64 0, .int .i64 v913, .string ByteArray.empty, .slice none 0 0, .slice ao no co]) from Ld.rowN (cs := [.int .i64 16, .int .i64 0, .int .i64 v913, .string ByteArray.empty, .slice none 0 0, .slice ao no co]) hp1002.get3 (by kernel_rfl)), (show Ld Tryd.prog w1001 4 ⟨g15, 1, none⟩ (.bool bz) from (Ld.row1 (P := Tryd.prog) (t := 4) (o := 1) (v := .bool bz) hp1002.get1 (by kernel_rfl))), trivial⟩ (fun w1003 hS1004 => QB.mk .nil (by kernel_rfl)) (fun b1005 => ?_)
          refine HOPS.nil ?_
          refine thn_n ?_
          exact ⟨false, trivial, Bp.of Bp.f (by first | (simp only [h973, iff_false, false_iff, iff_true, true_iff, Classical.not_not, and_true, true_and, and_false, false_and, or_true, true_or, or_false, false_or, not_true_eq_false, not_false_eq_true, and_self, or_self, iff_self]; done) | (simp [h973]; done) | grind | (simp_all; done)), by kernel_rfl, hp1002⟩
        · refine HOPS.take 0 {} [] [0, 2, 9, 10, 67, 73] [.string line, .pointer (some ⟨g3, 0, none⟩), .string (lineV xx), .int .i64 (chkI xx), .agg #[.int .i64 16, .int .i64 0, .int .i64 v913, .string ByteArray.empty, .slice none 0 0, .slice ao no co], .bool (!bz)] (by kernel_rfl) ⟨(show Ld Tryd.prog w963.drew 31 ⟨g900, 0, none⟩ (.agg #[.int .i64 16, .int .i64 0, .int .i64 v913, .string ByteArray.empty, .slice none 0 0, .slice ao no co]) from Ld.rowN (cs := [.int .i64 16, .int .i64 0, .int .i64 v913, .string ByteArray.empty, .slice none 0 0, .slice ao no co]) hp968.get3 (by kernel_rfl)), (show Ld Tryd.prog w963.drew 4 ⟨g15, 1, none⟩ (.bool bz) from (Ld.row1 (P := Tryd.prog) (t := 4) (o := 1) (v := .bool bz) hp968.get1 (by kernel_rfl))), trivial⟩ (fun _ _ => QB.mk .nil (by kernel_rfl)) (fun b974 => ?_)
          refine HOPS.re [.string line, .pointer (some ⟨g3, 0, none⟩), .string (lineV xx), .int .i64 (chkI xx), .agg #[.int .i64 16, .int .i64 0, .int .i64 v913, .string ByteArray.empty, .slice none 0 0, .slice ao no co], .bool true] (by rw [show (!bz) = true from (Bp.not Bp.var).tt h973]) ?_
          refine HOPS.take 4 { wraps := [76] } [] [0, 2, 9, 67, 77] [.string line, .pointer (some ⟨g3, 0, none⟩), .string (lineV xx), .agg #[.int .i64 16, .int .i64 0, .int .i64 v913, .string ByteArray.empty, .slice none 0 0, .slice ao no co], .bool (decide ((chkI xx) = 0))] (by kernel_rfl) ⟨(show Ld Tryd.prog w963.drew 31 ⟨g900, 0, none⟩ (.agg #[.int .i64 16, .int .i64 0, .int .i64 v913, .string ByteArray.empty, .slice none 0 0, .slice ao no co]) from Ld.rowN (cs := [.int .i64 16, .int .i64 0, .int .i64 v913, .string ByteArray.empty, .slice none 0 0, .slice ao no co]) hp968.get3 (by kernel_rfl)), (show Ld Tryd.prog w963.drew 4 ⟨g15, 1, none⟩ (.bool bz) from (Ld.row1 (P := Tryd.prog) (t := 4) (o := 1) (v := .bool bz) hp968.get1 (by kernel_rfl))), trivial⟩ (fun w975 hS976 => QB.mk .nil (by kernel_rfl)) (fun b977 => ?_)
          by_cases h978 : (chkI xx) = 0
          · refine HOPS.take 0 {} [] [0, 2, 9, 67, 77] [.string line, .pointer (some ⟨g3, 0, none⟩), .string (lineV xx), .agg #[.int .i64 16, .int .i64 0, .int .i64 v913, .string ByteArray.empty, .slice none 0 0, .slice ao no co], .bool (decide ((chkI xx) = 0))] (by kernel_rfl) ⟨(show Ld Tryd.prog w963.drew 31 ⟨g900, 0, none⟩ (.agg #[.int .i64 16, .int .i64 0, .int .i64 v913, .string ByteArray.empty, .slice none 0 0, .slice ao no co]) from Ld.rowN (cs := [.int .i64 16, .int .i64 0, .int .i64 v913, .string ByteArray.empty, .slice none 0 0, .slice ao no co]) hp968.get3 (by kernel_rfl)), (show Ld Tryd.prog w963.drew 4 ⟨g15, 1, none⟩ (.bool bz) from (Ld.row1 (P := Tryd.prog) (t := 4) (o := 1) (v := .bool bz) hp968.get1 (by kernel_rfl))), trivial⟩ (fun _ _ => QB.mk .nil (by kernel_rfl)) (fun b979 => ?_)
            refine HOPS.re [.string line, .pointer (some ⟨g3, 0, none⟩), .string (lineV xx), .agg #[.int .i64 16, .int .i64 0, .int .i64 v913, .string ByteArray.empty, .slice none 0 0, .slice ao no co], .bool true] (by rw [show (decide ((chkI xx) = 0)) = true from Bp.dec.tt h978]) ?_
            refine HOPS.take 4 { wraps := [81] } [] [2, 67, 81] [.pointer (some ⟨g3, 0, none⟩), .agg #[.int .i64 16, .int .i64 0, .int .i64 v913, .string ByteArray.empty, .slice none 0 0, .slice ao no co], .bool (decide ((lineV xx) = line))] (by kernel_rfl) ⟨(show Ld Tryd.prog w963.drew 31 ⟨g900, 0, none⟩ (.agg #[.int .i64 16, .int .i64 0, .int .i64 v913, .string ByteArray.empty, .slice none 0 0, .slice ao no co]) from Ld.rowN (cs := [.int .i64 16, .int .i64 0, .int .i64 v913, .string ByteArray.empty, .slice none 0 0, .slice ao no co]) hp968.get3 (by kernel_rfl)), (show Ld Tryd.prog w963.drew 4 ⟨g15, 1, none⟩ (.bool bz) from (Ld.row1 (P := Tryd.prog) (t := 4) (o := 1) (v := .bool bz) hp968.get1 (by kernel_rfl))), trivial⟩ (fun w980 hS981 => QB.mk .nil (by kernel_rfl)) (fun b982 => ?_)
            refine HOPS.eff _ rfl (opStep.store6 hp968 rfl [.int .i64 16, .int .i64 0, .int .i64 v913, .string ByteArray.empty, .slice none 0 0, .slice ao no co] [.int .i64 16, .int .i64 0, .int .i64 v913, .string ByteArray.empty, .slice none 0 0, .slice ao no co] (by kernel_rfl) (fun w983 hp984 => ?_))
            refine ⟨.inr ⟨(show Ld Tryd.prog w983 31 ⟨g900, 0, none⟩ (.agg #[.int .i64 16, .int .i64 0, .int .i64 v913, .string ByteArray.empty, .slice none 0 0, .slice ao no co]) from Ld.rowN (cs := [.int .i64 16, .int .i64 0, .int .i64 v913, .string ByteArray.empty, .slice none 0 0, .slice ao no co]) hp984.get3 (by kernel_rfl)), (show Ld Tryd.prog w983 4 ⟨g15, 1, none⟩ (.bool bz) from (Ld.row1 (P := Tryd.prog) (t := 4) (o := 1) (v := .bool bz) hp984.get1 (by kernel_rfl))), trivial⟩, ?_⟩
            refine HOPS.take 1 {} [] [2, 3] [.pointer (some ⟨g3, 0, none⟩), .bool (decide ((lineV xx) = line))] (by kernel_rfl) ⟨(show Ld Tryd.prog w983 31 ⟨g900, 0, none⟩ (.agg #[.int .i64 16, .int .i64 0, .int .i64 v913, .string ByteArray.empty, .slice none 0 0, .slice ao no co]) from Ld.rowN (cs := [.int .i64 16, .int .i64 0, .int .i64 v913, .string ByteArray.empty, .slice none 0 0, .slice ao no co]) hp984.get3 (by kernel_rfl)), (show Ld Tryd.prog w983 4 ⟨g15, 1, none⟩ (.bool bz) from (Ld.row1 (P := Tryd.prog) (t := 4) (o := 1) (v := .bool bz) hp984.get1 (by kernel_rfl))), trivial⟩ (fun w985 hS986 => QB.mk .nil (by kernel_rfl)) (fun b987 => ?_)
            refine HOPS.nil ?_
            refine thn_n ?_
            exact ⟨decide ((lineV xx) = line), trivial, Bp.of Bp.dec (by first | (simp only [h973, h978, iff_false, false_iff, iff_true, true_iff, Classical.not_not, and_true, true_and, and_false, false_and, or_true, true_or, or_false, false_or, not_true_eq_false, not_false_eq_true, and_self, or_self, iff_self]; done) | (simp [h973, h978]; done) | grind | (simp_all; done)), by kernel_rfl, hp984⟩
          · refine HOPS.take 0 {} [] [0, 2, 9, 67, 77] [.string line, .pointer (some ⟨g3, 0, none⟩), .string (lineV xx), .agg #[.int .i64 16, .int .i64 0, .int .i64 v913, .string ByteArray.empty, .slice none 0 0, .slice ao no co], .bool (decide ((chkI xx) = 0))] (by kernel_rfl) ⟨(show Ld Tryd.prog w963.drew 31 ⟨g900, 0, none⟩ (.agg #[.int .i64 16, .int .i64 0, .int .i64 v913, .string ByteArray.empty, .slice none 0 0, .slice ao no co]) from Ld.rowN (cs := [.int .i64 16, .int .i64 0, .int .i64 v913, .string ByteArray.empty, .slice none 0 0, .slice ao no co]) hp968.get3 (by kernel_rfl)), (show Ld Tryd.prog w963.drew 4 ⟨g15, 1, none⟩ (.bool bz) from (Ld.row1 (P := Tryd.prog) (t := 4) (o := 1) (v := .bool bz) hp968.get1 (by kernel_rfl))), trivial⟩ (fun _ _ => QB.mk .nil (by kernel_rfl)) (fun b988 => ?_)
            refine HOPS.re [.string line, .pointer (some ⟨g3, 0, none⟩), .string (lineV xx), .agg #[.int .i64 16, .int .i64 0, .int .i64 v913, .string ByteArray.empty, .slice none 0 0, .slice ao no co], .bool false] (by rw [show (decide ((chkI xx) = 0)) = false from Bp.dec.ff h978]) ?_
            refine HOPS.take 4 { wraps := [81] } [] [2, 67, 81] [.pointer (some ⟨g3, 0, none⟩), .agg #[.int .i64 16, .int .i64 0, .int .i64 v913, .string ByteArray.empty, .slice none 0 0, .slice ao no co], .bool false] (by kernel_rfl) ⟨(show Ld Tryd.prog w963.drew 31 ⟨g900, 0, none⟩ (.agg #[.int .i64 16, .int .i64 0, .int .i64 v913, .string ByteArray.empty, .slice none 0 0, .slice ao no co]) from Ld.rowN (cs := [.int .i64 16, .int .i64 0, .int .i64 v913, .string ByteArray.empty, .slice none 0 0, .slice ao no co]) hp968.get3 (by kernel_rfl)), (show Ld Tryd.prog w963.drew 4 ⟨g15, 1, none⟩ (.bool bz) from (Ld.row1 (P := Tryd.prog) (t := 4) (o := 1) (v := .bool bz) hp968.get1 (by kernel_rfl))), trivial⟩ (fun w989 hS990 => QB.mk .nil (by kernel_rfl)) (fun b991 => ?_)
            refine HOPS.eff _ rfl (opStep.store6 hp968 rfl [.int .i64 16, .int .i64 0, .int .i64 v913, .string ByteArray.empty, .slice none 0 0, .slice ao no co] [.int .i64 16, .int .i64 0, .int .i64 v913, .string ByteArray.empty, .slice none 0 0, .slice ao no co] (by kernel_rfl) (fun w992 hp993 => ?_))
            refine ⟨.inr ⟨(show Ld Tryd.prog w992 31 ⟨g900, 0, none⟩ (.agg #[.int .i64 16, .int .i64 0, .int .i64 v913, .string ByteArray.empty, .slice none 0 0, .slice ao no co]) from Ld.rowN (cs := [.int .i64 16, .int .i64 0, .int .i64 v913, .string ByteArray.empty, .slice none 0 0, .slice ao no co]) hp993.get3 (by kernel_rfl)), (show Ld Tryd.prog w992 4 ⟨g15, 1, none⟩ (.bool bz) from (Ld.row1 (P := Tryd.prog) (t := 4) (o := 1) (v := .bool bz) hp993.get1 (by kernel_rfl))), trivial⟩, ?_⟩
            refine HOPS.take 1 {} [] [2, 3] [.pointer (some ⟨g3, 0, none⟩), .bool false] (by kernel_rfl) ⟨(show Ld Tryd.prog w992 31 ⟨g900, 0, none⟩ (.agg #[.int .i64 16, .int .i64 0, .int .i64 v913, .string ByteArray.empty, .slice none 0 0, .slice ao no co]) from Ld.rowN (cs := [.int .i64 16, .int .i64 0, .int .i64 v913, .string ByteArray.empty, .slice none 0 0, .slice ao no co]) hp993.get3 (by kernel_rfl)), (show Ld Tryd.prog w992 4 ⟨g15, 1, none⟩ (.bool bz) from (Ld.row1 (P := Tryd.prog) (t := 4) (o := 1) (v := .bool bz) hp993.get1 (by kernel_rfl))), trivial⟩ (fun w994 hS995 => QB.mk .nil (by kernel_rfl)) (fun b996 => ?_)
            refine HOPS.nil ?_
            refine thn_n ?_
            exact ⟨false, trivial, Bp.of Bp.f (by first | (simp only [h973, h978, iff_false, false_iff, iff_true, true_iff, Classical.not_not, and_true, true_and, and_false, false_and, or_true, true_or, or_false, false_or, not_true_eq_false, not_false_eq_true, and_self, or_self, iff_self]; done) | (simp [h973, h978]; done) | grind | (simp_all; done)), by kernel_rfl, hp993⟩
      rintro e1008 w1009 ⟨x1006, hd1011, hb1007, hE1012, hp1010⟩
      obtain ⟨b1013, rfl⟩ := toMk hE1012
      clear hE1012
      clear hd1011
      refine WP.ret ?_
      refine bodyQ.of _ rfl [.agg #[.int .i64 16, .int .i64 0, .int .i64 v913, .string ByteArray.empty, .slice none 0 0, .slice ao no co], .bool x1006] ⟨⟨_, rfl, (show Ld Tryd.prog w1009 31 ⟨g3, 0, none⟩ (.agg #[.int .i64 16, .int .i64 0, .int .i64 v913, .string ByteArray.empty, .slice none 0 0, .slice ao no co]) from Ld.rowN (cs := [.int .i64 16, .int .i64 0, .int .i64 v913, .string ByteArray.empty, .slice none 0 0, .slice ao no co]) hp1010.get6 (by kernel_rfl))⟩, rfl, trivial⟩ ?_
      have hre := fun y (h1 : okS y) (h2 : inS y) (h3 : y.Kind = 16) (h4 : lineS y = line) => (show _ ∧ xx = y from hxx ▸ read_ok (k := 16) (line := line) rfl rfl (.f rfl ⟨rfl, rfl, rfl⟩) (.t rfl ⟨hn915, rfl⟩) (.f rfl ⟨rfl, rfl, rfl⟩) (.f rfl ⟨rfl, rfl, rfl⟩) (rn_end hrn pa (by omega)) h1 h2 h3 h4)
      have hfin := step_fin (P := (¬ (bz = true)) ∧ ((chkI xx) = 0) ∧ ((lineV xx) = line)) hk38 hsm.1 hre (by have q0_ := h929 ; first | grind | (simp_all; done))
      exact ⟨(⟨16, 0, v913, ByteArray.empty, ⟨none, 0, 0⟩, ⟨ao, no, co⟩⟩ : GStep), xx, _, _, rfl, ⟨fun h => hfin.1 (Bp.tr hb1007 h), fun h => hfin.2 (Bp.fa hb1007 h)⟩, (by rw [hxx]; exact Hp.svMake0 (E := 3) (⟨16, 0, v913, ByteArray.empty, ⟨none, 0, 0⟩, ⟨ao, no, co⟩⟩ : GStep) _ rfl rfl rfl rfl rfl rfl (hp1010.sub (.cons_cons _ (.cons _ (.cons _ (.cons _ (.cons _ (.cons _ (.cons _ (.slnil))))))))))⟩
  · rw [hk38]
    have hpr := hpa.rng
    refine OPS.batch 1 {} [] [0, 2, 4, 6] [.string line, .pointer (some ⟨g3, 0, none⟩), .pointer (some ⟨g15, 0, none⟩), .int .i64 k] .nil (by kernel_rfl) (fun b1014 => ?_)
    refine OPS.nil ?_
    refine thn_n ?_
    refine WP.seq ?_
    refine WP.seq ?_
    refine WP.pure {} [] [0, 2, 4, 6, 21] [.string line, .pointer (some ⟨g3, 0, none⟩), .pointer (some ⟨g15, 0, none⟩), .int .i64 k, .bool (decide (k < 1))] .nil (by kernel_rfl) (fun b1015 => ?_)
    refine thn_n ?_
    refine WP.test (p := k < 1) rfl Bp.dec (fun h1016 => ?_) (fun h1016 => ?_)
    · refine WP.seq ?_
      refine WP.region _ rfl (by kernel_rfl) ?_
      refine OPS.batch 1 {} [] [2, 22] [.pointer (some ⟨g3, 0, none⟩), .agg #[.int .i64 0, .int .i64 0, .int .i64 0, .string ByteArray.empty, .slice none 0 0, .slice none 0 0]] .nil (by kernel_rfl) (fun b1017 => ?_)
      refine OPS.cons (opStep.store3 hp37 rfl [.int .i64 0, .int .i64 0, .int .i64 0, .string ByteArray.empty, .slice none 0 0, .slice none 0 0] [.int .i64 0, .int .i64 0, .int .i64 0, .string ByteArray.empty, .slice none 0 0, .slice none 0 0] (by kernel_rfl) (fun w1018 hp1019 => ?_))
      refine OPS.batch 1 {} [] [2, 3] [.pointer (some ⟨g3, 0, none⟩), .bool false] .nil (by kernel_rfl) (fun b1020 => ?_)
      refine OPS.nil ?_
      refine thn_n ?_
      refine WP.ret ?_
      refine thn_r ?_
      refine bodyQ.of _ rfl [.agg #[.int .i64 0, .int .i64 0, .int .i64 0, .string ByteArray.empty, .slice none 0 0, .slice none 0 0], .bool false] ⟨⟨_, rfl, (show Ld Tryd.prog w1018 31 ⟨g3, 0, none⟩ (.agg #[.int .i64 0, .int .i64 0, .int .i64 0, .string ByteArray.empty, .slice none 0 0, .slice none 0 0]) from Ld.rowN (cs := [.int .i64 0, .int .i64 0, .int .i64 0, .string ByteArray.empty, .slice none 0 0, .slice none 0 0]) hp1019.get3 (by kernel_rfl))⟩, rfl, trivial⟩ ?_
      exfalso
      omega
    · refine WP.skip ?_
      refine thn_n ?_
      refine WP.seq ?_
      refine WP.region _ rfl (by kernel_rfl) ?_
      refine OPS.batch 3 {} [.agg #[.string (kWord k), .bool true, .bool false, .bool false, .bool false, .bool false, .bool false]] [0, 2, 4, 6, 25] [.string line, .pointer (some ⟨g3, 0, none⟩), .pointer (some ⟨g15, 0, none⟩), .int .i64 k, .agg #[.string (kWord k), .bool true, .bool false, .bool false, .bool false, .bool false, .bool false]] (.cons (show InB (k) (17) from ⟨by omega, by omega⟩) (.cons (fm_a hpa (hls.fram hp37.fr)) .nil)) (by kernel_rfl) (fun b1021 => ?_)
      refine OPS.cons (opStep.alloc hp37 [.string ByteArray.empty, .bool false, .bool false, .bool false, .bool false, .bool false, .bool false] (by kernel_rfl) (fun g1024 w1022 hp1023 => ?_))
      refine OPS.cons (opStep.store0 hp1023 rfl [.string (kWord k), .bool true, .bool false, .bool false, .bool false, .bool false, .bool false] [.string (kWord k), .bool true, .bool false, .bool false, .bool false, .bool false, .bool false] (by kernel_rfl) (fun w1025 hp1026 => ?_))
      refine OPS.nil ?_
      refine thn_n ?_
      refine WP.seq ?_
      refine WP.region _ rfl (by kernel_rfl) ?_
      refine OPS.batch 2 {} [] [0, 2, 4, 7, 27] [.string line, .pointer (some ⟨g3, 0, none⟩), .pointer (some ⟨g15, 0, none⟩), .pointer (some ⟨g1024, 0, none⟩), .agg #[.int .i64 k, .int .i64 0, .int .i64 0, .string ByteArray.empty, .slice none 0 0, .slice none 0 0]] .nil (by kernel_rfl) (fun b1027 => ?_)
      refine OPS.cons (opStep.alloc hp1026 [.int .i64 0, .int .i64 0, .int .i64 0, .string ByteArray.empty, .slice none 0 0, .slice none 0 0] (by kernel_rfl) (fun g1030 w1028 hp1029 => ?_))
      refine OPS.cons (opStep.store0 hp1029 rfl [.int .i64 k, .int .i64 0, .int .i64 0, .string ByteArray.empty, .slice none 0 0, .slice none 0 0] [.int .i64 k, .int .i64 0, .int .i64 0, .string ByteArray.empty, .slice none 0 0, .slice none 0 0] (by kernel_rfl) (fun w1031 hp1032 => ?_))
      refine OPS.nil ?_
      refine thn_n ?_
      refine WP.seq ?_
      refine WP.seq ?_
      refine WP.pure {} [.bool true] [0, 2, 4, 7, 8, 29] [.string line, .pointer (some ⟨g3, 0, none⟩), .pointer (some ⟨g15, 0, none⟩), .pointer (some ⟨g1024, 0, none⟩), .pointer (some ⟨g1030, 0, none⟩), .bool true] (.cons (Ld.row1 (P := Tryd.prog) (t := 4) (o := 1) (v := .bool true) hp1032.get1 (by kernel_rfl)) .nil) (by kernel_rfl) (fun b1033 => ?_)
      refine thn_n ?_
      refine WP.condT rfl ?_
      refine WP.region _ rfl (by kernel_rfl) ?_
      refine OPS.batch 1 {} [] [0, 2, 4, 7, 8, 30] [.string line, .pointer (some ⟨g3, 0, none⟩), .pointer (some ⟨g15, 0, none⟩), .pointer (some ⟨g1024, 0, none⟩), .pointer (some ⟨g1030, 0, none⟩), .pointer (some ⟨g15, 0, none⟩)] .nil (by kernel_rfl) (fun b1034 => ?_)
      have hp1037 := hp1032.pull4
      have hp1038 := hp1037.pull4
      refine OPS.cons (opStep.call (some 31) [.pointer (some ⟨g15, 0, none⟩)] (by kernel_rfl) (w_number _ _ g15 g10 h24 ((wordsB line).tail) (false || (wordsB line).isEmpty) _ hl (tail_size hsz) hp1038) ?_)
      rintro _ w1039 ⟨h1041, v1042, bd1043_, rfl, hn1044, hp1040⟩
      refine ⟨_, rfl, ?_⟩
      have hn1044a := hn1044.rng.1
      have hn1044b := hn1044.rng.2
      have hn1044z := itoaT_size hn1044a hn1044b
      refine OPS.batch 1 {} [] [0, 2, 4, 7, 8, 31, 32] [.string line, .pointer (some ⟨g3, 0, none⟩), .pointer (some ⟨g15, 0, none⟩), .pointer (some ⟨g1024, 0, none⟩), .pointer (some ⟨g1030, 0, none⟩), .int .i64 v1042, .pointer (some ⟨g1030, 1, none⟩)] .nil (by kernel_rfl) (fun b1045 => ?_)
      refine OPS.cons (opStep.store2 hp1040 rfl [.int .i64 v1042] [.int .i64 k, .int .i64 v1042, .int .i64 0, .string ByteArray.empty, .slice none 0 0, .slice none 0 0] (by kernel_rfl) (fun w1046 hp1047 => ?_))
      refine OPS.nil ?_
      refine thn_n ?_
      refine WP.seq ?_
      refine WP.seq ?_
      refine WP.pure {} [.bool false] [0, 2, 4, 7, 8, 34] [.string line, .pointer (some ⟨g3, 0, none⟩), .pointer (some ⟨g15, 0, none⟩), .pointer (some ⟨g1024, 0, none⟩), .pointer (some ⟨g1030, 0, none⟩), .bool false] (.cons (Ld.row1 (P := Tryd.prog) (t := 4) (o := 2) (v := .bool false) hp1047.get3 (by kernel_rfl)) .nil) (by kernel_rfl) (fun b1048 => ?_)
      refine thn_n ?_
      refine WP.condF rfl ?_
      refine WP.skip ?_
      refine thn_n ?_
      refine WP.seq ?_
      refine WP.seq ?_
      refine WP.pure {} [.bool false] [0, 2, 4, 7, 8, 39] [.string line, .pointer (some ⟨g3, 0, none⟩), .pointer (some ⟨g15, 0, none⟩), .pointer (some ⟨g1024, 0, none⟩), .pointer (some ⟨g1030, 0, none⟩), .bool false] (.cons (Ld.row1 (P := Tryd.prog) (t := 4) (o := 3) (v := .bool false) hp1047.get3 (by kernel_rfl)) .nil) (by kernel_rfl) (fun b1049 => ?_)
      refine thn_n ?_
      refine WP.condF rfl ?_
      refine WP.skip ?_
      refine thn_n ?_
      refine WP.seq ?_
      refine WP.seq ?_
      refine WP.pure {} [.bool false] [0, 2, 4, 8, 44] [.string line, .pointer (some ⟨g3, 0, none⟩), .pointer (some ⟨g15, 0, none⟩), .pointer (some ⟨g1030, 0, none⟩), .bool false] (.cons (Ld.row1 (P := Tryd.prog) (t := 4) (o := 4) (v := .bool false) hp1047.get3 (by kernel_rfl)) .nil) (by kernel_rfl) (fun b1050 => ?_)
      refine thn_n ?_
      refine WP.condF rfl ?_
      refine WP.skip ?_
      refine thn_n ?_
      refine WP.seq ?_
      refine WP.block ?_
      have hp1051 := (show Hp w Non [Res.own 3 1 (.slice none 0 0) 0 (List.flatMap i64c ([] : List Int)), Res.row g15 [.slice h1041.a h1041.n h1041.c, .bool bd1043_] 75, Res.lst g10 h1041 (((wordsB line).tail).tail), Res.row g1030 [.int .i64 k, .int .i64 v1042, .int .i64 0, .string ByteArray.empty, .slice none 0 0, .slice none 0 0] 31, Res.row g1024 [.string (kWord k), .bool true, .bool false, .bool false, .bool false, .bool false, .bool false] 56, Res.row g27 [.string ((wordsB line).headD ByteArray.empty)] 9, Res.row g3 [.int .i64 0, .int .i64 0, .int .i64 0, .string ByteArray.empty, .slice none 0 0, .slice none 0 0] 31] w1046 from hp1047.nilOwn 3 1)
      refine WP.loop (fun mz_ e1052 w1053 => ∃ (wz : List ByteArray) (hz : SlH) (bz : Bool) (ls : List Int) (ao : Option Addr) (no : Nat) (co : Nat), mz_ = wz.length ∧ (wz = List.drop ls.length (((wordsB line).tail).tail) ∧ ls.length ≤ (wordsB line).length ∧ RnI bd1043_ (((wordsB line).tail).tail) ls bz ∧ (∀ x ∈ wz, x.size ≤ 281474976710656)) ∧ List.map e1052 [0, 2, 4, 8] = [.string line, .pointer (some ⟨g3, 0, none⟩), .pointer (some ⟨g15, 0, none⟩), .pointer (some ⟨g1030, 0, none⟩)] ∧ Hp w Non [Res.own 3 1 (.slice ao no co) no (List.flatMap i64c ls), Res.row g15 [.slice hz.a hz.n hz.c, .bool bz] 75, Res.lst g10 hz wz, Res.row g1030 [.int .i64 k, .int .i64 v1042, .int .i64 0, .string ByteArray.empty, .slice none 0 0, .slice ao no co] 31, Res.row g1024 [.string (kWord k), .bool true, .bool false, .bool false, .bool false, .bool false, .bool false] 56, Res.row g27 [.string ((wordsB line).headD ByteArray.empty)] 9, Res.row g3 [.int .i64 0, .int .i64 0, .int .i64 0, .string ByteArray.empty, .slice none 0 0, .slice none 0 0] 31] w1053) ((((wordsB line).tail).tail).length) ⟨((wordsB line).tail).tail, h1041, bd1043_, [], none, 0, 0, rfl, ⟨rfl, Nat.zero_le _, rn_start _ _, (tail_size (tail_size hsz))⟩, by kernel_rfl, hp1051⟩ ?_
      rintro _ e1052 w1053 ⟨wz, hz, bz, ls, ao, no, co, rfl, hI1055, hE1056, hp1054⟩
      obtain ⟨b1057, rfl⟩ := toMk hE1056
      clear hE1056
      obtain ⟨pa, pb, hrn, hsw⟩ := hI1055
      have hlz := lst_len hp1054.get2
      have hsz := hsw
      have pe := own_flat (f := i64c) (sz := 1) (fun _ => rfl) (by decide) hp1054.get0
      have hdl := congrArg List.length pa
      rw [List.length_drop] at hdl
      have hw4 : (((wordsB line).tail).tail).length ≤ (wordsB line).length := by simp only [List.length_tail]; omega
      refine WP.seq ?_
      refine WP.seq ?_
      refine WP.pure {} [.slice hz.a hz.n hz.c] [0, 2, 4, 8, 54] [.string line, .pointer (some ⟨g3, 0, none⟩), .pointer (some ⟨g15, 0, none⟩), .pointer (some ⟨g1030, 0, none⟩), .bool (decide (0 < ((hz.n : Nat) : Int)))] (.cons (Ld.row1 (P := Tryd.prog) (t := 36) (o := 0) (v := .slice hz.a hz.n hz.c) hp1054.get1 (by kernel_rfl)) .nil) (by kernel_rfl) (fun b1058 => ?_)
      refine thn_n ?_
      refine WP.test (p := 0 < ((hz.n : Nat) : Int)) rfl Bp.dec (fun h1059 => ?_) (fun h1059 => ?_)
      · refine WP.skip ?_
        refine thn_n ?_
        refine WP.block ?_
        have hp1060 := hp1054.drew
        refine WP.held (fun w1061 => Ld Tryd.prog w1061 29 ⟨g1030, 5, none⟩ (.slice ao no co) ∧ True) [7] [(0, true), (1, true), (2, true), (3, false), (4, false), (5, false), (6, true), (7, false)] (np_blk (np_thn (np_blk (np_thn np_body)))) (by kernel_rfl) ?_
        refine HOPS.take 3 {} [.slice ao no co] [0, 2, 4, 8, 56, 57] [.string line, .pointer (some ⟨g3, 0, none⟩), .pointer (some ⟨g15, 0, none⟩), .pointer (some ⟨g1030, 0, none⟩), .slice ao no co, .pointer (some ⟨g15, 0, none⟩)] (by kernel_rfl) ⟨(show Ld Tryd.prog w1053.drew 29 ⟨g1030, 5, none⟩ (.slice ao no co) from (Ld.row1 (P := Tryd.prog) (t := 29) (o := 5) (v := .slice ao no co) hp1060.get3 (by kernel_rfl))), trivial⟩ (fun w1062 hS1063 => QB.mk (.cons (hS1063.1) .nil) (by kernel_rfl)) (fun b1064 => ?_)
        have hp1067 := hp1060.pull2
        have hp1068 := hp1067.pull2
        refine HOPS.eff _ rfl (opStep.call (some 58) [.pointer (some ⟨g15, 0, none⟩)] (by kernel_rfl) (w_number _ _ g15 g10 hz wz bz _ hl hsz hp1068) ?_)
        rintro _ w1069 ⟨h1071, v1072, bd1073_, rfl, hn1074, hp1070⟩
        refine ⟨_, rfl, ?_⟩
        have hn1074a := hn1074.rng.1
        have hn1074b := hn1074.rng.2
        have hn1074z := itoaT_size hn1074a hn1074b
        refine ⟨.inr ⟨(show Ld Tryd.prog w1069 29 ⟨g1030, 5, none⟩ (.slice ao no co) from (Ld.row1 (P := Tryd.prog) (t := 29) (o := 5) (v := .slice ao no co) hp1070.get3 (by kernel_rfl))), trivial⟩, ?_⟩
        refine HOPS.eff _ rfl (opStep.buildSlice (E := 3) hp1070 [.int .i64 v1072] (by kernel_rfl) (fun g1077 w1075 hp1076 => ?_))
        refine ⟨.inr ⟨(show Ld Tryd.prog w1075 29 ⟨g1030, 5, none⟩ (.slice ao no co) from (Ld.row1 (P := Tryd.prog) (t := 29) (o := 5) (v := .slice ao no co) hp1076.get4 (by kernel_rfl))), trivial⟩, ?_⟩
        refine HOPS.eff _ rfl (opStep.append3 [.int .i64 v1072] hp1076 8 (by kernel_rfl) rfl rfl rfl (SlR.row (n := 1) hp1076.get0 rfl).rd (List.all_eq_true.1 (by kernel_rfl)) (by decide) (by omega) (by omega) (fun a1080 c1081 w1082 hp1083 hn1084 => ?_))
        rw [(show List.flatMap i64c ls ++ [.int .i64 v1072] = List.flatMap i64c (ls ++ [v1072]) from (List.flatMap_append (xs := ls) (ys := [v1072])).symm)] at hp1083
        refine ⟨.inr ⟨(show Ld Tryd.prog w1082 29 ⟨g1030, 5, none⟩ (.slice ao no co) from (Ld.row1 (P := Tryd.prog) (t := 29) (o := 5) (v := .slice ao no co) hp1083.get4 (by kernel_rfl))), trivial⟩, ?_⟩
        refine HOPS.take 1 {} [] [0, 2, 4, 8, 60, 61] [.string line, .pointer (some ⟨g3, 0, none⟩), .pointer (some ⟨g15, 0, none⟩), .pointer (some ⟨g1030, 0, none⟩), .slice a1080 (no + 1) c1081, .pointer (some ⟨g1030, 5, none⟩)] (by kernel_rfl) ⟨(show Ld Tryd.prog w1082 29 ⟨g1030, 5, none⟩ (.slice ao no co) from (Ld.row1 (P := Tryd.prog) (t := 29) (o := 5) (v := .slice ao no co) hp1083.get4 (by kernel_rfl))), trivial⟩ (fun w1085 hS1086 => QB.mk .nil (by kernel_rfl)) (fun b1087 => ?_)
        refine HOPS.eff _ rfl (opStep.store4 hp1083 rfl [.slice a1080 (no + 1) c1081] [.int .i64 k, .int .i64 v1042, .int .i64 0, .string ByteArray.empty, .slice none 0 0, .slice a1080 (no + 1) c1081] (by kernel_rfl) (fun w1088 hp1089 => ?_))
        refine ⟨.inl rfl, ?_⟩
        refine HOPS.nil ?_
        refine blk_n ?_
        refine thn_n ?_
        exact ⟨(wz.tail).length, (by rw [List.length_tail]; omega), wz.tail, h1071, bd1073_, ls ++ [v1072], a1080, no + 1, c1081, rfl, ⟨by rw [List.length_append, List.length_singleton, ← List.drop_drop, ← pa, List.drop_one], by rw [List.length_append, List.length_singleton]; omega, rn_step hrn pa hn1074 (by omega), tail_size hsw⟩, by kernel_rfl, ((((((((hp1089.pull7).pull7).pull7).pull7).pull6).pull6).pull7).sub (.cons_cons _ (.cons_cons _ (.cons_cons _ (.cons_cons _ (.cons_cons _ (.cons_cons _ (.cons_cons _ (.cons _ (.slnil))))))))))⟩
      · refine WP.exit ?_
        refine thn_x ?_
        refine thn_x ?_
        refine blk_hit ?_
        refine thn_n ?_
        refine WP.seq ?_
        refine WP.region _ rfl (by kernel_rfl) ?_
        refine OPS.batch 1 {} [.agg #[.int .i64 k, .int .i64 v1042, .int .i64 0, .string ByteArray.empty, .slice none 0 0, .slice ao no co]] [0, 2, 4, 8, 63] [.string line, .pointer (some ⟨g3, 0, none⟩), .pointer (some ⟨g15, 0, none⟩), .pointer (some ⟨g1030, 0, none⟩), .agg #[.int .i64 k, .int .i64 v1042, .int .i64 0, .string ByteArray.empty, .slice none 0 0, .slice ao no co]] (.cons (show Ld Tryd.prog w1053 31 ⟨g1030, 0, none⟩ (.agg #[.int .i64 k, .int .i64 v1042, .int .i64 0, .string ByteArray.empty, .slice none 0 0, .slice ao no co]) from Ld.rowN (cs := [.int .i64 k, .int .i64 v1042, .int .i64 0, .string ByteArray.empty, .slice none 0 0, .slice ao no co]) hp1054.get3 (by kernel_rfl)) .nil) (by kernel_rfl) (fun b1090 => ?_)
        obtain ⟨xx, hxx⟩ : ∃ z : StepP, z = ⟨k, v1042, 0, ByteArray.empty, (⟨#[]⟩ : ByteArray), ls⟩ := ⟨_, rfl⟩
        have hsm : smS xx := by rw [hxx]; exact ⟨⟨hn1044.rng, in0, hrn.1⟩, (by simp only; decide), (by simp only; decide), by simp only; omega⟩
        refine OPS.cons (opStep.call (some 64) [.agg #[.int .i64 k, .int .i64 v1042, .int .i64 0, .string ByteArray.empty, .slice none 0 0, .slice ao no co]] (by kernel_rfl) (sc_Line (⟨k, v1042, 0, ByteArray.empty, ⟨none, 0, 0⟩, ⟨ao, no, co⟩⟩ : GStep) xx _ (hls.fram hp1054.fr) (by rw [hxx]; exact (StR.of rfl rfl rfl rfl (⟨rfl, slr_nil0 _⟩) (own_flat (f := i64c) (sz := 1) (fun _ => rfl) (by decide) hp1054.get0).symm (SlR.own hp1054.get0))) hsm) ?_)
        rintro _ w1093 ⟨rfl, hf1094⟩
        refine ⟨_, rfl, ?_⟩
        have hp1095 := hp1054.step hf1094
        refine OPS.batch 5 {} [] [0, 2, 4, 8, 9, 10] [.string line, .pointer (some ⟨g3, 0, none⟩), .pointer (some ⟨g15, 0, none⟩), .pointer (some ⟨g1030, 0, none⟩), .string (lineV xx), .int .i64 (chkI xx)] .nil (by kernel_rfl) (fun b1096 => ?_)
        refine OPS.nil ?_
        refine thn_n ?_
        refine WP.cut (fun e1138 w1139 => ∃ (x1136 : Bool), (True) ∧ Bp x1136 ((¬ (bz = true)) ∧ ((chkI xx) = 0) ∧ ((lineV xx) = line)) ∧ List.map e1138 [2, 3] = [.pointer (some ⟨g3, 0, none⟩), .bool x1136] ∧ Hp w Non [Res.own 3 1 (.slice ao no co) no (List.flatMap i64c ls), Res.row g15 [.slice hz.a hz.n hz.c, .bool bz] 75, Res.lst g10 hz wz, Res.row g1030 [.int .i64 k, .int .i64 v1042, .int .i64 0, .string ByteArray.empty, .slice none 0 0, .slice ao no co] 31, Res.row g1024 [.string (kWord k), .bool true, .bool false, .bool false, .bool false, .bool false, .bool false] 56, Res.row g27 [.string ((wordsB line).headD ByteArray.empty)] 9, Res.row g3 [.int .i64 k, .int .i64 v1042, .int .i64 0, .string ByteArray.empty, .slice none 0 0, .slice ao no co] 31] w1139) ?_ ?_
        · have hp1098 := hp1095.drew
          refine WP.held (fun w1099 => Ld Tryd.prog w1099 31 ⟨g1030, 0, none⟩ (.agg #[.int .i64 k, .int .i64 v1042, .int .i64 0, .string ByteArray.empty, .slice none 0 0, .slice ao no co]) ∧ Ld Tryd.prog w1099 4 ⟨g15, 1, none⟩ (.bool bz) ∧ True) [] [(0, true), (1, true), (2, true), (3, true), (4, true), (5, true), (6, true), (7, true), (8, true), (9, true), (10, true), (11, true), (12, true), (13, true), (14, true), (15, false), (16, true)] (np_thn np_body) (by kernel_rfl) ?_
          refine HOPS.take 7 {} [.agg #[.int .i64 k, .int .i64 v1042, .int .i64 0, .string ByteArray.empty, .slice none 0 0, .slice ao no co], .bool bz] [0, 2, 9, 10, 67, 73] [.string line, .pointer (some ⟨g3, 0, none⟩), .string (lineV xx), .int .i64 (chkI xx), .agg #[.int .i64 k, .int .i64 v1042, .int .i64 0, .string ByteArray.empty, .slice none 0 0, .slice ao no co], .bool (!bz)] (by kernel_rfl) ⟨(show Ld Tryd.prog w1093.drew 31 ⟨g1030, 0, none⟩ (.agg #[.int .i64 k, .int .i64 v1042, .int .i64 0, .string ByteArray.empty, .slice none 0 0, .slice ao no co]) from Ld.rowN (cs := [.int .i64 k, .int .i64 v1042, .int .i64 0, .string ByteArray.empty, .slice none 0 0, .slice ao no co]) hp1098.get3 (by kernel_rfl)), (show Ld Tryd.prog w1093.drew 4 ⟨g15, 1, none⟩ (.bool bz) from (Ld.row1 (P := Tryd.prog) (t := 4) (o := 1) (v := .bool bz) hp1098.get1 (by kernel_rfl))), trivial⟩ (fun w1100 hS1101 => QB.mk (.cons (hS1101.1) (.cons (hS1101.2.1) .nil)) (by kernel_rfl)) (fun b1102 => ?_)
          by_cases h1103 : bz = true
          · refine HOPS.take 0 {} [] [0, 2, 9, 10, 67, 73] [.string line, .pointer (some ⟨g3, 0, none⟩), .string (lineV xx), .int .i64 (chkI xx), .agg #[.int .i64 k, .int .i64 v1042, .int .i64 0, .string ByteArray.empty, .slice none 0 0, .slice ao no co], .bool (!bz)] (by kernel_rfl) ⟨(show Ld Tryd.prog w1093.drew 31 ⟨g1030, 0, none⟩ (.agg #[.int .i64 k, .int .i64 v1042, .int .i64 0, .string ByteArray.empty, .slice none 0 0, .slice ao no co]) from Ld.rowN (cs := [.int .i64 k, .int .i64 v1042, .int .i64 0, .string ByteArray.empty, .slice none 0 0, .slice ao no co]) hp1098.get3 (by kernel_rfl)), (show Ld Tryd.prog w1093.drew 4 ⟨g15, 1, none⟩ (.bool bz) from (Ld.row1 (P := Tryd.prog) (t := 4) (o := 1) (v := .bool bz) hp1098.get1 (by kernel_rfl))), trivial⟩ (fun _ _ => QB.mk .nil (by kernel_rfl)) (fun b1127 => ?_)
            refine HOPS.re [.string line, .pointer (some ⟨g3, 0, none⟩), .string (lineV xx), .int .i64 (chkI xx), .agg #[.int .i64 k, .int .i64 v1042, .int .i64 0, .string ByteArray.empty, .slice none 0 0, .slice ao no co], .bool false] (by rw [show (!bz) = false from (Bp.not Bp.var).ff (fun k => k h1103)]) ?_
            refine HOPS.take 8 { wraps := [76, 81] } [] [2, 67, 81] [.pointer (some ⟨g3, 0, none⟩), .agg #[.int .i64 k, .int .i64 v1042, .int .i64 0, .string ByteArray.empty, .slice none 0 0, .slice ao no co], .bool false] (by kernel_rfl) ⟨(show Ld Tryd.prog w1093.drew 31 ⟨g1030, 0, none⟩ (.agg #[.int .i64 k, .int .i64 v1042, .int .i64 0, .string ByteArray.empty, .slice none 0 0, .slice ao no co]) from Ld.rowN (cs := [.int .i64 k, .int .i64 v1042, .int .i64 0, .string ByteArray.empty, .slice none 0 0, .slice ao no co]) hp1098.get3 (by kernel_rfl)), (show Ld Tryd.prog w1093.drew 4 ⟨g15, 1, none⟩ (.bool bz) from (Ld.row1 (P := Tryd.prog) (t := 4) (o := 1) (v := .bool bz) hp1098.get1 (by kernel_rfl))), trivial⟩ (fun w1128 hS1129 => QB.mk .nil (by kernel_rfl)) (fun b1130 => ?_)
            refine HOPS.eff _ rfl (opStep.store6 hp1098 rfl [.int .i64 k, .int .i64 v1042, .int .i64 0, .string ByteArray.empty, .slice none 0 0, .slice ao no co] [.int .i64 k, .int .i64 v1042, .int .i64 0, .string ByteArray.empty, .slice none 0 0, .slice ao no co] (by kernel_rfl) (fun w1131 hp1132 => ?_))
            refine ⟨.inr ⟨(show Ld Tryd.prog w1131 31 ⟨g1030, 0, none⟩ (.agg #[.int .i64 k, .int .i64 v1042, .int .i64 0, .string ByteArray.empty, .slice none 0 0, .slice ao no co]) from Ld.rowN (cs := [.int .i64 k, .int .i64 v1042, .int .i64 0, .string ByteArray.empty, .slice none 0 0, .slice ao no co]) hp1132.get3 (by kernel_rfl)), (show Ld Tryd.prog w1131 4 ⟨g15, 1, none⟩ (.bool bz) from (Ld.row1 (P := Tryd.prog) (t := 4) (o := 1) (v := .bool bz) hp1132.get1 (by kernel_rfl))), trivial⟩, ?_⟩
            refine HOPS.take 1 {} [] [2, 3] [.pointer (some ⟨g3, 0, none⟩), .bool false] (by kernel_rfl) ⟨(show Ld Tryd.prog w1131 31 ⟨g1030, 0, none⟩ (.agg #[.int .i64 k, .int .i64 v1042, .int .i64 0, .string ByteArray.empty, .slice none 0 0, .slice ao no co]) from Ld.rowN (cs := [.int .i64 k, .int .i64 v1042, .int .i64 0, .string ByteArray.empty, .slice none 0 0, .slice ao no co]) hp1132.get3 (by kernel_rfl)), (show Ld Tryd.prog w1131 4 ⟨g15, 1, none⟩ (.bool bz) from (Ld.row1 (P := Tryd.prog) (t := 4) (o := 1) (v := .bool bz) hp1132.get1 (by kernel_rfl))), trivial⟩ (fun w1133 hS1134 => QB.mk .nil (by kernel_rfl)) (fun b1135 => ?_)
            refine HOPS.nil ?_
            refine thn_n ?_
            exact ⟨false, trivial, Bp.of Bp.f (by first | (simp only [h1103, iff_false, false_iff, iff_true, true_iff, Classical.not_not, and_true, true_and, and_false, false_and, or_true, true_or, or_false, false_or, not_true_eq_false, not_false_eq_true, and_self, or_self, iff_self]; done) | (simp [h1103]; done) | grind | (simp_all; done)), by kernel_rfl, hp1132⟩
          · refine HOPS.take 0 {} [] [0, 2, 9, 10, 67, 73] [.string line, .pointer (some ⟨g3, 0, none⟩), .string (lineV xx), .int .i64 (chkI xx), .agg #[.int .i64 k, .int .i64 v1042, .int .i64 0, .string ByteArray.empty, .slice none 0 0, .slice ao no co], .bool (!bz)] (by kernel_rfl) ⟨(show Ld Tryd.prog w1093.drew 31 ⟨g1030, 0, none⟩ (.agg #[.int .i64 k, .int .i64 v1042, .int .i64 0, .string ByteArray.empty, .slice none 0 0, .slice ao no co]) from Ld.rowN (cs := [.int .i64 k, .int .i64 v1042, .int .i64 0, .string ByteArray.empty, .slice none 0 0, .slice ao no co]) hp1098.get3 (by kernel_rfl)), (show Ld Tryd.prog w1093.drew 4 ⟨g15, 1, none⟩ (.bool bz) from (Ld.row1 (P := Tryd.prog) (t := 4) (o := 1) (v := .bool bz) hp1098.get1 (by kernel_rfl))), trivial⟩ (fun _ _ => QB.mk .nil (by kernel_rfl)) (fun b1104 => ?_)
            refine HOPS.re [.string line, .pointer (some ⟨g3, 0, none⟩), .string (lineV xx), .int .i64 (chkI xx), .agg #[.int .i64 k, .int .i64 v1042, .int .i64 0, .string ByteArray.empty, .slice none 0 0, .slice ao no co], .bool true] (by rw [show (!bz) = true from (Bp.not Bp.var).tt h1103]) ?_
            refine HOPS.take 4 { wraps := [76] } [] [0, 2, 9, 67, 77] [.string line, .pointer (some ⟨g3, 0, none⟩), .string (lineV xx), .agg #[.int .i64 k, .int .i64 v1042, .int .i64 0, .string ByteArray.empty, .slice none 0 0, .slice ao no co], .bool (decide ((chkI xx) = 0))] (by kernel_rfl) ⟨(show Ld Tryd.prog w1093.drew 31 ⟨g1030, 0, none⟩ (.agg #[.int .i64 k, .int .i64 v1042, .int .i64 0, .string ByteArray.empty, .slice none 0 0, .slice ao no co]) from Ld.rowN (cs := [.int .i64 k, .int .i64 v1042, .int .i64 0, .string ByteArray.empty, .slice none 0 0, .slice ao no co]) hp1098.get3 (by kernel_rfl)), (show Ld Tryd.prog w1093.drew 4 ⟨g15, 1, none⟩ (.bool bz) from (Ld.row1 (P := Tryd.prog) (t := 4) (o := 1) (v := .bool bz) hp1098.get1 (by kernel_rfl))), trivial⟩ (fun w1105 hS1106 => QB.mk .nil (by kernel_rfl)) (fun b1107 => ?_)
            by_cases h1108 : (chkI xx) = 0
            · refine HOPS.take 0 {} [] [0, 2, 9, 67, 77] [.string line, .pointer (some ⟨g3, 0, none⟩), .string (lineV xx), .agg #[.int .i64 k, .int .i64 v1042, .int .i64 0, .string ByteArray.empty, .slice none 0 0, .slice ao no co], .bool (decide ((chkI xx) = 0))] (by kernel_rfl) ⟨(show Ld Tryd.prog w1093.drew 31 ⟨g1030, 0, none⟩ (.agg #[.int .i64 k, .int .i64 v1042, .int .i64 0, .string ByteArray.empty, .slice none 0 0, .slice ao no co]) from Ld.rowN (cs := [.int .i64 k, .int .i64 v1042, .int .i64 0, .string ByteArray.empty, .slice none 0 0, .slice ao no co]) hp1098.get3 (by kernel_rfl)), (show Ld Tryd.prog w1093.drew 4 ⟨g15, 1, none⟩ (.bool bz) from (Ld.row1 (P := Tryd.prog) (t := 4) (o := 1) (v := .bool bz) hp1098.get1 (by kernel_rfl))), trivial⟩ (fun _ _ => QB.mk .nil (by kernel_rfl)) (fun b1109 => ?_)
              refine HOPS.re [.string line, .pointer (some ⟨g3, 0, none⟩), .string (lineV xx), .agg #[.int .i64 k, .int .i64 v1042, .int .i64 0, .string ByteArray.empty, .slice none 0 0, .slice ao no co], .bool true] (by rw [show (decide ((chkI xx) = 0)) = true from Bp.dec.tt h1108]) ?_
              refine HOPS.take 4 { wraps := [81] } [] [2, 67, 81] [.pointer (some ⟨g3, 0, none⟩), .agg #[.int .i64 k, .int .i64 v1042, .int .i64 0, .string ByteArray.empty, .slice none 0 0, .slice ao no co], .bool (decide ((lineV xx) = line))] (by kernel_rfl) ⟨(show Ld Tryd.prog w1093.drew 31 ⟨g1030, 0, none⟩ (.agg #[.int .i64 k, .int .i64 v1042, .int .i64 0, .string ByteArray.empty, .slice none 0 0, .slice ao no co]) from Ld.rowN (cs := [.int .i64 k, .int .i64 v1042, .int .i64 0, .string ByteArray.empty, .slice none 0 0, .slice ao no co]) hp1098.get3 (by kernel_rfl)), (show Ld Tryd.prog w1093.drew 4 ⟨g15, 1, none⟩ (.bool bz) from (Ld.row1 (P := Tryd.prog) (t := 4) (o := 1) (v := .bool bz) hp1098.get1 (by kernel_rfl))), trivial⟩ (fun w1110 hS1111 => QB.mk .nil (by kernel_rfl)) (fun b1112 => ?_)
              refine HOPS.eff _ rfl (opStep.store6 hp1098 rfl [.int .i64 k, .int .i64 v1042, .int .i64 0, .string ByteArray.empty, .slice none 0 0, .slice ao no co] [.int .i64 k, .int .i64 v1042, .int .i64 0, .string ByteArray.empty, .slice none 0 0, .slice ao no co] (by kernel_rfl) (fun w1113 hp1114 => ?_))
              refine ⟨.inr ⟨(show Ld Tryd.prog w1113 31 ⟨g1030, 0, none⟩ (.agg #[.int .i64 k, .int .i64 v1042, .int .i64 0, .string ByteArray.empty, .slice none 0 0, .slice ao no co]) from Ld.rowN (cs := [.int .i64 k, .int .i64 v1042, .int .i64 0, .string ByteArray.empty, .slice none 0 0, .slice ao no co]) hp1114.get3 (by kernel_rfl)), (show Ld Tryd.prog w1113 4 ⟨g15, 1, none⟩ (.bool bz) from (Ld.row1 (P := Tryd.prog) (t := 4) (o := 1) (v := .bool bz) hp1114.get1 (by kernel_rfl))), trivial⟩, ?_⟩
              refine HOPS.take 1 {} [] [2, 3] [.pointer (some ⟨g3, 0, none⟩), .bool (decide ((lineV xx) = line))] (by kernel_rfl) ⟨(show Ld Tryd.prog w1113 31 ⟨g1030, 0, none⟩ (.agg #[.int .i64 k, .int .i64 v1042, .int .i64 0, .string ByteArray.empty, .slice none 0 0, .slice ao no co]) from Ld.rowN (cs := [.int .i64 k, .int .i64 v1042, .int .i64 0, .string ByteArray.empty, .slice none 0 0, .slice ao no co]) hp1114.get3 (by kernel_rfl)), (show Ld Tryd.prog w1113 4 ⟨g15, 1, none⟩ (.bool bz) from (Ld.row1 (P := Tryd.prog) (t := 4) (o := 1) (v := .bool bz) hp1114.get1 (by kernel_rfl))), trivial⟩ (fun w1115 hS1116 => QB.mk .nil (by kernel_rfl)) (fun b1117 => ?_)
              refine HOPS.nil ?_
              refine thn_n ?_
              exact ⟨decide ((lineV xx) = line), trivial, Bp.of Bp.dec (by first | (simp only [h1103, h1108, iff_false, false_iff, iff_true, true_iff, Classical.not_not, and_true, true_and, and_false, false_and, or_true, true_or, or_false, false_or, not_true_eq_false, not_false_eq_true, and_self, or_self, iff_self]; done) | (simp [h1103, h1108]; done) | grind | (simp_all; done)), by kernel_rfl, hp1114⟩
            · refine HOPS.take 0 {} [] [0, 2, 9, 67, 77] [.string line, .pointer (some ⟨g3, 0, none⟩), .string (lineV xx), .agg #[.int .i64 k, .int .i64 v1042, .int .i64 0, .string ByteArray.empty, .slice none 0 0, .slice ao no co], .bool (decide ((chkI xx) = 0))] (by kernel_rfl) ⟨(show Ld Tryd.prog w1093.drew 31 ⟨g1030, 0, none⟩ (.agg #[.int .i64 k, .int .i64 v1042, .int .i64 0, .string ByteArray.empty, .slice none 0 0, .slice ao no co]) from Ld.rowN (cs := [.int .i64 k, .int .i64 v1042, .int .i64 0, .string ByteArray.empty, .slice none 0 0, .slice ao no co]) hp1098.get3 (by kernel_rfl)), (show Ld Tryd.prog w1093.drew 4 ⟨g15, 1, none⟩ (.bool bz) from (Ld.row1 (P := Tryd.prog) (t := 4) (o := 1) (v := .bool bz) hp1098.get1 (by kernel_rfl))), trivial⟩ (fun _ _ => QB.mk .nil (by kernel_rfl)) (fun b1118 => ?_)
              refine HOPS.re [.string line, .pointer (some ⟨g3, 0, none⟩), .string (lineV xx), .agg #[.int .i64 k, .int .i64 v1042, .int .i64 0, .string ByteArray.empty, .slice none 0 0, .slice ao no co], .bool false] (by rw [show (decide ((chkI xx) = 0)) = false from Bp.dec.ff h1108]) ?_
              refine HOPS.take 4 { wraps := [81] } [] [2, 67, 81] [.pointer (some ⟨g3, 0, none⟩), .agg #[.int .i64 k, .int .i64 v1042, .int .i64 0, .string ByteArray.empty, .slice none 0 0, .slice ao no co], .bool false] (by kernel_rfl) ⟨(show Ld Tryd.prog w1093.drew 31 ⟨g1030, 0, none⟩ (.agg #[.int .i64 k, .int .i64 v1042, .int .i64 0, .string ByteArray.empty, .slice none 0 0, .slice ao no co]) from Ld.rowN (cs := [.int .i64 k, .int .i64 v1042, .int .i64 0, .string ByteArray.empty, .slice none 0 0, .slice ao no co]) hp1098.get3 (by kernel_rfl)), (show Ld Tryd.prog w1093.drew 4 ⟨g15, 1, none⟩ (.bool bz) from (Ld.row1 (P := Tryd.prog) (t := 4) (o := 1) (v := .bool bz) hp1098.get1 (by kernel_rfl))), trivial⟩ (fun w1119 hS1120 => QB.mk .nil (by kernel_rfl)) (fun b1121 => ?_)
              refine HOPS.eff _ rfl (opStep.store6 hp1098 rfl [.int .i64 k, .int .i64 v1042, .int .i64 0, .string ByteArray.empty, .slice none 0 0, .slice ao no co] [.int .i64 k, .int .i64 v1042, .int .i64 0, .string ByteArray.empty, .slice none 0 0, .slice ao no co] (by kernel_rfl) (fun w1122 hp1123 => ?_))
              refine ⟨.inr ⟨(show Ld Tryd.prog w1122 31 ⟨g1030, 0, none⟩ (.agg #[.int .i64 k, .int .i64 v1042, .int .i64 0, .string ByteArray.empty, .slice none 0 0, .slice ao no co]) from Ld.rowN (cs := [.int .i64 k, .int .i64 v1042, .int .i64 0, .string ByteArray.empty, .slice none 0 0, .slice ao no co]) hp1123.get3 (by kernel_rfl)), (show Ld Tryd.prog w1122 4 ⟨g15, 1, none⟩ (.bool bz) from (Ld.row1 (P := Tryd.prog) (t := 4) (o := 1) (v := .bool bz) hp1123.get1 (by kernel_rfl))), trivial⟩, ?_⟩
              refine HOPS.take 1 {} [] [2, 3] [.pointer (some ⟨g3, 0, none⟩), .bool false] (by kernel_rfl) ⟨(show Ld Tryd.prog w1122 31 ⟨g1030, 0, none⟩ (.agg #[.int .i64 k, .int .i64 v1042, .int .i64 0, .string ByteArray.empty, .slice none 0 0, .slice ao no co]) from Ld.rowN (cs := [.int .i64 k, .int .i64 v1042, .int .i64 0, .string ByteArray.empty, .slice none 0 0, .slice ao no co]) hp1123.get3 (by kernel_rfl)), (show Ld Tryd.prog w1122 4 ⟨g15, 1, none⟩ (.bool bz) from (Ld.row1 (P := Tryd.prog) (t := 4) (o := 1) (v := .bool bz) hp1123.get1 (by kernel_rfl))), trivial⟩ (fun w1124 hS1125 => QB.mk .nil (by kernel_rfl)) (fun b1126 => ?_)
              refine HOPS.nil ?_
              refine thn_n ?_
              exact ⟨false, trivial, Bp.of Bp.f (by first | (simp only [h1103, h1108, iff_false, false_iff, iff_true, true_iff, Classical.not_not, and_true, true_and, and_false, false_and, or_true, true_or, or_false, false_or, not_true_eq_false, not_false_eq_true, and_self, or_self, iff_self]; done) | (simp [h1103, h1108]; done) | grind | (simp_all; done)), by kernel_rfl, hp1123⟩
        rintro e1138 w1139 ⟨x1136, hd1141, hb1137, hE1142, hp1140⟩
        obtain ⟨b1143, rfl⟩ := toMk hE1142
        clear hE1142
        clear hd1141
        refine WP.ret ?_
        refine bodyQ.of _ rfl [.agg #[.int .i64 k, .int .i64 v1042, .int .i64 0, .string ByteArray.empty, .slice none 0 0, .slice ao no co], .bool x1136] ⟨⟨_, rfl, (show Ld Tryd.prog w1139 31 ⟨g3, 0, none⟩ (.agg #[.int .i64 k, .int .i64 v1042, .int .i64 0, .string ByteArray.empty, .slice none 0 0, .slice ao no co]) from Ld.rowN (cs := [.int .i64 k, .int .i64 v1042, .int .i64 0, .string ByteArray.empty, .slice none 0 0, .slice ao no co]) hp1140.get6 (by kernel_rfl))⟩, rfl, trivial⟩ ?_
        have hre := fun y (h1 : okS y) (h2 : inS y) (h3 : y.Kind = k) (h4 : lineS y = line) => (show _ ∧ xx = y from hxx ▸ read_ok (k := k) (line := line) rfl rfl (.t hpa.fl.1 ⟨hn1044, rfl⟩) (.f hpa.fl.2.1 ⟨rfl, rfl, rfl⟩) (.f hpa.fl.2.2.1 ⟨rfl, rfl, rfl⟩) (.f hpa.fl.2.2.2.1 ⟨rfl, rfl, rfl⟩) (rn_end hrn pa (by omega)) h1 h2 h3 h4)
        have hfin := step_fin (P := (¬ (bz = true)) ∧ ((chkI xx) = 0) ∧ ((lineV xx) = line)) hk38 hsm.1 hre (by have q0_ := h1016 ; have q1_ := h1059 ; first | grind | (simp_all; done))
        exact ⟨(⟨k, v1042, 0, ByteArray.empty, ⟨none, 0, 0⟩, ⟨ao, no, co⟩⟩ : GStep), xx, _, _, rfl, ⟨fun h => hfin.1 (Bp.tr hb1137 h), fun h => hfin.2 (Bp.fa hb1137 h)⟩, (by rw [hxx]; exact Hp.svMake0 (E := 3) (⟨k, v1042, 0, ByteArray.empty, ⟨none, 0, 0⟩, ⟨ao, no, co⟩⟩ : GStep) _ rfl rfl rfl rfl rfl rfl (hp1140.sub (.cons_cons _ (.cons _ (.cons _ (.cons _ (.cons _ (.cons _ (.cons _ (.slnil))))))))))⟩

end Go.Proofs.YtbpedjefoajegaaDoor.K
