/- The walks of WTopScripts: what each function computes. -/
import Derived.Test.YthplgcnoaholaajDoorProg
import Derived.Test.YthplgcnoaholaajDoorCoreO
import Derived.Test.YthplgcnoaholaajDoorTpsC
import Derived.Test.YthplgcnoaholaajDoorOpen
import Derived.Test.YthplgcnoaholaajDoorCoreF
namespace Go.Proofs.YthplgcnoaholaajDoor.K
open Go Go.Proofs Go.RowKit
set_option linter.unusedVariables false
set_option linter.unusedSimpArgs false
set_option maxRecDepth 20000
set_option maxHeartbeats 4000000

theorem x0_ok : okS (⟨1, 1, 0, ⟨#[107]⟩, ⟨#[120]⟩, []⟩ : StepP) := by rw [show (⟨1, 1, 0, ⟨#[107]⟩, ⟨#[120]⟩, []⟩ : StepP) = ⟨1, 1, 0, ⟨#[107]⟩, ⟨#[120]⟩, []⟩ from rfl, okS_1]; exact ⟨rfl, rfl⟩
theorem x0_sm : smS (⟨1, 1, 0, ⟨#[107]⟩, ⟨#[120]⟩, []⟩ : StepP) := ⟨⟨show inI 1 from ⟨by decide, by decide⟩, in0, fun n hn => by cases hn⟩, (show (1 : Nat) ≤ 1099511627776 by decide), (show (1 : Nat) ≤ 1099511627776 by decide), (show (0 : Nat) ≤ 1099511627776 by decide)⟩
theorem x0_line : lineV (⟨1, 1, 0, ⟨#[107]⟩, ⟨#[120]⟩, []⟩ : StepP) = (⟨#[112, 117, 116, 32, 49, 32, 54, 98, 32, 55, 56]⟩ : ByteArray) := by
  rw [lineV_ok x0_ok]
  have h1 := dig_txt (n := 1) (by decide)
  show joinB [kWord 1, itoaT 1, hexT ⟨#[107]⟩, hexT ⟨#[120]⟩] = _
  rw [show itoaT 1 = _ from h1]
  rfl
theorem got_sm {s : ByteArray} {xs : List StepP} {n : Int} (h : n = 0 ∧ xs.length ≤ 4096 ∧ linesB s = xs.map lineS ∧ ∀ x ∈ xs, okS x ∧ inS x) (hs : s.size ≤ 1048576) : ∀ x ∈ xs, smS x := fun x hx => sm_line (h.2.2.2 x hx).1 (h.2.2.2 x hx).2 (linesB_size (s := s) (by rw [h.2.2.1]; exact List.mem_map_of_mem hx)) (Nat.le_trans hs (by decide))
theorem got_T {s : ByteArray} {xs : List StepP} {n : Int} (h : n = 0 ∧ xs.length ≤ 4096 ∧ linesB s = xs.map lineS ∧ ∀ x ∈ xs, okS x ∧ inS x) (hs : s.size ≤ 1048576) : ∀ x ∈ xs, (lineS x).size ≤ 34359738 := fun x hx => Nat.le_trans (linesB_size (s := s) (by rw [h.2.2.1]; exact List.mem_map_of_mem hx)) (Nat.le_trans hs (by decide))
theorem TopScripts (cl : List GStep) (xs : List StepP) (a : Option Addr) (n c : Nat) (text : ByteArray) (hts : text.size ≤ 1048576) (w : World) (hls : LibS w) (hn : n = cl.length) (hb : cl.length ≤ 1048576) (hsl : SlR w a n (cl.flatMap GStep.cells)) (hst : StL w Tr cl xs) (hsm : ∀ x ∈ xs, smS x) (hT : ∀ x ∈ xs, (lineS x).size ≤ 34359738) (hvs : ∀ i, i < xs.length → xs[i]!.Value.size ≤ 1099511627776 ∧ xs[i]!.L.length ≤ 1099511627776) :
    Calls Tryd.prog 3 #[.slice a n c, .string text] w (fun x w' => x = .returned (.bool true) ∧ Fram Non w w') := by
  have hxl := hst.1
  have h10 : (⟨#[10]⟩ : ByteArray).size = 1 := rfl
  refine calls_of Tryd.func3 rfl 189 rfl (by simp) ?_
  have hp0 := Hp.init w
  have he0 : List.map (env0 [.slice a n c, .string text]) [0, 1] = [.slice a n c, .string text] := by kernel_rfl
  obtain ⟨b0, he0⟩ := toMk he0
  rw [he0]
  clear he0
  refine WP.seq ?_
  refine WP.pure {} [] [0, 1] [.slice a n c, .string text] .nil (by kernel_rfl) (fun b1 => ?_)
  refine thn_n ?_
  refine WP.seq ?_
  refine WP.seq ?_
  refine WP.region _ rfl (by kernel_rfl) ?_
  refine OPS.cons (opStep.buildSlice (E := 5) hp0 [.int .u8 120] (by kernel_rfl) (fun g4 w2 hp3 => ?_))
  have hp7 := hp3.pull0
  refine OPS.cons (opStep.markBytes hp7 (by kernel_rfl) rfl (⟨#[120]⟩ : ByteArray) (by kernel_rfl) (fun w5 hp6 => ?_))
  refine OPS.batch 1 {} [] [0, 1, 33] [.slice a n c, .string text, .agg #[.int .i64 1, .int .i64 1, .int .i64 0, .string ⟨#[107]⟩, .slice (some ⟨g4, 0, none⟩) 1 1, .slice none 0 0]] .nil (by kernel_rfl) (fun b8 => ?_)
  refine OPS.cons (opStep.call (some 34) [.agg #[.int .i64 1, .int .i64 1, .int .i64 0, .string ⟨#[107]⟩, .slice (some ⟨g4, 0, none⟩) 1 1, .slice none 0 0]] (by kernel_rfl) (sc_Line (⟨1, 1, 0, ⟨#[107]⟩, ⟨some ⟨g4, 0, none⟩, 1, 1⟩, ⟨none, 0, 0⟩⟩ : GStep) (⟨1, 1, 0, ⟨#[107]⟩, ⟨#[120]⟩, []⟩ : StepP) _ (hls.fram hp6.fr) (StR.of rfl rfl rfl rfl ⟨rfl, SlR.bs hp6.get0⟩ rfl (SlR.nil _ 0 rfl)) x0_sm) ?_)
  rintro _ w11 ⟨rfl, hf12⟩
  refine ⟨_, rfl, ?_⟩
  have hp13 := hp6.step hf12
  rw [show lineV (⟨1, 1, 0, ⟨#[107]⟩, ⟨#[120]⟩, []⟩ : StepP) = _ from x0_line, show chkI (⟨1, 1, 0, ⟨#[107]⟩, ⟨#[120]⟩, []⟩ : StepP) = 0 from chk_0 x0_ok]
  refine OPS.batch 5 {} [] [0, 1, 5, 6] [.slice a n c, .string text, .string ⟨#[112, 117, 116, 32, 49, 32, 54, 98, 32, 55, 56]⟩, .int .i64 0] .nil (by kernel_rfl) (fun b14 => ?_)
  refine OPS.nil ?_
  refine thn_n ?_
  refine WP.seq ?_
  refine WP.pure { wraps := [42] } [] [0, 1, 42] [.slice a n c, .string text, .bool (decide (¬ ((⟨#[112, 117, 116, 32, 49, 32, 54, 98, 32, 55, 56]⟩ : ByteArray) = ⟨#[112, 117, 116, 32, 49, 32, 54, 98, 32, 55, 56]⟩)))] .nil (by kernel_rfl) (fun b15 => ?_)
  refine thn_n ?_
  refine WP.test (p := ¬ ((⟨#[112, 117, 116, 32, 49, 32, 54, 98, 32, 55, 56]⟩ : ByteArray) = ⟨#[112, 117, 116, 32, 49, 32, 54, 98, 32, 55, 56]⟩)) rfl Bp.dec (fun h16 => ?_) (fun h16 => ?_)
  · refine WP.seq ?_
    refine WP.pure {} [] [4] [.bool false] .nil (by kernel_rfl) (fun b17 => ?_)
    refine thn_n ?_
    refine WP.ret ?_
    refine thn_r ?_
    refine bodyQ.of _ rfl [.bool false] ⟨rfl, trivial⟩ ?_
    exfalso
    have h_ := h16
    first | exact h_ hge9 | omega | (simp at h_; done) | (simp_all; done) | grind
  · replace h16 := Classical.not_not.1 h16
    refine WP.skip ?_
    refine thn_n ?_
    refine WP.seq ?_
    refine WP.pure {} [] [0, 1, 7] [.slice a n c, .string text, .slice none 0 0] .nil (by kernel_rfl) (fun b18 => ?_)
    refine thn_n ?_
    refine WP.seq ?_
    refine WP.pure {} [] [0, 1, 7, 8] [.slice a n c, .string text, .slice none 0 0, .bool (decide (((n : Nat) : Int) ≤ 4096))] .nil (by kernel_rfl) (fun b19 => ?_)
    refine thn_n ?_
    refine WP.seq ?_
    refine WP.seq ?_
    refine WP.pure {} [] [0, 1, 7, 8, 46, 47, 48] [.slice a n c, .string text, .slice none 0 0, .bool (decide (((n : Nat) : Int) ≤ 4096)), .slice a n c, .int .i64 ((n : Nat) : Int), .int .i64 0] .nil (by kernel_rfl) (fun b20 => ?_)
    refine thn_n ?_
    refine WP.block ?_
    have hp22 := hp13.nil.svNil
    have hp21 := (show Hp w Non [Res.own 29 6 (.slice none 0 0) 0 (List.flatMap GStep.cells ([] : List GStep)), Res.sv (fun _ => False) [] []] w11 from hp22.nilOwn 29 6)
    refine WP.loop (fun mz_ e23 w24 => ∃ (k : Nat) (F : Nat → Prop) (c2 : List GStep) (x2 : List StepP) (ao : Option Addr) (no : Nat) (co : Nat) (gd : Bool), mz_ = n - k ∧ (k ≤ n ∧ c2.length = k ∧ x2 = xs.take k ∧ (gd = true ↔ xs.length ≤ 4096 ∧ ∀ i, i < k → okS xs[i]!)) ∧ List.map e23 [0, 1, 7, 8, 46, 47, 48] = [.slice a n c, .string text, .slice ao no co, .bool gd, .slice a n c, .int .i64 ((n : Nat) : Int), .int .i64 (k : Int)] ∧ Hp w Non [Res.own 29 6 (.slice ao no co) no (List.flatMap GStep.cells c2), Res.sv F c2 x2] w24) (n - (0)) ⟨0, (fun _ => False), [], [], none, 0, 0, decide (((n : Nat) : Int) ≤ 4096), rfl, ⟨Nat.zero_le _, rfl, rfl, by rw [decide_eq_true_iff]; exact ⟨fun h => ⟨by omega, fun i hi => by omega⟩, fun h => by omega⟩⟩, by kernel_rfl, hp21⟩ ?_
    rintro _ e23 w24 ⟨k, F, c2, x2, ao, no, co, gd, rfl, hI26, hE27, hp25⟩
    obtain ⟨b28, rfl⟩ := toMk hE27
    clear hE27
    obtain ⟨pa, pb, pxs, pgd⟩ := hI26
    have pe := own_flat (f := GStep.cells) (sz := 6) (fun _ => rfl) (by decide) hp25.get0
    refine WP.seq ?_
    refine WP.pure {} [] [0, 1, 7, 8, 46, 47, 48, 49] [.slice a n c, .string text, .slice ao no co, .bool gd, .slice a n c, .int .i64 ((n : Nat) : Int), .int .i64 (k : Int), .bool (decide ((k : Int) < ((n : Nat) : Int)))] .nil (by kernel_rfl) (fun b29 => ?_)
    refine thn_n ?_
    refine WP.seq ?_
    refine WP.test (p := (k : Int) < ((n : Nat) : Int)) rfl Bp.dec (fun h30 => ?_) (fun h30 => ?_)
    · refine WP.skip ?_
      refine thn_n ?_
      refine WP.seq ?_
      refine WP.block ?_
      refine WP.seq ?_
      refine WP.region _ rfl (by kernel_rfl) ?_
      have hy34 : (cl)[k]? = some cl[k]! := get_bang (by first | (first | omega | (simp only [ByteArray.size_append]; omega)) | (simp only [List.length_append, List.length_cons, List.length_nil]; omega) | (simp only [List.length_take, List.length_append, List.length_cons, List.length_nil]; omega))
      refine OPS.batch 2 {} [GStep.val (cl[k]!)] [0, 1, 7, 8, 46, 47, 48, 51] [.slice a n c, .string text, .slice ao no co, .bool gd, .slice a n c, .int .i64 ((n : Nat) : Int), .int .i64 (k : Int), GStep.val (cl[k]!)] (.cons (show InB ((k : Int)) (n) from ⟨by first | omega | (simp only [ByteArray.size_append]; omega), by first | omega | (simp only [ByteArray.size_append]; omega)⟩) (.cons ((hsl.at hp25).some (by first | omega | (simp only [ByteArray.size_append]; omega))) (.cons (Ld.add0 (Ld.elN (P := Tryd.prog) (t := 29) (hsl.at hp25).rd 6 (fun _ => rfl) hy34 (o := 0) (cs := [.int .i64 (cl[k]!.Kind), .int .i64 (cl[k]!.A), .int .i64 (cl[k]!.B), .string (cl[k]!.Key), .slice (cl[k]!.Value.a) (cl[k]!.Value.n) (cl[k]!.Value.c), .slice (cl[k]!.L.a) (cl[k]!.L.n) (cl[k]!.L.c)]) (by kernel_rfl))) .nil))) (by kernel_rfl) (fun b35 => ?_)
      refine OPS.cons (opStep.alloc hp25 [.int .i64 0, .int .i64 0, .int .i64 0, .string ByteArray.empty, .slice none 0 0, .slice none 0 0] (by kernel_rfl) (fun g38 w36 hp37 => ?_))
      refine OPS.cons (opStep.store0 hp37 rfl [.int .i64 (cl[k]!.Kind), .int .i64 (cl[k]!.A), .int .i64 (cl[k]!.B), .string (cl[k]!.Key), .slice (cl[k]!.Value.a) (cl[k]!.Value.n) (cl[k]!.Value.c), .slice (cl[k]!.L.a) (cl[k]!.L.n) (cl[k]!.L.c)] [.int .i64 (cl[k]!.Kind), .int .i64 (cl[k]!.A), .int .i64 (cl[k]!.B), .string (cl[k]!.Key), .slice (cl[k]!.Value.a) (cl[k]!.Value.n) (cl[k]!.Value.c), .slice (cl[k]!.L.a) (cl[k]!.L.n) (cl[k]!.L.c)] (by kernel_rfl) (fun w39 hp40 => ?_))
      refine OPS.nil ?_
      refine thn_n ?_
      refine WP.seq ?_
      refine WP.region _ rfl (by kernel_rfl) ?_
      refine OPS.batch 2 {} [GStep.val (cl[k]!)] [0, 1, 8, 10, 46, 47, 48, 52, 53] [.slice a n c, .string text, .bool gd, .pointer (some ⟨g38, 0, none⟩), .slice a n c, .int .i64 ((n : Nat) : Int), .int .i64 (k : Int), .slice ao no co, GStep.val (cl[k]!)] (.cons (show Ld Tryd.prog w39 29 ⟨g38, 0, none⟩ (GStep.val (cl[k]!)) from Ld.rowN (cs := [.int .i64 (cl[k]!.Kind), .int .i64 (cl[k]!.A), .int .i64 (cl[k]!.B), .string (cl[k]!.Key), .slice (cl[k]!.Value.a) (cl[k]!.Value.n) (cl[k]!.Value.c), .slice (cl[k]!.L.a) (cl[k]!.L.n) (cl[k]!.L.c)]) hp40.get0 (by kernel_rfl)) .nil) (by kernel_rfl) (fun b41 => ?_)
      refine OPS.cons (opStep.call (some 54) [GStep.val (cl[k]!)] (by kernel_rfl) (tp_ownStep (cl[k]!) xs[k]! _ ((hst.2 k (by omega)).fram hp40.fr) (hvs k (by omega))) ?_)
      rintro _ w44 ⟨s46, F47, rfl, hp45⟩
      refine ⟨_, rfl, ?_⟩
      have hp48 := hp40.madeQ hp45
      simp only [List.cons_append, List.nil_append] at hp48
      refine OPS.cons (opStep.buildSlice (E := 29) hp48 [.int .i64 s46.Kind, .int .i64 s46.A, .int .i64 s46.B, .string s46.Key, .slice s46.Value.a s46.Value.n s46.Value.c, .slice s46.L.a s46.L.n s46.L.c] (by kernel_rfl) (fun g52 w50 hp51 => ?_))
      refine OPS.cons (opStep.append3 [.int .i64 s46.Kind, .int .i64 s46.A, .int .i64 s46.B, .string s46.Key, .slice s46.Value.a s46.Value.n s46.Value.c, .slice s46.L.a s46.L.n s46.L.c] hp51 88 (by kernel_rfl) rfl rfl rfl (SlR.row (n := 1) hp51.get0 rfl).rd (List.all_eq_true.1 (by kernel_rfl)) (by decide) (by first | omega | (simp only [ByteArray.size_append]; omega)) (by first | omega | (simp only [ByteArray.size_append]; omega)) (fun a55 c56 w57 hp58 hn59 => ?_))
      rw [(show List.flatMap GStep.cells c2 ++ [.int .i64 s46.Kind, .int .i64 s46.A, .int .i64 s46.B, .string s46.Key, .slice s46.Value.a s46.Value.n s46.Value.c, .slice s46.L.a s46.L.n s46.L.c] = List.flatMap GStep.cells (c2 ++ [s46]) from (List.flatMap_append (xs := c2) (ys := [s46])).symm)] at hp58
      refine OPS.batch 1 {} [] [0, 1, 7, 8, 10, 46, 47, 48] [.slice a n c, .string text, .slice a55 (no + 1) c56, .bool gd, .pointer (some ⟨g38, 0, none⟩), .slice a n c, .int .i64 ((n : Nat) : Int), .int .i64 (k : Int)] .nil (by kernel_rfl) (fun b60 => ?_)
      refine OPS.nil ?_
      refine thn_n ?_
      refine WP.seq ?_
      refine WP.region _ rfl (by kernel_rfl) ?_
      refine OPS.batch 2 {} [] [0, 1, 7, 10, 46, 47, 48, 58] [.slice a n c, .string text, .slice a55 (no + 1) c56, .pointer (some ⟨g38, 0, none⟩), .slice a n c, .int .i64 ((n : Nat) : Int), .int .i64 (k : Int), .bool gd] .nil (by kernel_rfl) (fun b61 => ?_)
      by_cases h62 : gd = true
      · refine OPS.batch 0 {} [] [0, 1, 7, 10, 46, 47, 48, 58] [.slice a n c, .string text, .slice a55 (no + 1) c56, .pointer (some ⟨g38, 0, none⟩), .slice a n c, .int .i64 ((n : Nat) : Int), .int .i64 (k : Int), .bool gd] .nil (by kernel_rfl) (fun b63 => ?_)
        refine OPS.re [.slice a n c, .string text, .slice a55 (no + 1) c56, .pointer (some ⟨g38, 0, none⟩), .slice a n c, .int .i64 ((n : Nat) : Int), .int .i64 (k : Int), .bool true] (by rw [show gd = true from Bp.var.tt h62]) ?_
        refine OPS.batch 1 {} [GStep.val (cl[k]!)] [0, 1, 7, 10, 46, 47, 48, 58, 59] [.slice a n c, .string text, .slice a55 (no + 1) c56, .pointer (some ⟨g38, 0, none⟩), .slice a n c, .int .i64 ((n : Nat) : Int), .int .i64 (k : Int), .bool true, GStep.val (cl[k]!)] (.cons (show Ld Tryd.prog w57 29 ⟨g38, 0, none⟩ (GStep.val (cl[k]!)) from Ld.rowN (cs := [.int .i64 (cl[k]!.Kind), .int .i64 (cl[k]!.A), .int .i64 (cl[k]!.B), .string (cl[k]!.Key), .slice (cl[k]!.Value.a) (cl[k]!.Value.n) (cl[k]!.Value.c), .slice (cl[k]!.L.a) (cl[k]!.L.n) (cl[k]!.L.c)]) hp58.get2 (by kernel_rfl)) .nil) (by kernel_rfl) (fun b64 => ?_)
        refine OPS.want (by kernel_rfl) ?_
        refine OPS.cons (opStep.call (some 60) [GStep.val (cl[k]!)] (by kernel_rfl) (tp_fits cl[k]! xs[k]! _ ((hst.2 k (by omega)).fram hp58.fr)) ?_)
        rintro _ w67 ⟨b70, rfl, hb71, hf68⟩
        refine ⟨_, rfl, ?_⟩
        have hp69 := hp58.step hf68
        refine OPS.batch 2 { wraps := [61] } [] [0, 1, 7, 8, 10, 46, 47, 48] [.slice a n c, .string text, .slice a55 (no + 1) c56, .bool b70, .pointer (some ⟨g38, 0, none⟩), .slice a n c, .int .i64 ((n : Nat) : Int), .int .i64 (k : Int)] .nil (by kernel_rfl) (fun b72 => ?_)
        refine OPS.nil ?_
        refine thn_n ?_
        refine WP.seq ?_
        have hco : chkI xs[k]! = 0 ↔ okS xs[k]! := ⟨chk_ok, chk_0⟩
        have hp73 := hp69.drew
        refine WP.held (fun w74 => Ld Tryd.prog w74 29 ⟨g38, 0, none⟩ (GStep.val (cl[k]!)) ∧ True) [] [(0, true), (2, true), (1, false), (3, false), (4, false), (5, true), (6, true)] (np_thn (np_blk (np_thn (np_thn (np_blk (np_thn np_body)))))) (by kernel_rfl) ?_
        refine HOPS.take 2 {} [GStep.val (cl[k]!), GStep.val (cl[k]!)] [0, 1, 7, 8, 46, 47, 48, 62, 64] [.slice a n c, .string text, .slice a55 (no + 1) c56, .bool b70, .slice a n c, .int .i64 ((n : Nat) : Int), .int .i64 (k : Int), GStep.val (cl[k]!), GStep.val (cl[k]!)] (by kernel_rfl) ⟨(show Ld Tryd.prog w67.drew 29 ⟨g38, 0, none⟩ (GStep.val (cl[k]!)) from Ld.rowN (cs := [.int .i64 (cl[k]!.Kind), .int .i64 (cl[k]!.A), .int .i64 (cl[k]!.B), .string (cl[k]!.Key), .slice (cl[k]!.Value.a) (cl[k]!.Value.n) (cl[k]!.Value.c), .slice (cl[k]!.L.a) (cl[k]!.L.n) (cl[k]!.L.c)]) hp73.get2 (by kernel_rfl)), trivial⟩ (fun w75 hS76 => QB.mk (.cons (hS76.1) (.cons (hS76.1) .nil)) (by kernel_rfl)) (fun b77 => ?_)
        refine HOPS.eff _ rfl (opStep.call (some 63) [GStep.val (cl[k]!)] (by kernel_rfl) (tp_fits cl[k]! xs[k]! _ ((hst.2 k (by omega)).fram hp73.fr)) ?_)
        rintro _ w80 ⟨b83, rfl, hb84, hf81⟩
        refine ⟨_, rfl, ?_⟩
        have hp82 := hp73.step hf81
        refine ⟨.inr ⟨(show Ld Tryd.prog w80 29 ⟨g38, 0, none⟩ (GStep.val (cl[k]!)) from Ld.rowN (cs := [.int .i64 (cl[k]!.Kind), .int .i64 (cl[k]!.A), .int .i64 (cl[k]!.B), .string (cl[k]!.Key), .slice (cl[k]!.Value.a) (cl[k]!.Value.n) (cl[k]!.Value.c), .slice (cl[k]!.L.a) (cl[k]!.L.n) (cl[k]!.L.c)]) hp82.get2 (by kernel_rfl)), trivial⟩, ?_⟩
        refine HOPS.eff _ rfl (opStep.call (some 65) [GStep.val (cl[k]!)] (by kernel_rfl) (tp_ownStep (cl[k]!) xs[k]! _ ((hst.2 k (by omega)).fram hp82.fr) (hvs k (by omega))) ?_)
        rintro _ w87 ⟨s89, F90, rfl, hp88⟩
        refine ⟨_, rfl, ?_⟩
        have hp91 := hp82.madeQ hp88
        simp only [List.cons_append, List.nil_append] at hp91
        refine ⟨.inr ⟨(show Ld Tryd.prog w87 29 ⟨g38, 0, none⟩ (GStep.val (cl[k]!)) from Ld.rowN (cs := [.int .i64 (cl[k]!.Kind), .int .i64 (cl[k]!.A), .int .i64 (cl[k]!.B), .string (cl[k]!.Key), .slice (cl[k]!.Value.a) (cl[k]!.Value.n) (cl[k]!.Value.c), .slice (cl[k]!.L.a) (cl[k]!.L.n) (cl[k]!.L.c)]) hp91.get3 (by kernel_rfl)), trivial⟩, ?_⟩
        refine HOPS.eff _ rfl (opStep.call (some 66) [GStep.val s89] (by kernel_rfl) (sc_Check _ xs[k]! _ (hls.fram hp91.fr) ((hp91.get0.2 0 (by simp)).wide fun _ _ => trivial)) ?_)
        rintro _ w95 ⟨rfl, hf96⟩
        refine ⟨_, rfl, ?_⟩
        have hp97 := hp91.step hf96
        refine ⟨.inr ⟨(show Ld Tryd.prog w95 29 ⟨g38, 0, none⟩ (GStep.val (cl[k]!)) from Ld.rowN (cs := [.int .i64 (cl[k]!.Kind), .int .i64 (cl[k]!.A), .int .i64 (cl[k]!.B), .string (cl[k]!.Key), .slice (cl[k]!.Value.a) (cl[k]!.Value.n) (cl[k]!.Value.c), .slice (cl[k]!.L.a) (cl[k]!.L.n) (cl[k]!.L.c)]) hp97.get3 (by kernel_rfl)), trivial⟩, ?_⟩
        refine HOPS.take 2 {} [] [0, 1, 7, 8, 46, 47, 48, 68] [.slice a n c, .string text, .slice a55 (no + 1) c56, .bool b70, .slice a n c, .int .i64 ((n : Nat) : Int), .int .i64 (k : Int), .bool (!(b83 == (decide ((chkI xs[k]!) = 0))))] (by kernel_rfl) ⟨(show Ld Tryd.prog w95 29 ⟨g38, 0, none⟩ (GStep.val (cl[k]!)) from Ld.rowN (cs := [.int .i64 (cl[k]!.Kind), .int .i64 (cl[k]!.A), .int .i64 (cl[k]!.B), .string (cl[k]!.Key), .slice (cl[k]!.Value.a) (cl[k]!.Value.n) (cl[k]!.Value.c), .slice (cl[k]!.L.a) (cl[k]!.L.n) (cl[k]!.L.c)]) hp97.get3 (by kernel_rfl)), trivial⟩ (fun w98 hS99 => QB.mk .nil (by kernel_rfl)) (fun b100 => ?_)
        refine HOPS.nil ?_
        refine thn_n ?_
        refine WP.test (p := ¬ (((okS xs[k]!) ↔ ((chkI xs[k]!) = 0)))) rfl (Bp.not (Bp.beq hb84 Bp.dec)) (fun h101 => ?_) (fun h101 => ?_)
        · refine WP.seq ?_
          refine WP.pure {} [] [4] [.bool false] .nil (by kernel_rfl) (fun b102 => ?_)
          refine thn_n ?_
          refine WP.ret ?_
          refine blk_r ?_
          refine thn_r ?_
          refine thn_r ?_
          refine blk_r ?_
          refine thn_r ?_
          refine bodyQ.of _ rfl [.bool false] ⟨rfl, trivial⟩ ?_
          exfalso
          have h_ := h101
          first | exact h_ hge9 | omega | (simp at h_; done) | (simp_all; done) | grind
        · replace h101 := Classical.not_not.1 h101
          refine WP.skip ?_
          refine blk_n ?_
          refine thn_n ?_
          refine WP.pure {} [] [0, 1, 7, 8, 46, 47, 48] [.slice a n c, .string text, .slice a55 (no + 1) c56, .bool b70, .slice a n c, .int .i64 ((n : Nat) : Int), .int .i64 ((k : Int) + 1)] (.cons (show Rng .i64 ((k : Int) + 1) from Rng.i64 (by first | omega | (simp only [ByteArray.size_append]; omega))) .nil) (by kernel_rfl) (fun b103 => ?_)
          refine thn_n ?_
          have hp104 := hp97.pull2
          have hp105 := hp104.pull5
          have hp106 := hp105.pull1
          have hp107 := hp106.svPush
          exact ⟨n - (k + 1), (by omega), k + 1, fun k => F k ∨ F47 k, c2 ++ [s46], x2 ++ [xs[k]!], a55, no + 1, c56, b70, rfl, ⟨by omega, by rw [List.length_append, List.length_singleton]; omega, by rw [pxs, List.take_succ_eq_append_getElem (by omega), getElem!_pos xs k (by omega)], (show _ ↔ _ from hb71).trans ⟨fun q => ⟨(pgd.1 h62).1, fun i hi => by by_cases e : i = k; subst e; exact (by first | exact q | exact q.2 | (simp at q; exact q)); exact (pgd.1 h62).2 i (by omega)⟩, fun q => by have h_ := q.2 k (by omega); first | exact h_ | exact ⟨h62, h_⟩ | (simp [h_]; done)⟩⟩, by kernel_rfl, (((hp107.pull0).pull4).sub (.cons_cons _ (.cons_cons _ (.cons _ (.cons _ (.cons _ (.slnil)))))))⟩
      · refine OPS.batch 0 {} [] [0, 1, 7, 10, 46, 47, 48, 58] [.slice a n c, .string text, .slice a55 (no + 1) c56, .pointer (some ⟨g38, 0, none⟩), .slice a n c, .int .i64 ((n : Nat) : Int), .int .i64 (k : Int), .bool gd] .nil (by kernel_rfl) (fun b108 => ?_)
        refine OPS.re [.slice a n c, .string text, .slice a55 (no + 1) c56, .pointer (some ⟨g38, 0, none⟩), .slice a n c, .int .i64 ((n : Nat) : Int), .int .i64 (k : Int), .bool false] (by rw [show gd = false from Bp.var.ff h62]) ?_
        refine OPS.batch 4 { wraps := [61] } [] [0, 1, 7, 8, 10, 46, 47, 48] [.slice a n c, .string text, .slice a55 (no + 1) c56, .bool false, .pointer (some ⟨g38, 0, none⟩), .slice a n c, .int .i64 ((n : Nat) : Int), .int .i64 (k : Int)] .nil (by kernel_rfl) (fun b109 => ?_)
        refine OPS.nil ?_
        refine thn_n ?_
        refine WP.seq ?_
        have hco : chkI xs[k]! = 0 ↔ okS xs[k]! := ⟨chk_ok, chk_0⟩
        have hp110 := hp58.drew
        refine WP.held (fun w111 => Ld Tryd.prog w111 29 ⟨g38, 0, none⟩ (GStep.val (cl[k]!)) ∧ True) [] [(0, true), (2, true), (1, false), (3, false), (4, false), (5, true), (6, true)] (np_thn (np_blk (np_thn (np_thn (np_blk (np_thn np_body)))))) (by kernel_rfl) ?_
        refine HOPS.take 2 {} [GStep.val (cl[k]!), GStep.val (cl[k]!)] [0, 1, 7, 8, 46, 47, 48, 62, 64] [.slice a n c, .string text, .slice a55 (no + 1) c56, .bool false, .slice a n c, .int .i64 ((n : Nat) : Int), .int .i64 (k : Int), GStep.val (cl[k]!), GStep.val (cl[k]!)] (by kernel_rfl) ⟨(show Ld Tryd.prog w57.drew 29 ⟨g38, 0, none⟩ (GStep.val (cl[k]!)) from Ld.rowN (cs := [.int .i64 (cl[k]!.Kind), .int .i64 (cl[k]!.A), .int .i64 (cl[k]!.B), .string (cl[k]!.Key), .slice (cl[k]!.Value.a) (cl[k]!.Value.n) (cl[k]!.Value.c), .slice (cl[k]!.L.a) (cl[k]!.L.n) (cl[k]!.L.c)]) hp110.get2 (by kernel_rfl)), trivial⟩ (fun w112 hS113 => QB.mk (.cons (hS113.1) (.cons (hS113.1) .nil)) (by kernel_rfl)) (fun b114 => ?_)
        refine HOPS.eff _ rfl (opStep.call (some 63) [GStep.val (cl[k]!)] (by kernel_rfl) (tp_fits cl[k]! xs[k]! _ ((hst.2 k (by omega)).fram hp110.fr)) ?_)
        rintro _ w117 ⟨b120, rfl, hb121, hf118⟩
        refine ⟨_, rfl, ?_⟩
        have hp119 := hp110.step hf118
        refine ⟨.inr ⟨(show Ld Tryd.prog w117 29 ⟨g38, 0, none⟩ (GStep.val (cl[k]!)) from Ld.rowN (cs := [.int .i64 (cl[k]!.Kind), .int .i64 (cl[k]!.A), .int .i64 (cl[k]!.B), .string (cl[k]!.Key), .slice (cl[k]!.Value.a) (cl[k]!.Value.n) (cl[k]!.Value.c), .slice (cl[k]!.L.a) (cl[k]!.L.n) (cl[k]!.L.c)]) hp119.get2 (by kernel_rfl)), trivial⟩, ?_⟩
        refine HOPS.eff _ rfl (opStep.call (some 65) [GStep.val (cl[k]!)] (by kernel_rfl) (tp_ownStep (cl[k]!) xs[k]! _ ((hst.2 k (by omega)).fram hp119.fr) (hvs k (by omega))) ?_)
        rintro _ w124 ⟨s126, F127, rfl, hp125⟩
        refine ⟨_, rfl, ?_⟩
        have hp128 := hp119.madeQ hp125
        simp only [List.cons_append, List.nil_append] at hp128
        refine ⟨.inr ⟨(show Ld Tryd.prog w124 29 ⟨g38, 0, none⟩ (GStep.val (cl[k]!)) from Ld.rowN (cs := [.int .i64 (cl[k]!.Kind), .int .i64 (cl[k]!.A), .int .i64 (cl[k]!.B), .string (cl[k]!.Key), .slice (cl[k]!.Value.a) (cl[k]!.Value.n) (cl[k]!.Value.c), .slice (cl[k]!.L.a) (cl[k]!.L.n) (cl[k]!.L.c)]) hp128.get3 (by kernel_rfl)), trivial⟩, ?_⟩
        refine HOPS.eff _ rfl (opStep.call (some 66) [GStep.val s126] (by kernel_rfl) (sc_Check _ xs[k]! _ (hls.fram hp128.fr) ((hp128.get0.2 0 (by simp)).wide fun _ _ => trivial)) ?_)
        rintro _ w132 ⟨rfl, hf133⟩
        refine ⟨_, rfl, ?_⟩
        have hp134 := hp128.step hf133
        refine ⟨.inr ⟨(show Ld Tryd.prog w132 29 ⟨g38, 0, none⟩ (GStep.val (cl[k]!)) from Ld.rowN (cs := [.int .i64 (cl[k]!.Kind), .int .i64 (cl[k]!.A), .int .i64 (cl[k]!.B), .string (cl[k]!.Key), .slice (cl[k]!.Value.a) (cl[k]!.Value.n) (cl[k]!.Value.c), .slice (cl[k]!.L.a) (cl[k]!.L.n) (cl[k]!.L.c)]) hp134.get3 (by kernel_rfl)), trivial⟩, ?_⟩
        refine HOPS.take 2 {} [] [0, 1, 7, 8, 46, 47, 48, 68] [.slice a n c, .string text, .slice a55 (no + 1) c56, .bool false, .slice a n c, .int .i64 ((n : Nat) : Int), .int .i64 (k : Int), .bool (!(b120 == (decide ((chkI xs[k]!) = 0))))] (by kernel_rfl) ⟨(show Ld Tryd.prog w132 29 ⟨g38, 0, none⟩ (GStep.val (cl[k]!)) from Ld.rowN (cs := [.int .i64 (cl[k]!.Kind), .int .i64 (cl[k]!.A), .int .i64 (cl[k]!.B), .string (cl[k]!.Key), .slice (cl[k]!.Value.a) (cl[k]!.Value.n) (cl[k]!.Value.c), .slice (cl[k]!.L.a) (cl[k]!.L.n) (cl[k]!.L.c)]) hp134.get3 (by kernel_rfl)), trivial⟩ (fun w135 hS136 => QB.mk .nil (by kernel_rfl)) (fun b137 => ?_)
        refine HOPS.nil ?_
        refine thn_n ?_
        refine WP.test (p := ¬ (((okS xs[k]!) ↔ ((chkI xs[k]!) = 0)))) rfl (Bp.not (Bp.beq hb121 Bp.dec)) (fun h138 => ?_) (fun h138 => ?_)
        · refine WP.seq ?_
          refine WP.pure {} [] [4] [.bool false] .nil (by kernel_rfl) (fun b139 => ?_)
          refine thn_n ?_
          refine WP.ret ?_
          refine blk_r ?_
          refine thn_r ?_
          refine thn_r ?_
          refine blk_r ?_
          refine thn_r ?_
          refine bodyQ.of _ rfl [.bool false] ⟨rfl, trivial⟩ ?_
          exfalso
          have h_ := h138
          first | exact h_ hge9 | omega | (simp at h_; done) | (simp_all; done) | grind
        · replace h138 := Classical.not_not.1 h138
          refine WP.skip ?_
          refine blk_n ?_
          refine thn_n ?_
          refine WP.pure {} [] [0, 1, 7, 8, 46, 47, 48] [.slice a n c, .string text, .slice a55 (no + 1) c56, .bool false, .slice a n c, .int .i64 ((n : Nat) : Int), .int .i64 ((k : Int) + 1)] (.cons (show Rng .i64 ((k : Int) + 1) from Rng.i64 (by first | omega | (simp only [ByteArray.size_append]; omega))) .nil) (by kernel_rfl) (fun b140 => ?_)
          refine thn_n ?_
          have hp141 := hp134.pull2
          have hp142 := hp141.pull5
          have hp143 := hp142.pull1
          have hp144 := hp143.svPush
          exact ⟨n - (k + 1), (by omega), k + 1, fun k => F k ∨ F47 k, c2 ++ [s46], x2 ++ [xs[k]!], a55, no + 1, c56, false, rfl, ⟨by omega, by rw [List.length_append, List.length_singleton]; omega, by rw [pxs, List.take_succ_eq_append_getElem (by omega), getElem!_pos xs k (by omega)], ⟨fun q => (by cases q), fun q => absurd (pgd.2 ⟨q.1, fun i hi => q.2 i (by omega)⟩) h62⟩⟩, by kernel_rfl, (((hp144.pull0).pull4).sub (.cons_cons _ (.cons_cons _ (.cons _ (.cons _ (.cons _ (.slnil)))))))⟩
    · refine WP.exit ?_
      refine thn_x ?_
      refine thn_x ?_
      refine blk_hit ?_
      refine thn_n ?_
      refine WP.seq ?_
      refine WP.region _ rfl (by kernel_rfl) ?_
      refine OPS.batch 1 {} [] [0, 1, 8, 71] [.slice a n c, .string text, .bool gd, .slice ao no co] .nil (by kernel_rfl) (fun b145 => ?_)
      have hx2 : x2 = xs := by rw [pxs, List.take_of_length_le (by omega)]
      clear pxs
      refine OPS.cons (opStep.call (some 72) [.slice ao no co] (by kernel_rfl) (sc_Text c2 x2 ao no co _ (hls.fram hp25.fr) (own_flat (f := GStep.cells) (sz := 6) (fun _ => rfl) (by decide) hp25.get0).symm (by have h_ := own_flat (f := GStep.cells) (sz := 6) (fun _ => rfl) (by decide) hp25.get0; omega) (SlR.own hp25.get0) (hp25.get1).tr (hx2 ▸ hsm) (fun x hx => Nat.le_trans ((hx2 ▸ hT) x hx) (by decide))) ?_)
      rintro _ w148 ⟨t149, e150, rfl, hq151, hf152⟩
      rw [hx2] at hq151
      have hq151g := hq151.good
      have hq151s := hq151.size hT (by decide)
      refine ⟨_, rfl, ?_⟩
      have hp153 := hp25.step hf152
      refine OPS.batch 5 {} [] [0, 1, 8, 11, 12] [.slice a n c, .string text, .bool gd, .string t149, .int .i64 e150] .nil (by kernel_rfl) (fun b154 => ?_)
      refine OPS.nil ?_
      refine thn_n ?_
      refine WP.seq ?_
      refine WP.seq ?_
      have hgd9 : gd = true ↔ xs.length ≤ 4096 ∧ ∀ x ∈ xs, okS x := ⟨fun q => ⟨(pgd.1 q).1, all_mem fun i hi => (pgd.1 q).2 i (by omega)⟩, fun q => pgd.2 ⟨q.1, fun i hi => mem_all q.2 (by omega)⟩⟩
      have hge9 : gd = true ↔ e150 = 0 := hgd9.trans hq151g.1.symm
      refine WP.pure {} [] [0, 1, 8, 11, 78] [.slice a n c, .string text, .bool gd, .string t149, .bool (!(gd == (decide (e150 = 0))))] .nil (by kernel_rfl) (fun b155 => ?_)
      refine thn_n ?_
      refine WP.test (p := ¬ (((gd = true) ↔ (e150 = 0)))) rfl (Bp.not (Bp.beq Bp.var Bp.dec)) (fun h156 => ?_) (fun h156 => ?_)
      · refine WP.seq ?_
        refine WP.pure {} [] [4] [.bool false] .nil (by kernel_rfl) (fun b157 => ?_)
        refine thn_n ?_
        refine WP.ret ?_
        refine thn_r ?_
        refine bodyQ.of _ rfl [.bool false] ⟨rfl, trivial⟩ ?_
        exfalso
        have h_ := h156
        first | exact h_ hge9 | omega | (simp at h_; done) | (simp_all; done) | grind
      · replace h156 := Classical.not_not.1 h156
        refine WP.skip ?_
        refine thn_n ?_
        refine WP.seq ?_
        refine WP.seq ?_
        refine WP.pure {} [] [0, 1, 11, 79] [.slice a n c, .string text, .string t149, .bool gd] .nil (by kernel_rfl) (fun b158 => ?_)
        refine thn_n ?_
        refine WP.test (p := gd = true) rfl Bp.var (fun h159 => ?_) (fun h159 => ?_)
        · refine WP.seq ?_
          have hgo := hgd9.1 h159
          have he0 := hge9.1 h159
          refine WP.region _ rfl (by kernel_rfl) ?_
          refine OPS.batch 1 {} [] [0, 1, 81] [.slice a n c, .string text, .string t149] .nil (by kernel_rfl) (fun b160 => ?_)
          refine OPS.cons (opStep.call (some 82) [.string t149] (by kernel_rfl) (sc_Parse t149 hq151s.1 hq151s.2 _ (hls.fram hp153.fr)) ?_)
          rintro _ w163 ⟨a165, n166, c167, cl168, F169, xs170, m171, e172, rfl, hq173, hp164⟩
          have hq173a := own_flat (f := GStep.cells) (sz := 6) (fun _ => rfl) (by decide) hp164.get0
          have hq173b := hp164.get1.1
          refine ⟨_, rfl, ?_⟩
          have hp174 := hp153.madeQ hp164
          simp only [List.cons_append, List.nil_append] at hp174
          obtain ⟨hz1_, hz2_, hz3_⟩ := hq173.of (ys := xs) (by rw [hq151g.2.1 he0]; exact lines_textS hgo.2) (fun y hy => ⟨hgo.2 y hy, (hsm y hy).1⟩) hgo.1
          subst hz1_ hz2_
          have hz4_ := hz3_.symm
          cases hz3_
          refine OPS.batch 7 {} [] [0, 1, 13, 14, 15] [.slice a n c, .string text, .slice a165 n166 c167, .int .i64 0, .int .i64 0] .nil (by kernel_rfl) (fun b177 => ?_)
          refine OPS.nil ?_
          refine thn_n ?_
          refine WP.seq ?_
          refine WP.region _ rfl (by kernel_rfl) ?_
          refine OPS.batch 9 { wraps := [91] } [] [1, 92, 93, 94] [.string text, .bool false, .slice a165 n166 c167, .slice a n c] .nil (by kernel_rfl) (fun b178 => ?_)
          refine OPS.want (by kernel_rfl) ?_
          refine OPS.cons (opStep.call (some 95) [.slice a165 n166 c167, .slice a n c] (by kernel_rfl) (tp_steps cl168 cl xs a165 a n166 n c167 c _ (own_flat (f := GStep.cells) (sz := 6) (fun _ => rfl) (by decide) hp174.get0).symm hn (by have h_ := own_flat (f := GStep.cells) (sz := 6) (fun _ => rfl) (by decide) hp174.get0; omega) (SlR.own hp174.get0) (SlR.fram hsl hp174.fr) (hp174.get1).tr (hst.fram hp174.fr) (fun i hi => by have h_ := hvs i hi; omega)) ?_)
          rintro _ w181 ⟨rfl, hf182⟩
          refine ⟨_, rfl, ?_⟩
          have hp183 := hp174.step hf182
          refine OPS.batch 2 { wraps := [97] } [] [1, 97] [.string text, .bool false] .nil (by kernel_rfl) (fun b184 => ?_)
          refine OPS.nil ?_
          refine thn_n ?_
          refine WP.condF rfl ?_
          refine WP.skip ?_
          refine thn_n ?_
          refine WP.seq ?_
          refine WP.region _ rfl (by kernel_rfl) ?_
          refine OPS.batch 1 {} [] [1, 99] [.string text, .string text] .nil (by kernel_rfl) (fun b185 => ?_)
          refine OPS.cons (opStep.call (some 100) [.string text] (by kernel_rfl) (sc_Parse text (by omega) (fun x hx => Nat.le_trans (linesB_size hx) (by omega)) _ (hls.fram hp183.fr)) ?_)
          rintro _ w188 ⟨a190, n191, c192, cl193, F194, xs195, m196, e197, rfl, hq198, hp189⟩
          have hq198a := own_flat (f := GStep.cells) (sz := 6) (fun _ => rfl) (by decide) hp189.get0
          have hq198b := hp189.get1.1
          refine ⟨_, rfl, ?_⟩
          have hp199 := hp183.madeQ hp189
          simp only [List.cons_append, List.nil_append] at hp199
          have hts9 := hts
          refine OPS.batch 7 {} [] [1, 12, 16, 17] [.string text, .int .i64 e197, .slice a190 n191 c192, .int .i64 m196] .nil (by kernel_rfl) (fun b202 => ?_)
          refine OPS.nil ?_
          refine thn_n ?_
          refine WP.seq ?_
          refine WP.seq ?_
          refine WP.pure {} [] [1, 12, 16, 17, 105] [.string text, .int .i64 e197, .slice a190 n191 c192, .int .i64 m196, .bool (decide (e197 = 0))] .nil (by kernel_rfl) (fun b203 => ?_)
          refine thn_n ?_
          refine WP.test (p := e197 = 0) rfl Bp.dec (fun h204 => ?_) (fun h204 => ?_)
          · refine WP.seq ?_
            have hgot := hq198.zero h204
            have hm0 := hgot.1
            have hte := text_of_lines hgot.2.2.1
            have hte2 : textS xs195 = text ∨ ¬ (textS xs195 = text) ∧ textS xs195 = text ++ (⟨#[10]⟩ : ByteArray) := hte.elim .inl fun q => (Classical.em _).elim .inl fun z => .inr ⟨z, q⟩
            refine WP.region _ rfl (by kernel_rfl) ?_
            refine OPS.batch 1 {} [] [1, 17, 107] [.string text, .int .i64 m196, .slice a190 n191 c192] .nil (by kernel_rfl) (fun b205 => ?_)
            refine OPS.cons (opStep.call (some 108) [.slice a190 n191 c192] (by kernel_rfl) (sc_Text cl193 xs195 a190 n191 c192 _ (hls.fram hp199.fr) (own_flat (f := GStep.cells) (sz := 6) (fun _ => rfl) (by decide) hp199.get0).symm (by have h_ := own_flat (f := GStep.cells) (sz := 6) (fun _ => rfl) (by decide) hp199.get0; omega) (SlR.own hp199.get0) (hp199.get1).tr (got_sm hgot hts) (fun x hx => Nat.le_trans ((got_T hgot hts) x hx) (by decide))) ?_)
            rintro _ w208 ⟨t209, e210, rfl, hq211, hf212⟩
            obtain rfl : e210 = 0 := hq211.good.1.2 ⟨hgot.2.1, fun x hx => (hgot.2.2.2 x hx).1⟩
            obtain rfl : t209 = textS xs195 := hq211.good.2.1 rfl
            refine ⟨_, rfl, ?_⟩
            have hp213 := hp199.step hf212
            refine OPS.batch 5 {} [] [1, 17, 18, 19] [.string text, .int .i64 m196, .string (textS xs195), .int .i64 0] .nil (by kernel_rfl) (fun b214 => ?_)
            refine OPS.nil ?_
            refine thn_n ?_
            refine WP.cut (fun e229 w230 => ∃ (x227 : Bool), (True) ∧ Bp x227 (((m196 = 0) ∧ ((textS xs195) = text)) ∨ ((m196 = 0) ∧ (¬ ((textS xs195) = text)) ∧ ((textS xs195) = (text ++ (⟨#[10]⟩ : ByteArray))))) ∧ List.map e229 [4] = [.bool x227] ∧ Hp w Non [Res.own 29 6 (.slice a190 n191 c192) n191 (List.flatMap GStep.cells cl193), Res.sv F194 cl193 xs195, Res.own 29 6 (.slice a165 n166 c167) n166 (List.flatMap GStep.cells cl168), Res.sv F169 cl168 xs, Res.own 29 6 (.slice ao no co) no (List.flatMap GStep.cells c2), Res.sv F c2 x2] w230) ?_ ?_
            · refine WP.region _ rfl (by kernel_rfl) ?_
              refine OPS.batch 3 {} [] [1, 18, 19, 113] [.string text, .string (textS xs195), .int .i64 0, .bool (decide (m196 = 0))] .nil (by kernel_rfl) (fun b216 => ?_)
              by_cases h217 : m196 = 0
              · refine OPS.batch 0 {} [] [1, 18, 19, 113] [.string text, .string (textS xs195), .int .i64 0, .bool (decide (m196 = 0))] .nil (by kernel_rfl) (fun b218 => ?_)
                refine OPS.re [.string text, .string (textS xs195), .int .i64 0, .bool true] (by rw [show (decide (m196 = 0)) = true from Bp.dec.tt h217]) ?_
                refine OPS.batch 8 { wraps := [116] } [] [1, 18, 117, 121] [.string text, .string (textS xs195), .bool true, .bool (decide ((textS xs195) = text))] .nil (by kernel_rfl) (fun b219 => ?_)
                by_cases h220 : (textS xs195) = text
                · refine OPS.batch 0 {} [] [1, 18, 117, 121] [.string text, .string (textS xs195), .bool true, .bool (decide ((textS xs195) = text))] .nil (by kernel_rfl) (fun b221 => ?_)
                  refine OPS.re [.string text, .string (textS xs195), .bool true, .bool true] (by rw [show (decide ((textS xs195) = text)) = true from Bp.dec.tt h220]) ?_
                  refine OPS.batch 7 { wraps := [126, 127] } [] [4] [.bool true] .nil (by kernel_rfl) (fun b222 => ?_)
                  refine OPS.nil ?_
                  refine thn_n ?_
                  exact ⟨true, trivial, Bp.of Bp.t (by first | (simp only [h217, h220, iff_false, false_iff, iff_true, true_iff, Classical.not_not, and_true, true_and, and_false, false_and, or_true, true_or, or_false, false_or, not_true_eq_false, not_false_eq_true, and_self, or_self, iff_self]; done) | (simp [h217, h220]; done) | grind | (simp_all; done)), by kernel_rfl, hp213⟩
                · refine OPS.batch 0 {} [] [1, 18, 117, 121] [.string text, .string (textS xs195), .bool true, .bool (decide ((textS xs195) = text))] .nil (by kernel_rfl) (fun b223 => ?_)
                  refine OPS.re [.string text, .string (textS xs195), .bool true, .bool false] (by rw [show (decide ((textS xs195) = text)) = false from Bp.dec.ff h220]) ?_
                  refine OPS.batch 7 { wraps := [126, 127] } [] [4] [.bool (decide ((textS xs195) = (text ++ (⟨#[10]⟩ : ByteArray))))] (.cons (show text.size + (⟨#[10]⟩ : ByteArray).size ≤ 9223372036854775807 from by first | omega | (simp only [ByteArray.size_append]; omega)) .nil) (by kernel_rfl) (fun b224 => ?_)
                  refine OPS.nil ?_
                  refine thn_n ?_
                  exact ⟨decide ((textS xs195) = (text ++ (⟨#[10]⟩ : ByteArray))), trivial, Bp.of Bp.dec (by first | (simp only [h217, h220, iff_false, false_iff, iff_true, true_iff, Classical.not_not, and_true, true_and, and_false, false_and, or_true, true_or, or_false, false_or, not_true_eq_false, not_false_eq_true, and_self, or_self, iff_self]; done) | (simp [h217, h220]; done) | grind | (simp_all; done)), by kernel_rfl, hp213⟩
              · refine OPS.batch 0 {} [] [1, 18, 19, 113] [.string text, .string (textS xs195), .int .i64 0, .bool (decide (m196 = 0))] .nil (by kernel_rfl) (fun b225 => ?_)
                refine OPS.re [.string text, .string (textS xs195), .int .i64 0, .bool false] (by rw [show (decide (m196 = 0)) = false from Bp.dec.ff h217]) ?_
                refine OPS.batch 15 { wraps := [116, 127] } [] [4] [.bool false] .nil (by kernel_rfl) (fun b226 => ?_)
                refine OPS.nil ?_
                refine thn_n ?_
                exact ⟨false, trivial, Bp.of Bp.f (by first | (simp only [h217, iff_false, false_iff, iff_true, true_iff, Classical.not_not, and_true, true_and, and_false, false_and, or_true, true_or, or_false, false_or, not_true_eq_false, not_false_eq_true, and_self, or_self, iff_self]; done) | (simp [h217]; done) | grind | (simp_all; done)), by kernel_rfl, hp213⟩
            rintro e229 w230 ⟨x227, hd232, hb228, hE233, hp231⟩
            obtain ⟨b234, rfl⟩ := toMk hE233
            clear hE233
            clear hd232
            refine WP.ret ?_
            refine thn_r ?_
            refine bodyQ.of _ rfl [.bool x227] ⟨rfl, trivial⟩ ?_
            exact ⟨congrArg (fun b => Ending.returned (.bool b)) (Bp.tt hb228 (by first | omega | (simp; done) | exact hte2 | exact ⟨⟨rfl, rfl⟩, hte2⟩ | (simp_all; done))), hp231.fr⟩
          · refine WP.skip ?_
            refine thn_n ?_
            refine WP.seq ?_
            refine WP.seq ?_
            obtain ⟨hxs9, hcs⟩ := hq198.not h204
            have hxn9 := congrArg List.length hxs9
            simp only [List.length_nil] at hxn9
            refine WP.pure {} [] [1, 12, 17, 130] [.string text, .int .i64 e197, .int .i64 m196, .bool (decide (¬ (((n191 : Nat) : Int) = 0)))] .nil (by kernel_rfl) (fun b235 => ?_)
            refine thn_n ?_
            refine WP.test (p := ¬ (((n191 : Nat) : Int) = 0)) rfl Bp.dec (fun h236 => ?_) (fun h236 => ?_)
            · refine WP.seq ?_
              refine WP.pure {} [] [4] [.bool false] .nil (by kernel_rfl) (fun b237 => ?_)
              refine thn_n ?_
              refine WP.ret ?_
              refine thn_r ?_
              refine bodyQ.of _ rfl [.bool false] ⟨rfl, trivial⟩ ?_
              exfalso
              have h_ := h236
              first | exact h_ hge9 | omega | (simp at h_; done) | (simp_all; done) | grind
            · replace h236 := Classical.not_not.1 h236
              refine WP.skip ?_
              refine thn_n ?_
              refine WP.seq ?_
              refine WP.region _ rfl (by kernel_rfl) ?_
              refine OPS.batch 1 {} [] [12, 17, 131] [.int .i64 e197, .int .i64 m196, .string text] .nil (by kernel_rfl) (fun b238 => ?_)
              refine OPS.cons (opStep.call (some 132) [.string text] (by kernel_rfl) (tp_lines text (by omega) _) ?_)
              rintro _ w241 ⟨a243, n244, c245, rfl, hp242⟩
              have hln9 := own_flat (f := strc) (sz := 1) (fun _ => rfl) (by decide) hp242.get0
              have hcap9 := own_cap hp242.get0
              refine ⟨_, rfl, ?_⟩
              have hp246 := hp199.madeQ hp242
              simp only [List.cons_append, List.nil_append] at hp246
              refine OPS.batch 1 {} [] [12, 17, 20] [.int .i64 e197, .int .i64 m196, .slice a243 n244 c245] .nil (by kernel_rfl) (fun b247 => ?_)
              refine OPS.nil ?_
              refine thn_n ?_
              refine WP.seq ?_
              refine WP.seq ?_
              refine WP.pure {} [] [12, 17, 20, 135] [.int .i64 e197, .int .i64 m196, .slice a243 n244 c245, .bool (decide (4096 < ((n244 : Nat) : Int)))] .nil (by kernel_rfl) (fun b248 => ?_)
              refine thn_n ?_
              refine WP.test (p := 4096 < ((n244 : Nat) : Int)) rfl Bp.dec (fun h249 => ?_) (fun h249 => ?_)
              · refine WP.cut (fun e259 w260 => ∃ (x257 : Bool), (True) ∧ Bp x257 ((e197 = 2) ∧ (m196 = 0)) ∧ List.map e259 [4] = [.bool x257] ∧ Hp w Non [Res.own 9 1 (.slice a243 n244 c245) n244 (List.flatMap strc (linesB text)), Res.own 29 6 (.slice a190 n191 c192) n191 (List.flatMap GStep.cells cl193), Res.sv F194 cl193 xs195, Res.own 29 6 (.slice a165 n166 c167) n166 (List.flatMap GStep.cells cl168), Res.sv F169 cl168 xs, Res.own 29 6 (.slice ao no co) no (List.flatMap GStep.cells c2), Res.sv F c2 x2] w260) ?_ ?_
                · obtain ⟨_, hz1, hz2⟩ := hcs.resolve_right (fun q => absurd q.1 (by omega))
                  refine WP.region _ rfl (by kernel_rfl) ?_
                  refine OPS.batch 3 {} [] [17, 138] [.int .i64 m196, .bool (decide (e197 = 2))] .nil (by kernel_rfl) (fun b251 => ?_)
                  by_cases h252 : e197 = 2
                  · refine OPS.batch 0 {} [] [17, 138] [.int .i64 m196, .bool (decide (e197 = 2))] .nil (by kernel_rfl) (fun b253 => ?_)
                    refine OPS.re [.int .i64 m196, .bool true] (by rw [show (decide (e197 = 2)) = true from Bp.dec.tt h252]) ?_
                    refine OPS.batch 4 { wraps := [141] } [] [4] [.bool (decide (m196 = 0))] .nil (by kernel_rfl) (fun b254 => ?_)
                    refine OPS.nil ?_
                    refine thn_n ?_
                    exact ⟨decide (m196 = 0), trivial, Bp.of Bp.dec (by first | (simp only [h252, iff_false, false_iff, iff_true, true_iff, Classical.not_not, and_true, true_and, and_false, false_and, or_true, true_or, or_false, false_or, not_true_eq_false, not_false_eq_true, and_self, or_self, iff_self]; done) | (simp [h252]; done) | grind | (simp_all; done)), by kernel_rfl, hp246⟩
                  · refine OPS.batch 0 {} [] [17, 138] [.int .i64 m196, .bool (decide (e197 = 2))] .nil (by kernel_rfl) (fun b255 => ?_)
                    refine OPS.re [.int .i64 m196, .bool false] (by rw [show (decide (e197 = 2)) = false from Bp.dec.ff h252]) ?_
                    refine OPS.batch 4 { wraps := [141] } [] [4] [.bool false] .nil (by kernel_rfl) (fun b256 => ?_)
                    refine OPS.nil ?_
                    refine thn_n ?_
                    exact ⟨false, trivial, Bp.of Bp.f (by first | (simp only [h252, iff_false, false_iff, iff_true, true_iff, Classical.not_not, and_true, true_and, and_false, false_and, or_true, true_or, or_false, false_or, not_true_eq_false, not_false_eq_true, and_self, or_self, iff_self]; done) | (simp [h252]; done) | grind | (simp_all; done)), by kernel_rfl, hp246⟩
                rintro e259 w260 ⟨x257, hd262, hb258, hE263, hp261⟩
                obtain ⟨b264, rfl⟩ := toMk hE263
                clear hE263
                clear hd262
                refine WP.ret ?_
                refine thn_r ?_
                refine bodyQ.of _ rfl [.bool x257] ⟨rfl, trivial⟩ ?_
                exact ⟨congrArg (fun b => Ending.returned (.bool b)) (Bp.tt hb258 (by first | omega | (simp; done) | exact hte2 | exact ⟨⟨rfl, rfl⟩, hte2⟩ | (simp_all; done))), hp261.fr⟩
              · refine WP.skip ?_
                refine thn_n ?_
                refine WP.seq ?_
                refine WP.cut (fun e279 w280 => ∃ (x277 : Bool), (True) ∧ Bp x277 (((¬ (e197 = 82))) ∨ ((e197 = 82) ∧ (m196 < 0)) ∨ ((e197 = 82) ∧ (¬ (m196 < 0)) ∧ (((n244 : Nat) : Int) ≤ m196))) ∧ List.map e279 [17, 20, 153] = [.int .i64 m196, .slice a243 n244 c245, .bool x277] ∧ Hp w Non [Res.own 9 1 (.slice a243 n244 c245) n244 (List.flatMap strc (linesB text)), Res.own 29 6 (.slice a190 n191 c192) n191 (List.flatMap GStep.cells cl193), Res.sv F194 cl193 xs195, Res.own 29 6 (.slice a165 n166 c167) n166 (List.flatMap GStep.cells cl168), Res.sv F169 cl168 xs, Res.own 29 6 (.slice ao no co) no (List.flatMap GStep.cells c2), Res.sv F c2 x2] w280) ?_ ?_
                · obtain ⟨hle9, hq82, hn09, hnl9, hnl, hgood⟩ := hcs.resolve_left (fun q => absurd q.1 (by omega))
                  refine WP.region _ rfl (by kernel_rfl) ?_
                  refine OPS.batch 3 {} [] [17, 20, 144] [.int .i64 m196, .slice a243 n244 c245, .bool (decide (¬ (e197 = 82)))] .nil (by kernel_rfl) (fun b266 => ?_)
                  by_cases h267 : e197 = 82
                  · refine OPS.batch 0 {} [] [17, 20, 144] [.int .i64 m196, .slice a243 n244 c245, .bool (decide (¬ (e197 = 82)))] .nil (by kernel_rfl) (fun b270 => ?_)
                    refine OPS.re [.int .i64 m196, .slice a243 n244 c245, .bool false] (by rw [show (decide (¬ (e197 = 82))) = false from Bp.dec.ff (fun k => k h267)]) ?_
                    refine OPS.batch 4 { wraps := [147] } [] [17, 20, 148] [.int .i64 m196, .slice a243 n244 c245, .bool (decide (m196 < 0))] .nil (by kernel_rfl) (fun b271 => ?_)
                    by_cases h272 : m196 < 0
                    · refine OPS.batch 0 {} [] [17, 20, 148] [.int .i64 m196, .slice a243 n244 c245, .bool (decide (m196 < 0))] .nil (by kernel_rfl) (fun b273 => ?_)
                      refine OPS.re [.int .i64 m196, .slice a243 n244 c245, .bool true] (by rw [show (decide (m196 < 0)) = true from Bp.dec.tt h272]) ?_
                      refine OPS.batch 5 { wraps := [153] } [] [17, 20, 153] [.int .i64 m196, .slice a243 n244 c245, .bool true] .nil (by kernel_rfl) (fun b274 => ?_)
                      refine OPS.nil ?_
                      refine thn_n ?_
                      exact ⟨true, trivial, Bp.of Bp.t (by first | (simp only [h267, h272, iff_false, false_iff, iff_true, true_iff, Classical.not_not, and_true, true_and, and_false, false_and, or_true, true_or, or_false, false_or, not_true_eq_false, not_false_eq_true, and_self, or_self, iff_self]; done) | (simp [h267, h272]; done) | grind | (simp_all; done)), by kernel_rfl, hp246⟩
                    · refine OPS.batch 0 {} [] [17, 20, 148] [.int .i64 m196, .slice a243 n244 c245, .bool (decide (m196 < 0))] .nil (by kernel_rfl) (fun b275 => ?_)
                      refine OPS.re [.int .i64 m196, .slice a243 n244 c245, .bool false] (by rw [show (decide (m196 < 0)) = false from Bp.dec.ff h272]) ?_
                      refine OPS.batch 5 { wraps := [153] } [] [17, 20, 153] [.int .i64 m196, .slice a243 n244 c245, .bool (decide (((n244 : Nat) : Int) ≤ m196))] .nil (by kernel_rfl) (fun b276 => ?_)
                      refine OPS.nil ?_
                      refine thn_n ?_
                      exact ⟨decide (((n244 : Nat) : Int) ≤ m196), trivial, Bp.of Bp.dec (by first | (simp only [h267, h272, iff_false, false_iff, iff_true, true_iff, Classical.not_not, and_true, true_and, and_false, false_and, or_true, true_or, or_false, false_or, not_true_eq_false, not_false_eq_true, and_self, or_self, iff_self]; done) | (simp [h267, h272]; done) | grind | (simp_all; done)), by kernel_rfl, hp246⟩
                  · refine OPS.batch 0 {} [] [17, 20, 144] [.int .i64 m196, .slice a243 n244 c245, .bool (decide (¬ (e197 = 82)))] .nil (by kernel_rfl) (fun b268 => ?_)
                    refine OPS.re [.int .i64 m196, .slice a243 n244 c245, .bool true] (by rw [show (decide (¬ (e197 = 82))) = true from Bp.dec.tt h267]) ?_
                    refine OPS.batch 9 { wraps := [147, 153] } [] [17, 20, 153] [.int .i64 m196, .slice a243 n244 c245, .bool true] .nil (by kernel_rfl) (fun b269 => ?_)
                    refine OPS.nil ?_
                    refine thn_n ?_
                    exact ⟨true, trivial, Bp.of Bp.t (by first | (simp only [h267, iff_false, false_iff, iff_true, true_iff, Classical.not_not, and_true, true_and, and_false, false_and, or_true, true_or, or_false, false_or, not_true_eq_false, not_false_eq_true, and_self, or_self, iff_self]; done) | (simp [h267]; done) | grind | (simp_all; done)), by kernel_rfl, hp246⟩
                rintro e279 w280 ⟨x277, hd282, hb278, hE283, hp281⟩
                obtain ⟨b284, rfl⟩ := toMk hE283
                clear hE283
                clear hd282
                refine WP.test (p := ((¬ (e197 = 82))) ∨ ((e197 = 82) ∧ (m196 < 0)) ∨ ((e197 = 82) ∧ (¬ (m196 < 0)) ∧ (((n244 : Nat) : Int) ≤ m196))) rfl hb278 (fun h285 => ?_) (fun h285 => ?_)
                · refine WP.seq ?_
                  refine WP.pure {} [] [4] [.bool false] .nil (by kernel_rfl) (fun b286 => ?_)
                  refine thn_n ?_
                  refine WP.ret ?_
                  refine thn_r ?_
                  refine bodyQ.of _ rfl [.bool false] ⟨rfl, trivial⟩ ?_
                  exfalso
                  have h_ := h285
                  first | exact h_ hge9 | omega | (simp at h_; done) | (simp_all; done) | grind
                · refine WP.skip ?_
                  refine thn_n ?_
                  refine WP.seq ?_
                  obtain ⟨hle9, hq82, hn09, hnl9, hnl, hgood⟩ := hcs.resolve_left (fun q => absurd q.1 (by omega))
                  have hlno : ∀ c ∈ ((linesB text)[(m196 : Int).toNat]!).data.toList, c ≠ 10 := by rw [getElem!_pos _ _ (by omega)]; exact linesB_no (List.getElem_mem _)
                  have hlsz : ((linesB text)[(m196 : Int).toNat]!).size ≤ 1048576 := by rw [getElem!_pos _ _ (by omega)]; exact Nat.le_trans (linesB_size (List.getElem_mem _)) hts
                  refine WP.region _ rfl (by kernel_rfl) ?_
                  have hy290 : ((linesB text))[(m196 : Int).toNat]? = some (linesB text)[(m196 : Int).toNat]! := get_bang (by first | (first | omega | (simp only [ByteArray.size_append]; omega)) | (simp only [List.length_append, List.length_cons, List.length_nil]; omega) | (simp only [List.length_take, List.length_append, List.length_cons, List.length_nil]; omega))
                  refine OPS.batch 5 {} [.string ((linesB text)[(m196 : Int).toNat]!)] [17, 20, 159] [.int .i64 m196, .slice a243 n244 c245, .string (((linesB text)[(m196 : Int).toNat]!) ++ (⟨#[10]⟩ : ByteArray))] (.cons (show InB (m196) (n244) from ⟨by first | omega | (simp only [ByteArray.size_append]; omega), by first | omega | (simp only [ByteArray.size_append]; omega)⟩) (.cons ((SlR.own hp281.get0).some (by first | omega | (simp only [ByteArray.size_append]; omega))) (.cons (Ld.add0 (Ld.el1 (P := Tryd.prog) (t := 9) (SlR.own hp281.get0).rd 1 (fun _ => rfl) hy290 (o := 0) (v := .string ((linesB text)[(m196 : Int).toNat]!)) (by kernel_rfl))) (.cons (show ((linesB text)[(m196 : Int).toNat]!).size + (⟨#[10]⟩ : ByteArray).size ≤ 9223372036854775807 from by first | omega | (simp only [ByteArray.size_append]; omega)) .nil)))) (by kernel_rfl) (fun b291 => ?_)
                  refine OPS.cons (opStep.call (some 160) [.string (((linesB text)[(m196 : Int).toNat]!) ++ (⟨#[10]⟩ : ByteArray))] (by kernel_rfl) (sc_Parse (((linesB text)[(m196 : Int).toNat]!) ++ (⟨#[10]⟩ : ByteArray)) (by rw [ByteArray.size_append]; have : (⟨#[10]⟩ : ByteArray).size = 1 := rfl; omega) (fun x hx => by have h_ := linesB_size hx; rw [ByteArray.size_append] at h_; have : (⟨#[10]⟩ : ByteArray).size = 1 := rfl; omega) _ (hls.fram hp281.fr)) ?_)
                  rintro _ w294 ⟨a296, n297, c298, cl299, F300, xs301, m302, e303, rfl, hq304, hp295⟩
                  have hq304a := own_flat (f := GStep.cells) (sz := 6) (fun _ => rfl) (by decide) hp295.get0
                  have hq304b := hp295.get1.1
                  refine ⟨_, rfl, ?_⟩
                  have hp305 := hp281.madeQ hp295
                  simp only [List.cons_append, List.nil_append] at hp305
                  obtain rfl := hq304.one_bad hlno hnl
                  refine OPS.batch 7 {} [] [17, 20, 23] [.int .i64 m196, .slice a243 n244 c245, .int .i64 82] .nil (by kernel_rfl) (fun b308 => ?_)
                  refine OPS.nil ?_
                  refine thn_n ?_
                  refine WP.seq ?_
                  refine WP.pure {} [] [17, 20, 23, 24] [.int .i64 m196, .slice a243 n244 c245, .int .i64 82, .string ⟨#[]⟩] .nil (by kernel_rfl) (fun b309 => ?_)
                  refine thn_n ?_
                  refine WP.seq ?_
                  refine WP.seq ?_
                  refine WP.pure {} [] [23, 24, 166, 167, 168] [.int .i64 82, .string ⟨#[]⟩, .slice a243 ((m196 : Int).toNat) c245, .int .i64 (((m196 : Int).toNat : Nat) : Int), .int .i64 0] (.cons (show (0 : Int) ≤ m196 ∧ m196 ≤ ((c245 : Nat) : Int) from ⟨by first | omega | (simp only [ByteArray.size_append]; omega), by first | omega | (simp only [ByteArray.size_append]; omega)⟩) .nil) (by kernel_rfl) (fun b310 => ?_)
                  refine thn_n ?_
                  refine WP.block ?_
                  refine WP.loop (fun mz_ e311 w312 => ∃ (j : Nat) (fr : ByteArray), mz_ = m196.toNat - j ∧ (j ≤ m196.toNat ∧ fr = frontB ((linesB text).take j) ∧ fr.size ≤ j * 1048577) ∧ List.map e311 [23, 24, 166, 167, 168] = [.int .i64 82, .string fr, .slice a243 ((m196 : Int).toNat) c245, .int .i64 (((m196 : Int).toNat : Nat) : Int), .int .i64 (j : Int)] ∧ Hp w Non [Res.own 29 6 (.slice a296 n297 c298) n297 (List.flatMap GStep.cells cl299), Res.sv F300 cl299 xs301, Res.own 9 1 (.slice a243 n244 c245) n244 (List.flatMap strc (linesB text)), Res.own 29 6 (.slice a190 n191 c192) n191 (List.flatMap GStep.cells cl193), Res.sv F194 cl193 xs195, Res.own 29 6 (.slice a165 n166 c167) n166 (List.flatMap GStep.cells cl168), Res.sv F169 cl168 xs, Res.own 29 6 (.slice ao no co) no (List.flatMap GStep.cells c2), Res.sv F c2 x2] w312) (m196.toNat - (0)) ⟨0, (⟨#[]⟩ : ByteArray), rfl, ⟨by omega, rfl, by decide⟩, by kernel_rfl, hp305⟩ ?_
                  rintro _ e311 w312 ⟨j, fr, rfl, hI314, hE315, hp313⟩
                  obtain ⟨b316, rfl⟩ := toMk hE315
                  clear hE315
                  obtain ⟨fa, hfr, fc⟩ := hI314
                  have hlj : j < (linesB text).length → (linesB text)[j]!.size ≤ 1048576 := fun q => by rw [getElem!_pos _ j q]; exact Nat.le_trans (linesB_size (List.getElem_mem q)) hts
                  have htk : (List.take m196.toNat (linesB text)).length = m196.toNat := by rw [List.length_take]; omega
                  have htj : j < m196.toNat → (List.take m196.toNat (linesB text))[j]!.size ≤ 1048576 := fun q => by rw [getElem!_pos _ j (by omega), List.getElem_take, ← getElem!_pos _ j (by omega)]; exact hlj (by omega)
                  refine WP.seq ?_
                  refine WP.pure {} [] [23, 24, 166, 167, 168, 169] [.int .i64 82, .string fr, .slice a243 ((m196 : Int).toNat) c245, .int .i64 (((m196 : Int).toNat : Nat) : Int), .int .i64 (j : Int), .bool (decide ((j : Int) < (((m196 : Int).toNat : Nat) : Int)))] .nil (by kernel_rfl) (fun b317 => ?_)
                  refine thn_n ?_
                  refine WP.seq ?_
                  refine WP.test (p := (j : Int) < (((m196 : Int).toNat : Nat) : Int)) rfl Bp.dec (fun h318 => ?_) (fun h318 => ?_)
                  · refine WP.skip ?_
                    refine thn_n ?_
                    refine WP.seq ?_
                    refine WP.block ?_
                    refine WP.seq ?_
                    have hy320 : (List.take ((m196 : Int).toNat) (linesB text))[j]? = some (List.take ((m196 : Int).toNat) (linesB text))[j]! := get_bang (by first | (first | omega | (simp only [ByteArray.size_append]; omega)) | (simp only [List.length_append, List.length_cons, List.length_nil]; omega) | (simp only [List.length_take, List.length_append, List.length_cons, List.length_nil]; omega))
                    refine WP.pure {} [.string ((List.take ((m196 : Int).toNat) (linesB text))[j]!)] [23, 24, 26, 166, 167, 168] [.int .i64 82, .string fr, .string ((List.take ((m196 : Int).toNat) (linesB text))[j]!), .slice a243 ((m196 : Int).toNat) c245, .int .i64 (((m196 : Int).toNat : Nat) : Int), .int .i64 (j : Int)] (.cons (show InB ((j : Int)) ((m196 : Int).toNat) from ⟨by first | omega | (simp only [ByteArray.size_append]; omega), by first | omega | (simp only [ByteArray.size_append]; omega)⟩) (.cons ((slr_take (k := (m196 : Int).toNat) (sz := 1) (fun _ => rfl) (SlR.own hp313.get2) (by first | omega | (simp only [ByteArray.size_append]; omega))).some (by first | omega | (simp only [ByteArray.size_append]; omega))) (.cons (Ld.add0 (Ld.el1 (P := Tryd.prog) (t := 9) (slr_take (k := (m196 : Int).toNat) (sz := 1) (fun _ => rfl) (SlR.own hp313.get2) (by first | omega | (simp only [ByteArray.size_append]; omega))).rd 1 (fun _ => rfl) hy320 (o := 0) (v := .string ((List.take ((m196 : Int).toNat) (linesB text))[j]!)) (by kernel_rfl))) .nil))) (by kernel_rfl) (fun b321 => ?_)
                    refine thn_n ?_
                    refine WP.pure {} [] [23, 24, 166, 167, 168] [.int .i64 82, .string (fr ++ (((List.take ((m196 : Int).toNat) (linesB text))[j]!) ++ (⟨#[10]⟩ : ByteArray))), .slice a243 ((m196 : Int).toNat) c245, .int .i64 (((m196 : Int).toNat : Nat) : Int), .int .i64 (j : Int)] (.cons (show ((List.take ((m196 : Int).toNat) (linesB text))[j]!).size + (⟨#[10]⟩ : ByteArray).size ≤ 9223372036854775807 from by first | omega | (simp only [ByteArray.size_append]; omega)) (.cons (show fr.size + (((List.take ((m196 : Int).toNat) (linesB text))[j]!) ++ (⟨#[10]⟩ : ByteArray)).size ≤ 9223372036854775807 from by first | omega | (simp only [ByteArray.size_append]; omega)) .nil)) (by kernel_rfl) (fun b322 => ?_)
                    refine blk_n ?_
                    refine thn_n ?_
                    refine WP.pure {} [] [23, 24, 166, 167, 168] [.int .i64 82, .string (fr ++ (((List.take ((m196 : Int).toNat) (linesB text))[j]!) ++ (⟨#[10]⟩ : ByteArray))), .slice a243 ((m196 : Int).toNat) c245, .int .i64 (((m196 : Int).toNat : Nat) : Int), .int .i64 ((j : Int) + 1)] (.cons (show Rng .i64 ((j : Int) + 1) from Rng.i64 (by first | omega | (simp only [ByteArray.size_append]; omega))) .nil) (by kernel_rfl) (fun b323 => ?_)
                    refine thn_n ?_
                    exact ⟨m196.toNat - (j + 1), (by omega), j + 1, fr ++ (((List.take ((m196 : Int).toNat) (linesB text))[j]!) ++ (⟨#[10]⟩ : ByteArray)), rfl, ⟨by omega, by rw [hfr, ← front_step (by omega)]; congr 2; rw [getElem!_pos _ j (by omega), List.getElem_take, ← getElem!_pos _ j (by omega)], by simp only [ByteArray.size_append]; omega⟩, by kernel_rfl, hp313⟩
                  · refine WP.exit ?_
                    refine thn_x ?_
                    refine thn_x ?_
                    refine blk_hit ?_
                    refine thn_n ?_
                    refine WP.seq ?_
                    have hjm : j = m196.toNat := by omega
                    rw [hjm] at hfr
                    refine WP.region _ rfl (by kernel_rfl) ?_
                    refine OPS.batch 1 {} [] [23, 178] [.int .i64 82, .string fr] .nil (by kernel_rfl) (fun b324 => ?_)
                    refine OPS.cons (opStep.call (some 179) [.string fr] (by kernel_rfl) (sc_Parse fr (by omega) (fun x hx => by have h_ := linesB_size hx; omega) _ (hls.fram hp313.fr)) ?_)
                    rintro _ w327 ⟨a329, n330, c331, cl332, F333, xs334, m335, e336, rfl, hq337, hp328⟩
                    have hq337a := own_flat (f := GStep.cells) (sz := 6) (fun _ => rfl) (by decide) hp328.get0
                    have hq337b := hp328.get1.1
                    refine ⟨_, rfl, ?_⟩
                    have hp338 := hp313.madeQ hp328
                    simp only [List.cons_append, List.nil_append] at hp338
                    have hfl : linesB fr = (linesB text).take m196.toNat := by rw [hfr]; exact front_lines fun l hl => linesB_no (List.mem_of_mem_take hl)
                    obtain rfl := hq337.all (by rw [hfl, List.length_take]; omega) (fun i hi => by rw [hfl, List.length_take] at hi; rw [hfl, getElem!_pos _ i (by rw [List.length_take]; omega), List.getElem_take]; have h_ := hgood i (by omega); rwa [getElem!_pos _ i (by omega)] at h_)
                    refine OPS.batch 7 {} [] [23, 29] [.int .i64 82, .int .i64 0] .nil (by kernel_rfl) (fun b341 => ?_)
                    refine OPS.nil ?_
                    refine thn_n ?_
                    refine WP.seq ?_
                    refine WP.pure { wraps := [188] } [] [4] [.bool true] .nil (by kernel_rfl) (fun b342 => ?_)
                    refine thn_n ?_
                    refine WP.ret ?_
                    refine bodyQ.of _ rfl [.bool true] ⟨rfl, trivial⟩ ?_
                    exact ⟨rfl, hp338.fr⟩
        · refine WP.skip ?_
          refine thn_n ?_
          refine WP.seq ?_
          refine WP.region _ rfl (by kernel_rfl) ?_
          refine OPS.batch 1 {} [] [1, 99] [.string text, .string text] .nil (by kernel_rfl) (fun b343 => ?_)
          refine OPS.cons (opStep.call (some 100) [.string text] (by kernel_rfl) (sc_Parse text (by omega) (fun x hx => Nat.le_trans (linesB_size hx) (by omega)) _ (hls.fram hp153.fr)) ?_)
          rintro _ w346 ⟨a348, n349, c350, cl351, F352, xs353, m354, e355, rfl, hq356, hp347⟩
          have hq356a := own_flat (f := GStep.cells) (sz := 6) (fun _ => rfl) (by decide) hp347.get0
          have hq356b := hp347.get1.1
          refine ⟨_, rfl, ?_⟩
          have hp357 := hp153.madeQ hp347
          simp only [List.cons_append, List.nil_append] at hp357
          have hts9 := hts
          refine OPS.batch 7 {} [] [1, 12, 16, 17] [.string text, .int .i64 e355, .slice a348 n349 c350, .int .i64 m354] .nil (by kernel_rfl) (fun b360 => ?_)
          refine OPS.nil ?_
          refine thn_n ?_
          refine WP.seq ?_
          refine WP.seq ?_
          refine WP.pure {} [] [1, 12, 16, 17, 105] [.string text, .int .i64 e355, .slice a348 n349 c350, .int .i64 m354, .bool (decide (e355 = 0))] .nil (by kernel_rfl) (fun b361 => ?_)
          refine thn_n ?_
          refine WP.test (p := e355 = 0) rfl Bp.dec (fun h362 => ?_) (fun h362 => ?_)
          · refine WP.seq ?_
            have hgot := hq356.zero h362
            have hm0 := hgot.1
            have hte := text_of_lines hgot.2.2.1
            have hte2 : textS xs353 = text ∨ ¬ (textS xs353 = text) ∧ textS xs353 = text ++ (⟨#[10]⟩ : ByteArray) := hte.elim .inl fun q => (Classical.em _).elim .inl fun z => .inr ⟨z, q⟩
            refine WP.region _ rfl (by kernel_rfl) ?_
            refine OPS.batch 1 {} [] [1, 17, 107] [.string text, .int .i64 m354, .slice a348 n349 c350] .nil (by kernel_rfl) (fun b363 => ?_)
            refine OPS.cons (opStep.call (some 108) [.slice a348 n349 c350] (by kernel_rfl) (sc_Text cl351 xs353 a348 n349 c350 _ (hls.fram hp357.fr) (own_flat (f := GStep.cells) (sz := 6) (fun _ => rfl) (by decide) hp357.get0).symm (by have h_ := own_flat (f := GStep.cells) (sz := 6) (fun _ => rfl) (by decide) hp357.get0; omega) (SlR.own hp357.get0) (hp357.get1).tr (got_sm hgot hts) (fun x hx => Nat.le_trans ((got_T hgot hts) x hx) (by decide))) ?_)
            rintro _ w366 ⟨t367, e368, rfl, hq369, hf370⟩
            obtain rfl : e368 = 0 := hq369.good.1.2 ⟨hgot.2.1, fun x hx => (hgot.2.2.2 x hx).1⟩
            obtain rfl : t367 = textS xs353 := hq369.good.2.1 rfl
            refine ⟨_, rfl, ?_⟩
            have hp371 := hp357.step hf370
            refine OPS.batch 5 {} [] [1, 17, 18, 19] [.string text, .int .i64 m354, .string (textS xs353), .int .i64 0] .nil (by kernel_rfl) (fun b372 => ?_)
            refine OPS.nil ?_
            refine thn_n ?_
            refine WP.cut (fun e387 w388 => ∃ (x385 : Bool), (True) ∧ Bp x385 (((m354 = 0) ∧ ((textS xs353) = text)) ∨ ((m354 = 0) ∧ (¬ ((textS xs353) = text)) ∧ ((textS xs353) = (text ++ (⟨#[10]⟩ : ByteArray))))) ∧ List.map e387 [4] = [.bool x385] ∧ Hp w Non [Res.own 29 6 (.slice a348 n349 c350) n349 (List.flatMap GStep.cells cl351), Res.sv F352 cl351 xs353, Res.own 29 6 (.slice ao no co) no (List.flatMap GStep.cells c2), Res.sv F c2 x2] w388) ?_ ?_
            · refine WP.region _ rfl (by kernel_rfl) ?_
              refine OPS.batch 3 {} [] [1, 18, 19, 113] [.string text, .string (textS xs353), .int .i64 0, .bool (decide (m354 = 0))] .nil (by kernel_rfl) (fun b374 => ?_)
              by_cases h375 : m354 = 0
              · refine OPS.batch 0 {} [] [1, 18, 19, 113] [.string text, .string (textS xs353), .int .i64 0, .bool (decide (m354 = 0))] .nil (by kernel_rfl) (fun b376 => ?_)
                refine OPS.re [.string text, .string (textS xs353), .int .i64 0, .bool true] (by rw [show (decide (m354 = 0)) = true from Bp.dec.tt h375]) ?_
                refine OPS.batch 8 { wraps := [116] } [] [1, 18, 117, 121] [.string text, .string (textS xs353), .bool true, .bool (decide ((textS xs353) = text))] .nil (by kernel_rfl) (fun b377 => ?_)
                by_cases h378 : (textS xs353) = text
                · refine OPS.batch 0 {} [] [1, 18, 117, 121] [.string text, .string (textS xs353), .bool true, .bool (decide ((textS xs353) = text))] .nil (by kernel_rfl) (fun b379 => ?_)
                  refine OPS.re [.string text, .string (textS xs353), .bool true, .bool true] (by rw [show (decide ((textS xs353) = text)) = true from Bp.dec.tt h378]) ?_
                  refine OPS.batch 7 { wraps := [126, 127] } [] [4] [.bool true] .nil (by kernel_rfl) (fun b380 => ?_)
                  refine OPS.nil ?_
                  refine thn_n ?_
                  exact ⟨true, trivial, Bp.of Bp.t (by first | (simp only [h375, h378, iff_false, false_iff, iff_true, true_iff, Classical.not_not, and_true, true_and, and_false, false_and, or_true, true_or, or_false, false_or, not_true_eq_false, not_false_eq_true, and_self, or_self, iff_self]; done) | (simp [h375, h378]; done) | grind | (simp_all; done)), by kernel_rfl, hp371⟩
                · refine OPS.batch 0 {} [] [1, 18, 117, 121] [.string text, .string (textS xs353), .bool true, .bool (decide ((textS xs353) = text))] .nil (by kernel_rfl) (fun b381 => ?_)
                  refine OPS.re [.string text, .string (textS xs353), .bool true, .bool false] (by rw [show (decide ((textS xs353) = text)) = false from Bp.dec.ff h378]) ?_
                  refine OPS.batch 7 { wraps := [126, 127] } [] [4] [.bool (decide ((textS xs353) = (text ++ (⟨#[10]⟩ : ByteArray))))] (.cons (show text.size + (⟨#[10]⟩ : ByteArray).size ≤ 9223372036854775807 from by first | omega | (simp only [ByteArray.size_append]; omega)) .nil) (by kernel_rfl) (fun b382 => ?_)
                  refine OPS.nil ?_
                  refine thn_n ?_
                  exact ⟨decide ((textS xs353) = (text ++ (⟨#[10]⟩ : ByteArray))), trivial, Bp.of Bp.dec (by first | (simp only [h375, h378, iff_false, false_iff, iff_true, true_iff, Classical.not_not, and_true, true_and, and_false, false_and, or_true, true_or, or_false, false_or, not_true_eq_false, not_false_eq_true, and_self, or_self, iff_self]; done) | (simp [h375, h378]; done) | grind | (simp_all; done)), by kernel_rfl, hp371⟩
              · refine OPS.batch 0 {} [] [1, 18, 19, 113] [.string text, .string (textS xs353), .int .i64 0, .bool (decide (m354 = 0))] .nil (by kernel_rfl) (fun b383 => ?_)
                refine OPS.re [.string text, .string (textS xs353), .int .i64 0, .bool false] (by rw [show (decide (m354 = 0)) = false from Bp.dec.ff h375]) ?_
                refine OPS.batch 15 { wraps := [116, 127] } [] [4] [.bool false] .nil (by kernel_rfl) (fun b384 => ?_)
                refine OPS.nil ?_
                refine thn_n ?_
                exact ⟨false, trivial, Bp.of Bp.f (by first | (simp only [h375, iff_false, false_iff, iff_true, true_iff, Classical.not_not, and_true, true_and, and_false, false_and, or_true, true_or, or_false, false_or, not_true_eq_false, not_false_eq_true, and_self, or_self, iff_self]; done) | (simp [h375]; done) | grind | (simp_all; done)), by kernel_rfl, hp371⟩
            rintro e387 w388 ⟨x385, hd390, hb386, hE391, hp389⟩
            obtain ⟨b392, rfl⟩ := toMk hE391
            clear hE391
            clear hd390
            refine WP.ret ?_
            refine thn_r ?_
            refine bodyQ.of _ rfl [.bool x385] ⟨rfl, trivial⟩ ?_
            exact ⟨congrArg (fun b => Ending.returned (.bool b)) (Bp.tt hb386 (by first | omega | (simp; done) | exact hte2 | exact ⟨⟨rfl, rfl⟩, hte2⟩ | (simp_all; done))), hp389.fr⟩
          · refine WP.skip ?_
            refine thn_n ?_
            refine WP.seq ?_
            refine WP.seq ?_
            obtain ⟨hxs9, hcs⟩ := hq356.not h362
            have hxn9 := congrArg List.length hxs9
            simp only [List.length_nil] at hxn9
            refine WP.pure {} [] [1, 12, 17, 130] [.string text, .int .i64 e355, .int .i64 m354, .bool (decide (¬ (((n349 : Nat) : Int) = 0)))] .nil (by kernel_rfl) (fun b393 => ?_)
            refine thn_n ?_
            refine WP.test (p := ¬ (((n349 : Nat) : Int) = 0)) rfl Bp.dec (fun h394 => ?_) (fun h394 => ?_)
            · refine WP.seq ?_
              refine WP.pure {} [] [4] [.bool false] .nil (by kernel_rfl) (fun b395 => ?_)
              refine thn_n ?_
              refine WP.ret ?_
              refine thn_r ?_
              refine bodyQ.of _ rfl [.bool false] ⟨rfl, trivial⟩ ?_
              exfalso
              have h_ := h394
              first | exact h_ hge9 | omega | (simp at h_; done) | (simp_all; done) | grind
            · replace h394 := Classical.not_not.1 h394
              refine WP.skip ?_
              refine thn_n ?_
              refine WP.seq ?_
              refine WP.region _ rfl (by kernel_rfl) ?_
              refine OPS.batch 1 {} [] [12, 17, 131] [.int .i64 e355, .int .i64 m354, .string text] .nil (by kernel_rfl) (fun b396 => ?_)
              refine OPS.cons (opStep.call (some 132) [.string text] (by kernel_rfl) (tp_lines text (by omega) _) ?_)
              rintro _ w399 ⟨a401, n402, c403, rfl, hp400⟩
              have hln9 := own_flat (f := strc) (sz := 1) (fun _ => rfl) (by decide) hp400.get0
              have hcap9 := own_cap hp400.get0
              refine ⟨_, rfl, ?_⟩
              have hp404 := hp357.madeQ hp400
              simp only [List.cons_append, List.nil_append] at hp404
              refine OPS.batch 1 {} [] [12, 17, 20] [.int .i64 e355, .int .i64 m354, .slice a401 n402 c403] .nil (by kernel_rfl) (fun b405 => ?_)
              refine OPS.nil ?_
              refine thn_n ?_
              refine WP.seq ?_
              refine WP.seq ?_
              refine WP.pure {} [] [12, 17, 20, 135] [.int .i64 e355, .int .i64 m354, .slice a401 n402 c403, .bool (decide (4096 < ((n402 : Nat) : Int)))] .nil (by kernel_rfl) (fun b406 => ?_)
              refine thn_n ?_
              refine WP.test (p := 4096 < ((n402 : Nat) : Int)) rfl Bp.dec (fun h407 => ?_) (fun h407 => ?_)
              · refine WP.cut (fun e417 w418 => ∃ (x415 : Bool), (True) ∧ Bp x415 ((e355 = 2) ∧ (m354 = 0)) ∧ List.map e417 [4] = [.bool x415] ∧ Hp w Non [Res.own 9 1 (.slice a401 n402 c403) n402 (List.flatMap strc (linesB text)), Res.own 29 6 (.slice a348 n349 c350) n349 (List.flatMap GStep.cells cl351), Res.sv F352 cl351 xs353, Res.own 29 6 (.slice ao no co) no (List.flatMap GStep.cells c2), Res.sv F c2 x2] w418) ?_ ?_
                · obtain ⟨_, hz1, hz2⟩ := hcs.resolve_right (fun q => absurd q.1 (by omega))
                  refine WP.region _ rfl (by kernel_rfl) ?_
                  refine OPS.batch 3 {} [] [17, 138] [.int .i64 m354, .bool (decide (e355 = 2))] .nil (by kernel_rfl) (fun b409 => ?_)
                  by_cases h410 : e355 = 2
                  · refine OPS.batch 0 {} [] [17, 138] [.int .i64 m354, .bool (decide (e355 = 2))] .nil (by kernel_rfl) (fun b411 => ?_)
                    refine OPS.re [.int .i64 m354, .bool true] (by rw [show (decide (e355 = 2)) = true from Bp.dec.tt h410]) ?_
                    refine OPS.batch 4 { wraps := [141] } [] [4] [.bool (decide (m354 = 0))] .nil (by kernel_rfl) (fun b412 => ?_)
                    refine OPS.nil ?_
                    refine thn_n ?_
                    exact ⟨decide (m354 = 0), trivial, Bp.of Bp.dec (by first | (simp only [h410, iff_false, false_iff, iff_true, true_iff, Classical.not_not, and_true, true_and, and_false, false_and, or_true, true_or, or_false, false_or, not_true_eq_false, not_false_eq_true, and_self, or_self, iff_self]; done) | (simp [h410]; done) | grind | (simp_all; done)), by kernel_rfl, hp404⟩
                  · refine OPS.batch 0 {} [] [17, 138] [.int .i64 m354, .bool (decide (e355 = 2))] .nil (by kernel_rfl) (fun b413 => ?_)
                    refine OPS.re [.int .i64 m354, .bool false] (by rw [show (decide (e355 = 2)) = false from Bp.dec.ff h410]) ?_
                    refine OPS.batch 4 { wraps := [141] } [] [4] [.bool false] .nil (by kernel_rfl) (fun b414 => ?_)
                    refine OPS.nil ?_
                    refine thn_n ?_
                    exact ⟨false, trivial, Bp.of Bp.f (by first | (simp only [h410, iff_false, false_iff, iff_true, true_iff, Classical.not_not, and_true, true_and, and_false, false_and, or_true, true_or, or_false, false_or, not_true_eq_false, not_false_eq_true, and_self, or_self, iff_self]; done) | (simp [h410]; done) | grind | (simp_all; done)), by kernel_rfl, hp404⟩
                rintro e417 w418 ⟨x415, hd420, hb416, hE421, hp419⟩
                obtain ⟨b422, rfl⟩ := toMk hE421
                clear hE421
                clear hd420
                refine WP.ret ?_
                refine thn_r ?_
                refine bodyQ.of _ rfl [.bool x415] ⟨rfl, trivial⟩ ?_
                exact ⟨congrArg (fun b => Ending.returned (.bool b)) (Bp.tt hb416 (by first | omega | (simp; done) | exact hte2 | exact ⟨⟨rfl, rfl⟩, hte2⟩ | (simp_all; done))), hp419.fr⟩
              · refine WP.skip ?_
                refine thn_n ?_
                refine WP.seq ?_
                refine WP.cut (fun e437 w438 => ∃ (x435 : Bool), (True) ∧ Bp x435 (((¬ (e355 = 82))) ∨ ((e355 = 82) ∧ (m354 < 0)) ∨ ((e355 = 82) ∧ (¬ (m354 < 0)) ∧ (((n402 : Nat) : Int) ≤ m354))) ∧ List.map e437 [17, 20, 153] = [.int .i64 m354, .slice a401 n402 c403, .bool x435] ∧ Hp w Non [Res.own 9 1 (.slice a401 n402 c403) n402 (List.flatMap strc (linesB text)), Res.own 29 6 (.slice a348 n349 c350) n349 (List.flatMap GStep.cells cl351), Res.sv F352 cl351 xs353, Res.own 29 6 (.slice ao no co) no (List.flatMap GStep.cells c2), Res.sv F c2 x2] w438) ?_ ?_
                · obtain ⟨hle9, hq82, hn09, hnl9, hnl, hgood⟩ := hcs.resolve_left (fun q => absurd q.1 (by omega))
                  refine WP.region _ rfl (by kernel_rfl) ?_
                  refine OPS.batch 3 {} [] [17, 20, 144] [.int .i64 m354, .slice a401 n402 c403, .bool (decide (¬ (e355 = 82)))] .nil (by kernel_rfl) (fun b424 => ?_)
                  by_cases h425 : e355 = 82
                  · refine OPS.batch 0 {} [] [17, 20, 144] [.int .i64 m354, .slice a401 n402 c403, .bool (decide (¬ (e355 = 82)))] .nil (by kernel_rfl) (fun b428 => ?_)
                    refine OPS.re [.int .i64 m354, .slice a401 n402 c403, .bool false] (by rw [show (decide (¬ (e355 = 82))) = false from Bp.dec.ff (fun k => k h425)]) ?_
                    refine OPS.batch 4 { wraps := [147] } [] [17, 20, 148] [.int .i64 m354, .slice a401 n402 c403, .bool (decide (m354 < 0))] .nil (by kernel_rfl) (fun b429 => ?_)
                    by_cases h430 : m354 < 0
                    · refine OPS.batch 0 {} [] [17, 20, 148] [.int .i64 m354, .slice a401 n402 c403, .bool (decide (m354 < 0))] .nil (by kernel_rfl) (fun b431 => ?_)
                      refine OPS.re [.int .i64 m354, .slice a401 n402 c403, .bool true] (by rw [show (decide (m354 < 0)) = true from Bp.dec.tt h430]) ?_
                      refine OPS.batch 5 { wraps := [153] } [] [17, 20, 153] [.int .i64 m354, .slice a401 n402 c403, .bool true] .nil (by kernel_rfl) (fun b432 => ?_)
                      refine OPS.nil ?_
                      refine thn_n ?_
                      exact ⟨true, trivial, Bp.of Bp.t (by first | (simp only [h425, h430, iff_false, false_iff, iff_true, true_iff, Classical.not_not, and_true, true_and, and_false, false_and, or_true, true_or, or_false, false_or, not_true_eq_false, not_false_eq_true, and_self, or_self, iff_self]; done) | (simp [h425, h430]; done) | grind | (simp_all; done)), by kernel_rfl, hp404⟩
                    · refine OPS.batch 0 {} [] [17, 20, 148] [.int .i64 m354, .slice a401 n402 c403, .bool (decide (m354 < 0))] .nil (by kernel_rfl) (fun b433 => ?_)
                      refine OPS.re [.int .i64 m354, .slice a401 n402 c403, .bool false] (by rw [show (decide (m354 < 0)) = false from Bp.dec.ff h430]) ?_
                      refine OPS.batch 5 { wraps := [153] } [] [17, 20, 153] [.int .i64 m354, .slice a401 n402 c403, .bool (decide (((n402 : Nat) : Int) ≤ m354))] .nil (by kernel_rfl) (fun b434 => ?_)
                      refine OPS.nil ?_
                      refine thn_n ?_
                      exact ⟨decide (((n402 : Nat) : Int) ≤ m354), trivial, Bp.of Bp.dec (by first | (simp only [h425, h430, iff_false, false_iff, iff_true, true_iff, Classical.not_not, and_true, true_and, and_false, false_and, or_true, true_or, or_false, false_or, not_true_eq_false, not_false_eq_true, and_self, or_self, iff_self]; done) | (simp [h425, h430]; done) | grind | (simp_all; done)), by kernel_rfl, hp404⟩
                  · refine OPS.batch 0 {} [] [17, 20, 144] [.int .i64 m354, .slice a401 n402 c403, .bool (decide (¬ (e355 = 82)))] .nil (by kernel_rfl) (fun b426 => ?_)
                    refine OPS.re [.int .i64 m354, .slice a401 n402 c403, .bool true] (by rw [show (decide (¬ (e355 = 82))) = true from Bp.dec.tt h425]) ?_
                    refine OPS.batch 9 { wraps := [147, 153] } [] [17, 20, 153] [.int .i64 m354, .slice a401 n402 c403, .bool true] .nil (by kernel_rfl) (fun b427 => ?_)
                    refine OPS.nil ?_
                    refine thn_n ?_
                    exact ⟨true, trivial, Bp.of Bp.t (by first | (simp only [h425, iff_false, false_iff, iff_true, true_iff, Classical.not_not, and_true, true_and, and_false, false_and, or_true, true_or, or_false, false_or, not_true_eq_false, not_false_eq_true, and_self, or_self, iff_self]; done) | (simp [h425]; done) | grind | (simp_all; done)), by kernel_rfl, hp404⟩
                rintro e437 w438 ⟨x435, hd440, hb436, hE441, hp439⟩
                obtain ⟨b442, rfl⟩ := toMk hE441
                clear hE441
                clear hd440
                refine WP.test (p := ((¬ (e355 = 82))) ∨ ((e355 = 82) ∧ (m354 < 0)) ∨ ((e355 = 82) ∧ (¬ (m354 < 0)) ∧ (((n402 : Nat) : Int) ≤ m354))) rfl hb436 (fun h443 => ?_) (fun h443 => ?_)
                · refine WP.seq ?_
                  refine WP.pure {} [] [4] [.bool false] .nil (by kernel_rfl) (fun b444 => ?_)
                  refine thn_n ?_
                  refine WP.ret ?_
                  refine thn_r ?_
                  refine bodyQ.of _ rfl [.bool false] ⟨rfl, trivial⟩ ?_
                  exfalso
                  have h_ := h443
                  first | exact h_ hge9 | omega | (simp at h_; done) | (simp_all; done) | grind
                · refine WP.skip ?_
                  refine thn_n ?_
                  refine WP.seq ?_
                  obtain ⟨hle9, hq82, hn09, hnl9, hnl, hgood⟩ := hcs.resolve_left (fun q => absurd q.1 (by omega))
                  have hlno : ∀ c ∈ ((linesB text)[(m354 : Int).toNat]!).data.toList, c ≠ 10 := by rw [getElem!_pos _ _ (by omega)]; exact linesB_no (List.getElem_mem _)
                  have hlsz : ((linesB text)[(m354 : Int).toNat]!).size ≤ 1048576 := by rw [getElem!_pos _ _ (by omega)]; exact Nat.le_trans (linesB_size (List.getElem_mem _)) hts
                  refine WP.region _ rfl (by kernel_rfl) ?_
                  have hy448 : ((linesB text))[(m354 : Int).toNat]? = some (linesB text)[(m354 : Int).toNat]! := get_bang (by first | (first | omega | (simp only [ByteArray.size_append]; omega)) | (simp only [List.length_append, List.length_cons, List.length_nil]; omega) | (simp only [List.length_take, List.length_append, List.length_cons, List.length_nil]; omega))
                  refine OPS.batch 5 {} [.string ((linesB text)[(m354 : Int).toNat]!)] [17, 20, 159] [.int .i64 m354, .slice a401 n402 c403, .string (((linesB text)[(m354 : Int).toNat]!) ++ (⟨#[10]⟩ : ByteArray))] (.cons (show InB (m354) (n402) from ⟨by first | omega | (simp only [ByteArray.size_append]; omega), by first | omega | (simp only [ByteArray.size_append]; omega)⟩) (.cons ((SlR.own hp439.get0).some (by first | omega | (simp only [ByteArray.size_append]; omega))) (.cons (Ld.add0 (Ld.el1 (P := Tryd.prog) (t := 9) (SlR.own hp439.get0).rd 1 (fun _ => rfl) hy448 (o := 0) (v := .string ((linesB text)[(m354 : Int).toNat]!)) (by kernel_rfl))) (.cons (show ((linesB text)[(m354 : Int).toNat]!).size + (⟨#[10]⟩ : ByteArray).size ≤ 9223372036854775807 from by first | omega | (simp only [ByteArray.size_append]; omega)) .nil)))) (by kernel_rfl) (fun b449 => ?_)
                  refine OPS.cons (opStep.call (some 160) [.string (((linesB text)[(m354 : Int).toNat]!) ++ (⟨#[10]⟩ : ByteArray))] (by kernel_rfl) (sc_Parse (((linesB text)[(m354 : Int).toNat]!) ++ (⟨#[10]⟩ : ByteArray)) (by rw [ByteArray.size_append]; have : (⟨#[10]⟩ : ByteArray).size = 1 := rfl; omega) (fun x hx => by have h_ := linesB_size hx; rw [ByteArray.size_append] at h_; have : (⟨#[10]⟩ : ByteArray).size = 1 := rfl; omega) _ (hls.fram hp439.fr)) ?_)
                  rintro _ w452 ⟨a454, n455, c456, cl457, F458, xs459, m460, e461, rfl, hq462, hp453⟩
                  have hq462a := own_flat (f := GStep.cells) (sz := 6) (fun _ => rfl) (by decide) hp453.get0
                  have hq462b := hp453.get1.1
                  refine ⟨_, rfl, ?_⟩
                  have hp463 := hp439.madeQ hp453
                  simp only [List.cons_append, List.nil_append] at hp463
                  obtain rfl := hq462.one_bad hlno hnl
                  refine OPS.batch 7 {} [] [17, 20, 23] [.int .i64 m354, .slice a401 n402 c403, .int .i64 82] .nil (by kernel_rfl) (fun b466 => ?_)
                  refine OPS.nil ?_
                  refine thn_n ?_
                  refine WP.seq ?_
                  refine WP.pure {} [] [17, 20, 23, 24] [.int .i64 m354, .slice a401 n402 c403, .int .i64 82, .string ⟨#[]⟩] .nil (by kernel_rfl) (fun b467 => ?_)
                  refine thn_n ?_
                  refine WP.seq ?_
                  refine WP.seq ?_
                  refine WP.pure {} [] [23, 24, 166, 167, 168] [.int .i64 82, .string ⟨#[]⟩, .slice a401 ((m354 : Int).toNat) c403, .int .i64 (((m354 : Int).toNat : Nat) : Int), .int .i64 0] (.cons (show (0 : Int) ≤ m354 ∧ m354 ≤ ((c403 : Nat) : Int) from ⟨by first | omega | (simp only [ByteArray.size_append]; omega), by first | omega | (simp only [ByteArray.size_append]; omega)⟩) .nil) (by kernel_rfl) (fun b468 => ?_)
                  refine thn_n ?_
                  refine WP.block ?_
                  refine WP.loop (fun mz_ e469 w470 => ∃ (j : Nat) (fr : ByteArray), mz_ = m354.toNat - j ∧ (j ≤ m354.toNat ∧ fr = frontB ((linesB text).take j) ∧ fr.size ≤ j * 1048577) ∧ List.map e469 [23, 24, 166, 167, 168] = [.int .i64 82, .string fr, .slice a401 ((m354 : Int).toNat) c403, .int .i64 (((m354 : Int).toNat : Nat) : Int), .int .i64 (j : Int)] ∧ Hp w Non [Res.own 29 6 (.slice a454 n455 c456) n455 (List.flatMap GStep.cells cl457), Res.sv F458 cl457 xs459, Res.own 9 1 (.slice a401 n402 c403) n402 (List.flatMap strc (linesB text)), Res.own 29 6 (.slice a348 n349 c350) n349 (List.flatMap GStep.cells cl351), Res.sv F352 cl351 xs353, Res.own 29 6 (.slice ao no co) no (List.flatMap GStep.cells c2), Res.sv F c2 x2] w470) (m354.toNat - (0)) ⟨0, (⟨#[]⟩ : ByteArray), rfl, ⟨by omega, rfl, by decide⟩, by kernel_rfl, hp463⟩ ?_
                  rintro _ e469 w470 ⟨j, fr, rfl, hI472, hE473, hp471⟩
                  obtain ⟨b474, rfl⟩ := toMk hE473
                  clear hE473
                  obtain ⟨fa, hfr, fc⟩ := hI472
                  have hlj : j < (linesB text).length → (linesB text)[j]!.size ≤ 1048576 := fun q => by rw [getElem!_pos _ j q]; exact Nat.le_trans (linesB_size (List.getElem_mem q)) hts
                  have htk : (List.take m354.toNat (linesB text)).length = m354.toNat := by rw [List.length_take]; omega
                  have htj : j < m354.toNat → (List.take m354.toNat (linesB text))[j]!.size ≤ 1048576 := fun q => by rw [getElem!_pos _ j (by omega), List.getElem_take, ← getElem!_pos _ j (by omega)]; exact hlj (by omega)
                  refine WP.seq ?_
                  refine WP.pure {} [] [23, 24, 166, 167, 168, 169] [.int .i64 82, .string fr, .slice a401 ((m354 : Int).toNat) c403, .int .i64 (((m354 : Int).toNat : Nat) : Int), .int .i64 (j : Int), .bool (decide ((j : Int) < (((m354 : Int).toNat : Nat) : Int)))] .nil (by kernel_rfl) (fun b475 => ?_)
                  refine thn_n ?_
                  refine WP.seq ?_
                  refine WP.test (p := (j : Int) < (((m354 : Int).toNat : Nat) : Int)) rfl Bp.dec (fun h476 => ?_) (fun h476 => ?_)
                  · refine WP.skip ?_
                    refine thn_n ?_
                    refine WP.seq ?_
                    refine WP.block ?_
                    refine WP.seq ?_
                    have hy478 : (List.take ((m354 : Int).toNat) (linesB text))[j]? = some (List.take ((m354 : Int).toNat) (linesB text))[j]! := get_bang (by first | (first | omega | (simp only [ByteArray.size_append]; omega)) | (simp only [List.length_append, List.length_cons, List.length_nil]; omega) | (simp only [List.length_take, List.length_append, List.length_cons, List.length_nil]; omega))
                    refine WP.pure {} [.string ((List.take ((m354 : Int).toNat) (linesB text))[j]!)] [23, 24, 26, 166, 167, 168] [.int .i64 82, .string fr, .string ((List.take ((m354 : Int).toNat) (linesB text))[j]!), .slice a401 ((m354 : Int).toNat) c403, .int .i64 (((m354 : Int).toNat : Nat) : Int), .int .i64 (j : Int)] (.cons (show InB ((j : Int)) ((m354 : Int).toNat) from ⟨by first | omega | (simp only [ByteArray.size_append]; omega), by first | omega | (simp only [ByteArray.size_append]; omega)⟩) (.cons ((slr_take (k := (m354 : Int).toNat) (sz := 1) (fun _ => rfl) (SlR.own hp471.get2) (by first | omega | (simp only [ByteArray.size_append]; omega))).some (by first | omega | (simp only [ByteArray.size_append]; omega))) (.cons (Ld.add0 (Ld.el1 (P := Tryd.prog) (t := 9) (slr_take (k := (m354 : Int).toNat) (sz := 1) (fun _ => rfl) (SlR.own hp471.get2) (by first | omega | (simp only [ByteArray.size_append]; omega))).rd 1 (fun _ => rfl) hy478 (o := 0) (v := .string ((List.take ((m354 : Int).toNat) (linesB text))[j]!)) (by kernel_rfl))) .nil))) (by kernel_rfl) (fun b479 => ?_)
                    refine thn_n ?_
                    refine WP.pure {} [] [23, 24, 166, 167, 168] [.int .i64 82, .string (fr ++ (((List.take ((m354 : Int).toNat) (linesB text))[j]!) ++ (⟨#[10]⟩ : ByteArray))), .slice a401 ((m354 : Int).toNat) c403, .int .i64 (((m354 : Int).toNat : Nat) : Int), .int .i64 (j : Int)] (.cons (show ((List.take ((m354 : Int).toNat) (linesB text))[j]!).size + (⟨#[10]⟩ : ByteArray).size ≤ 9223372036854775807 from by first | omega | (simp only [ByteArray.size_append]; omega)) (.cons (show fr.size + (((List.take ((m354 : Int).toNat) (linesB text))[j]!) ++ (⟨#[10]⟩ : ByteArray)).size ≤ 9223372036854775807 from by first | omega | (simp only [ByteArray.size_append]; omega)) .nil)) (by kernel_rfl) (fun b480 => ?_)
                    refine blk_n ?_
                    refine thn_n ?_
                    refine WP.pure {} [] [23, 24, 166, 167, 168] [.int .i64 82, .string (fr ++ (((List.take ((m354 : Int).toNat) (linesB text))[j]!) ++ (⟨#[10]⟩ : ByteArray))), .slice a401 ((m354 : Int).toNat) c403, .int .i64 (((m354 : Int).toNat : Nat) : Int), .int .i64 ((j : Int) + 1)] (.cons (show Rng .i64 ((j : Int) + 1) from Rng.i64 (by first | omega | (simp only [ByteArray.size_append]; omega))) .nil) (by kernel_rfl) (fun b481 => ?_)
                    refine thn_n ?_
                    exact ⟨m354.toNat - (j + 1), (by omega), j + 1, fr ++ (((List.take ((m354 : Int).toNat) (linesB text))[j]!) ++ (⟨#[10]⟩ : ByteArray)), rfl, ⟨by omega, by rw [hfr, ← front_step (by omega)]; congr 2; rw [getElem!_pos _ j (by omega), List.getElem_take, ← getElem!_pos _ j (by omega)], by simp only [ByteArray.size_append]; omega⟩, by kernel_rfl, hp471⟩
                  · refine WP.exit ?_
                    refine thn_x ?_
                    refine thn_x ?_
                    refine blk_hit ?_
                    refine thn_n ?_
                    refine WP.seq ?_
                    have hjm : j = m354.toNat := by omega
                    rw [hjm] at hfr
                    refine WP.region _ rfl (by kernel_rfl) ?_
                    refine OPS.batch 1 {} [] [23, 178] [.int .i64 82, .string fr] .nil (by kernel_rfl) (fun b482 => ?_)
                    refine OPS.cons (opStep.call (some 179) [.string fr] (by kernel_rfl) (sc_Parse fr (by omega) (fun x hx => by have h_ := linesB_size hx; omega) _ (hls.fram hp471.fr)) ?_)
                    rintro _ w485 ⟨a487, n488, c489, cl490, F491, xs492, m493, e494, rfl, hq495, hp486⟩
                    have hq495a := own_flat (f := GStep.cells) (sz := 6) (fun _ => rfl) (by decide) hp486.get0
                    have hq495b := hp486.get1.1
                    refine ⟨_, rfl, ?_⟩
                    have hp496 := hp471.madeQ hp486
                    simp only [List.cons_append, List.nil_append] at hp496
                    have hfl : linesB fr = (linesB text).take m354.toNat := by rw [hfr]; exact front_lines fun l hl => linesB_no (List.mem_of_mem_take hl)
                    obtain rfl := hq495.all (by rw [hfl, List.length_take]; omega) (fun i hi => by rw [hfl, List.length_take] at hi; rw [hfl, getElem!_pos _ i (by rw [List.length_take]; omega), List.getElem_take]; have h_ := hgood i (by omega); rwa [getElem!_pos _ i (by omega)] at h_)
                    refine OPS.batch 7 {} [] [23, 29] [.int .i64 82, .int .i64 0] .nil (by kernel_rfl) (fun b499 => ?_)
                    refine OPS.nil ?_
                    refine thn_n ?_
                    refine WP.seq ?_
                    refine WP.pure { wraps := [188] } [] [4] [.bool true] .nil (by kernel_rfl) (fun b500 => ?_)
                    refine thn_n ?_
                    refine WP.ret ?_
                    refine bodyQ.of _ rfl [.bool true] ⟨rfl, trivial⟩ ?_
                    exact ⟨rfl, hp496.fr⟩

end Go.Proofs.YthplgcnoaholaajDoor.K
