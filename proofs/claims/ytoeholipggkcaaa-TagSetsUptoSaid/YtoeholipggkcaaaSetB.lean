/- The walks of SetB: what each function computes. -/
import Derived.Test.YtoeholipggkcaaaProg
import Derived.Test.YtoeholipggkcaaaCoreO
import Derived.Test.YtoeholipggkcaaaSetA
namespace Go.Proofs.Ytoeholipggkcaaa.K
open Go Go.Proofs Go.RowKit
set_option linter.unusedVariables false
set_option linter.unusedSimpArgs false
set_option maxRecDepth 20000
set_option maxHeartbeats 4000000

theorem find_1 (xs : List GTag) (a : Option Addr) (n c sb p1 p2 p3 i : Nat) (t : GTag) (w : World) (hn : n = xs.length) (hi : i < n) (hb : xs.length ≤ 8796093022207) (hx : SlR w a n (xs.flatMap GTag.cells)) (hs : (Res.row sb [.slice a n c] 52).holds w) (h1 : (Res.row p1 [.func (.func 18) #[] #[]] 49).holds w) (h2 : (Res.row p2 [.pointer (some ⟨sb, 0, none⟩)] 24).holds w) (h3 : (Res.row p3 t.cells 29).holds w) :
    Calls Try.prog 29 #[.int .i64 (i : Int), .pointer (some ⟨p1, 0, none⟩), .pointer (some ⟨p2, 0, none⟩), .pointer (some ⟨p3, 0, none⟩)] w (fun r_ w' => ∃ f_, r_ = .returned (.bool f_) ∧ Bp f_ (0 ≤ tagCmp xs[i]! t) ∧ Fram Non w w') := by
  refine calls_of Try.func29 rfl 17 rfl (by simp) ?_
  have hp0 := Hp.init w
  have he0 : List.map (env0 [.int .i64 (i : Int), .pointer (some ⟨p1, 0, none⟩), .pointer (some ⟨p2, 0, none⟩), .pointer (some ⟨p3, 0, none⟩)]) [0, 1, 2, 3] = [.int .i64 (i : Int), .pointer (some ⟨p1, 0, none⟩), .pointer (some ⟨p2, 0, none⟩), .pointer (some ⟨p3, 0, none⟩)] := by kernel_rfl
  obtain ⟨b0, he0⟩ := toMk he0
  rw [he0]
  clear he0
  refine WP.seq ?_
  refine WP.pure {} [] [0, 1, 2, 3] [.int .i64 (i : Int), .pointer (some ⟨p1, 0, none⟩), .pointer (some ⟨p2, 0, none⟩), .pointer (some ⟨p3, 0, none⟩)] .nil (by kernel_rfl) (fun b1 => ?_)
  refine thn_n ?_
  refine WP.seq ?_
  have hp4 := hp0.drew
  refine WP.quiet (fun w2 => Hp w Non [] w2) (by kernel_rfl) hp4 ?_
  have hnehp4 : ∃ wz_, (fun w2 => Hp w Non [] w2) wz_ := ⟨_, hp4⟩
  have hy8 : (xs)[i]? = some xs[i]! := get_bang (by first | (omega) | (simp only [List.length_append, List.length_cons, List.length_nil]; omega) | (simp only [List.length_take, List.length_append, List.length_cons, List.length_nil]; omega))
  refine QOPS.batch 9 {} [.func (.func 18) #[] #[], .pointer (some ⟨sb, 0, none⟩), .slice a n c, GTag.val (xs[i]!), GTag.val t] [6, 13, 14] [.func (.func 18) #[] #[], GTag.val (xs[i]!), GTag.val t] hnehp4 (fun w5 hp6 => QB.mk (.cons (Ld.row1 (P := Try.prog) (t := 49) (o := 0) (v := .func (.func 18) #[] #[]) (row_at h1 hp6.fr) (by kernel_rfl)) (.cons (Ld.row1 (P := Try.prog) (t := 24) (o := 0) (v := .pointer (some ⟨sb, 0, none⟩)) (row_at h2 hp6.fr) (by kernel_rfl)) (.cons (Ld.row1 (P := Try.prog) (t := 22) (o := 0) (v := .slice a n c) (row_at hs hp6.fr) (by kernel_rfl)) (.cons (show InB ((i : Int)) (n) from ⟨by omega, by omega⟩) (.cons ((hx.at hp6).some (by omega)) (.cons (Ld.add0 (Ld.elN (P := Try.prog) (t := 29) (hx.at hp6).rd 2 (fun _ => rfl) hy8 (o := 0) (cs := [.int .i64 (xs[i]!.Count), .int .i64 (xs[i]!.Client)]) (by kernel_rfl))) (.cons (show Ld Try.prog w5 29 ⟨p3, 0, none⟩ (GTag.val t) from Ld.rowN (cs := [.int .i64 t.Count, .int .i64 t.Client]) (row_at h3 hp6.fr) (by kernel_rfl)) .nil))))))) (by kernel_rfl)) (fun b9 => ?_)
  refine QOPS.callV (some 15) [GTag.val (xs[i]!), GTag.val t] rfl (by kernel_rfl) (fun w10 hp11 => (tag_Compare (xs[i]!) t _).mono fun _ _ h => ⟨h.1, hp11.step h.2⟩) ?_
  refine QOPS.batch 2 {} [] [5] [.bool (decide (0 ≤ (tagCmp (xs[i]!) t)))] hnehp4 (fun w12 hp13 => QB.mk .nil (by kernel_rfl)) (fun b14 => ?_)
  refine QOPS.nil (fun w15 hp16 => ?_)
  refine thn_n ?_
  refine WP.ret ?_
  refine bodyQ.of _ rfl [.bool (decide (0 ≤ (tagCmp (xs[i]!) t)))] ⟨rfl, trivial⟩ ?_
  exact ⟨_, rfl, Bp.of Bp.dec (by rfl), hp16.fr⟩

def fndR (xs : List GTag) (t : GTag) (at_ : Nat) (b : Bool) : Prop := at_ ≤ xs.length ∧ (0 < at_ → tagCmp xs[at_ - 1]! t < 0) ∧ (at_ < xs.length → ¬ tagCmp xs[at_]! t < 0) ∧ (b = true ↔ at_ < xs.length ∧ xs[at_]! = t)
theorem tagEq {a b : GTag} : (a = b) = (a.Count = b.Count ∧ a.Client = b.Client) := by cases a; cases b; simp
theorem tag_find (xs : List GTag) (a : Option Addr) (n c sb : Nat) (t : GTag) (w : World) (hn : n = xs.length) (hb : xs.length ≤ 4194304) (hx : SlR w a n (xs.flatMap GTag.cells)) (hs : (Res.row sb [.slice a n c] 52).holds w) :
    Calls Try.prog 17 #[.pointer (some ⟨sb, 0, none⟩), GTag.val t, .func (.func 18) #[] #[]] w (fun r_ w' => ∃ at_ b, r_ = .returned (.tuple #[.int .i64 ((at_ : Nat) : Int), .bool b]) ∧ fndR xs t at_ b ∧ Fram Non w w') := by
  refine calls_of Try.func17 rfl 35 rfl (by simp) ?_
  have hp0 := Hp.init w
  have he0 : List.map (env0 [.pointer (some ⟨sb, 0, none⟩), GTag.val t, .func (.func 18) #[] #[]]) [0, 1, 2] = [.pointer (some ⟨sb, 0, none⟩), GTag.val t, .func (.func 18) #[] #[]] := by kernel_rfl
  obtain ⟨b0, he0⟩ := toMk he0
  rw [he0]
  clear he0
  refine WP.seq ?_
  refine WP.region _ rfl (by kernel_rfl) ?_
  refine OPS.cons (opStep.box hp0 [.pointer (some ⟨sb, 0, none⟩)] (by kernel_rfl) (fun g3 w1 hp2 => ?_))
  refine OPS.cons (opStep.box hp2 [.int .i64 t.Count, .int .i64 t.Client] (by kernel_rfl) (fun g6 w4 hp5 => ?_))
  refine OPS.cons (opStep.box hp5 [.func (.func 18) #[] #[]] (by kernel_rfl) (fun g9 w7 hp8 => ?_))
  refine OPS.batch 2 {} [] [3, 4, 5] [.pointer (some ⟨g3, 0, none⟩), .pointer (some ⟨g6, 0, none⟩), .pointer (some ⟨g9, 0, none⟩)] .nil (by kernel_rfl) (fun b10 => ?_)
  refine OPS.nil ?_
  refine thn_n ?_
  refine WP.seq ?_
  refine WP.region _ rfl (by kernel_rfl) ?_
  refine OPS.batch 6 {} [.pointer (some ⟨sb, 0, none⟩), .slice a n c] [3, 4, 13, 14] [.pointer (some ⟨g3, 0, none⟩), .pointer (some ⟨g6, 0, none⟩), .int .i64 ((n : Nat) : Int), .func (.func 29) #[] #[.pointer (some ⟨g9, 0, none⟩), .pointer (some ⟨g3, 0, none⟩), .pointer (some ⟨g6, 0, none⟩)]] (.cons (Ld.row1 (P := Try.prog) (t := 24) (o := 0) (v := .pointer (some ⟨sb, 0, none⟩)) hp8.get2 (by kernel_rfl)) (.cons (Ld.row1 (P := Try.prog) (t := 22) (o := 0) (v := .slice a n c) (row_at hs hp8.fr) (by kernel_rfl)) .nil)) (by kernel_rfl) (fun b11 => ?_)
  refine OPS.cons (opStep.call (some 15) [.int .i64 ((n : Nat) : Int), .func (.func 29) #[] #[.pointer (some ⟨g9, 0, none⟩), .pointer (some ⟨g3, 0, none⟩), .pointer (some ⟨g6, 0, none⟩)]] (by kernel_rfl) (tag_search n (by omega) 29 #[.pointer (some ⟨g9, 0, none⟩), .pointer (some ⟨g3, 0, none⟩), .pointer (some ⟨g6, 0, none⟩)] (fun i_ => 0 ≤ tagCmp xs[i_]! t) _ ⟨enter_of Try.func29 rfl (by kernel_rfl), fun w_ hf_ i_ hi_ => find_1 xs a n c sb g9 g3 g6 i_ t w_ hn hi_ (by omega) ((hx.fram hp8.fr).fram hf_) (row_at (row_at hs hp8.fr) hf_) (row_at hp8.get0 hf_) (row_at hp8.get2 hf_) (row_at hp8.get1 hf_)⟩) ?_)
  rintro _ w14 ⟨at15, rfl, hq16, hf17⟩
  obtain ⟨hq161, hq162, hq163⟩ := hq16
  refine ⟨_, rfl, ?_⟩
  have hp18 := hp8.step hf17
  refine OPS.batch 1 {} [] [3, 4, 8] [.pointer (some ⟨g3, 0, none⟩), .pointer (some ⟨g6, 0, none⟩), .int .i64 ((at15 : Nat) : Int)] .nil (by kernel_rfl) (fun b19 => ?_)
  refine OPS.nil ?_
  refine thn_n ?_
  refine WP.cut (fun e44 w45 => ∃ (x42 : Bool), (True) ∧ Bp x42 ((((at15 : Nat) : Int) < ((n : Nat) : Int)) ∧ (((xs[at15]!.Count) = t.Count) ∧ ((xs[at15]!.Client) = t.Client))) ∧ List.map e44 [6, 7] = [.int .i64 ((at15 : Nat) : Int), .bool x42] ∧ Hp w Non [Res.row g9 [.func (.func 18) #[] #[]] 49, Res.row g6 [.int .i64 t.Count, .int .i64 t.Client] 29, Res.row g3 [.pointer (some ⟨sb, 0, none⟩)] 24] w45) ?_ ?_
  · have hp23 := hp18.drew
    refine WP.quiet (fun w21 => Hp w Non [Res.row g9 [.func (.func 18) #[] #[]] 49, Res.row g6 [.int .i64 t.Count, .int .i64 t.Client] 29, Res.row g3 [.pointer (some ⟨sb, 0, none⟩)] 24] w21) (by kernel_rfl) hp23 ?_
    have hnehp23 : ∃ wz_, (fun w21 => Hp w Non [Res.row g9 [.func (.func 18) #[] #[]] 49, Res.row g6 [.int .i64 t.Count, .int .i64 t.Client] 29, Res.row g3 [.pointer (some ⟨sb, 0, none⟩)] 24] w21) wz_ := ⟨_, hp23⟩
    refine QOPS.batch 9 {} [.pointer (some ⟨sb, 0, none⟩), .slice a n c] [3, 4, 8, 16, 24] [.pointer (some ⟨g3, 0, none⟩), .pointer (some ⟨g6, 0, none⟩), .int .i64 ((at15 : Nat) : Int), .int .i64 ((at15 : Nat) : Int), .bool (decide (((at15 : Nat) : Int) < ((n : Nat) : Int)))] hnehp23 (fun w24 hp25 => QB.mk (.cons (Ld.row1 (P := Try.prog) (t := 24) (o := 0) (v := .pointer (some ⟨sb, 0, none⟩)) hp25.get2 (by kernel_rfl)) (.cons (Ld.row1 (P := Try.prog) (t := 22) (o := 0) (v := .slice a n c) (row_at hs hp25.fr) (by kernel_rfl)) .nil)) (by kernel_rfl)) (fun b26 => ?_)
    by_cases h27 : ((at15 : Nat) : Int) < ((n : Nat) : Int)
    · refine QOPS.batch 0 {} [] [3, 4, 8, 16, 24] [.pointer (some ⟨g3, 0, none⟩), .pointer (some ⟨g6, 0, none⟩), .int .i64 ((at15 : Nat) : Int), .int .i64 ((at15 : Nat) : Int), .bool (decide (((at15 : Nat) : Int) < ((n : Nat) : Int)))] hnehp23 (fun _ _ => QB.mk .nil (by kernel_rfl)) (fun b28 => ?_)
      refine QOPS.re [.pointer (some ⟨g3, 0, none⟩), .pointer (some ⟨g6, 0, none⟩), .int .i64 ((at15 : Nat) : Int), .int .i64 ((at15 : Nat) : Int), .bool true] (by rw [show (decide (((at15 : Nat) : Int) < ((n : Nat) : Int))) = true from Bp.dec.tt h27]) ?_
      have hy32 : (xs)[at15]? = some xs[at15]! := get_bang (by first | (omega) | (simp only [List.length_append, List.length_cons, List.length_nil]; omega) | (simp only [List.length_take, List.length_append, List.length_cons, List.length_nil]; omega))
      refine QOPS.batch 12 { wraps := [34] } [.pointer (some ⟨sb, 0, none⟩), .slice a n c, GTag.val (xs[at15]!), GTag.val t] [6, 7] [.int .i64 ((at15 : Nat) : Int), .bool ((decide ((xs[at15]!.Count) = t.Count)) && ((decide ((xs[at15]!.Client) = t.Client)) && true))] hnehp23 (fun w29 hp30 => QB.mk (.cons (Ld.row1 (P := Try.prog) (t := 24) (o := 0) (v := .pointer (some ⟨sb, 0, none⟩)) hp30.get2 (by kernel_rfl)) (.cons (Ld.row1 (P := Try.prog) (t := 22) (o := 0) (v := .slice a n c) (row_at hs hp30.fr) (by kernel_rfl)) (.cons (show InB (((at15 : Nat) : Int)) (n) from ⟨by omega, by omega⟩) (.cons ((hx.at hp30).some (by omega)) (.cons (Ld.add0 (Ld.elN (P := Try.prog) (t := 29) (hx.at hp30).rd 2 (fun _ => rfl) hy32 (o := 0) (cs := [.int .i64 (xs[at15]!.Count), .int .i64 (xs[at15]!.Client)]) (by kernel_rfl))) (.cons (show Ld Try.prog w29 29 ⟨g6, 0, none⟩ (GTag.val t) from Ld.rowN (cs := [.int .i64 t.Count, .int .i64 t.Client]) hp30.get1 (by kernel_rfl)) .nil)))))) (by kernel_rfl)) (fun b33 => ?_)
      refine QOPS.nil (fun w34 hp35 => ?_)
      refine thn_n ?_
      exact ⟨(decide ((xs[at15]!.Count) = t.Count)) && ((decide ((xs[at15]!.Client) = t.Client)) && true), trivial, Bp.of (Bp.band Bp.dec (Bp.band1 Bp.dec)) (by first | (simp only [h27, iff_false, false_iff, iff_true, true_iff, Classical.not_not, and_true, true_and, and_false, false_and, or_true, true_or, or_false, false_or, not_true_eq_false, not_false_eq_true, and_self, or_self, iff_self]; done) | (simp [h27]; done) | grind | (simp_all; done)), by kernel_rfl, hp35⟩
    · refine QOPS.batch 0 {} [] [3, 4, 8, 16, 24] [.pointer (some ⟨g3, 0, none⟩), .pointer (some ⟨g6, 0, none⟩), .int .i64 ((at15 : Nat) : Int), .int .i64 ((at15 : Nat) : Int), .bool (decide (((at15 : Nat) : Int) < ((n : Nat) : Int)))] hnehp23 (fun _ _ => QB.mk .nil (by kernel_rfl)) (fun b36 => ?_)
      refine QOPS.re [.pointer (some ⟨g3, 0, none⟩), .pointer (some ⟨g6, 0, none⟩), .int .i64 ((at15 : Nat) : Int), .int .i64 ((at15 : Nat) : Int), .bool false] (by rw [show (decide (((at15 : Nat) : Int) < ((n : Nat) : Int))) = false from Bp.dec.ff h27]) ?_
      refine QOPS.batch 12 { wraps := [34] } [] [6, 7] [.int .i64 ((at15 : Nat) : Int), .bool false] hnehp23 (fun w37 hp38 => QB.mk .nil (by kernel_rfl)) (fun b39 => ?_)
      refine QOPS.nil (fun w40 hp41 => ?_)
      refine thn_n ?_
      exact ⟨false, trivial, Bp.of Bp.f (by first | (simp only [h27, iff_false, false_iff, iff_true, true_iff, Classical.not_not, and_true, true_and, and_false, false_and, or_true, true_or, or_false, false_or, not_true_eq_false, not_false_eq_true, and_self, or_self, iff_self]; done) | (simp [h27]; done) | grind | (simp_all; done)), by kernel_rfl, hp41⟩
  rintro e44 w45 ⟨x42, hd47, hb43, hE48, hp46⟩
  obtain ⟨b49, rfl⟩ := toMk hE48
  clear hE48
  clear hd47
  refine WP.ret ?_
  refine bodyQ.of _ rfl [.int .i64 ((at15 : Nat) : Int), .bool x42] ⟨rfl, rfl, trivial⟩ ?_
  exact ⟨at15, _, rfl, ⟨by omega, fun h => by have := hq162 h; omega, fun h => by have := hq163 (by omega); omega, by rw [show (_ = true ↔ _) from hb43, tagEq]; first | grind | omega⟩, hp46.fr⟩

end Go.Proofs.Ytoeholipggkcaaa.K
