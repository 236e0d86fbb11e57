/- The walks of OrdY: what each function computes. -/
import Derived.Test.YtdahgdkadfdkeaaProg
import Derived.Test.YtdahgdkadfdkeaaCoreO
import Derived.Test.YtdahgdkadfdkeaaOrdX
import Derived.Test.YtdahgdkadfdkeaaCoreQ
import Derived.Test.YtdahgdkadfdkeaaCoreU
namespace Go.Proofs.Ytdahgdkadfdkeaa.K
open Go Go.Proofs Go.RowKit
set_option linter.unusedVariables false
set_option linter.unusedSimpArgs false
set_option maxRecDepth 20000
set_option maxHeartbeats 4000000

theorem t_expl (l : List GCall) (a : Option Addr) (n c : Nat) (w : World) (hn : n = l.length) (hb : l.length ≤ 8796093022207) (hs : SlR w a n (l.flatMap GCall.cells)) (o : List Int) (ao : Option Addr) (no co : Nat) (hno : no = o.length) (hbo : o.length ≤ 9223372036854775807) (hso : SlR w ao no (List.flatMap (fun (y : Int) => [Go.Value.int .i64 y]) o)) (hv : ∀ y ∈ l, VB w y.Value) (hvn : ∀ y ∈ l, y.Value.n ≤ 8796093022207000) :
    Calls Try.prog 41 #[.slice a n c, .slice ao no co] w (fun r_ w' => ∃ f_, r_ = .returned (.bool f_) ∧ Bp f_ (exP w l o) ∧ Fram Non w w') := by
  refine calls_of Try.func41 rfl 118 rfl (by simp) ?_
  have hp0 := Hp.init w
  have he0 : List.map (env0 [.slice a n c, .slice ao no co]) [0, 1] = [.slice a n c, .slice ao no co] := by kernel_rfl
  obtain ⟨b0, he0⟩ := toMk he0
  rw [he0]
  clear he0
  refine WP.seq ?_
  refine WP.pure {} [] [0, 1] [.slice a n c, .slice ao no co] .nil (by kernel_rfl) (fun b1 => ?_)
  refine thn_n ?_
  refine WP.seq ?_
  refine WP.region _ rfl (by kernel_rfl) ?_
  refine OPS.batch 2 {} [] [0, 1, 14] [.slice a n c, .slice ao no co, .int .i64 ((n : Nat) : Int)] .nil (by kernel_rfl) (fun b2 => ?_)
  refine OPS.cons (opStep.makeSlice (f := (fun y => [.int .i64 y])) (E := 3) (sz := 1) (bytes := 8) (n := n) (0 : Int) hp0 (by kernel_rfl) (by decide) (by kernel_rfl) (by omega) (by unfold maxLen; omega) (fun g5 w3 hp4 => ?_))
  refine OPS.batch 1 {} [] [0, 1, 5] [.slice a n c, .slice ao no co, .slice (some ⟨g5, 0, none⟩) n n] .nil (by kernel_rfl) (fun b6 => ?_)
  refine OPS.nil ?_
  refine thn_n ?_
  refine WP.seq ?_
  refine WP.seq ?_
  refine WP.pure {} [] [0, 1, 5, 16, 17, 18] [.slice a n c, .slice ao no co, .slice (some ⟨g5, 0, none⟩) n n, .slice ao no co, .int .i64 ((no : Nat) : Int), .int .i64 0] .nil (by kernel_rfl) (fun b7 => ?_)
  refine thn_n ?_
  refine WP.block ?_
  refine WP.loop (fun mz_ e8 w9 => ∃ (k : Nat) (al : List Int), mz_ = o.length - k ∧ (k ≤ o.length ∧ atQ l o k al ∧ ∀ j, j < k → okX l o j) ∧ List.map e8 [0, 1, 5, 16, 17, 18] = [.slice a n c, .slice ao no co, .slice (some ⟨g5, 0, none⟩) n n, .slice ao no co, .int .i64 ((no : Nat) : Int), .int .i64 (k : Int)] ∧ Hp w Non [Res.own 3 1 (.slice (some ⟨g5, 0, none⟩) n n) n (List.flatMap (fun y => [.int .i64 y]) al)] w9) (o.length - (0)) ⟨0, List.replicate n 0, rfl, ⟨by omega, atQ_start n hn, fun j hj => by omega⟩, by kernel_rfl, hp4⟩ ?_
  rintro _ e8 w9 ⟨k, al, rfl, hI11, hE12, hp10⟩
  obtain ⟨b13, rfl⟩ := toMk hE12
  clear hE12
  obtain ⟨pa, pq, pk⟩ := hI11
  have pl := pq.1
  refine WP.seq ?_
  refine WP.pure {} [] [0, 1, 5, 16, 17, 18, 19] [.slice a n c, .slice ao no co, .slice (some ⟨g5, 0, none⟩) n n, .slice ao no co, .int .i64 ((no : Nat) : Int), .int .i64 (k : Int), .bool (decide ((k : Int) < ((no : Nat) : Int)))] .nil (by kernel_rfl) (fun b14 => ?_)
  refine thn_n ?_
  refine WP.seq ?_
  refine WP.test (p := (k : Int) < ((no : Nat) : Int)) rfl Bp.dec (fun h15 => ?_) (fun h15 => ?_)
  · refine WP.skip ?_
    refine thn_n ?_
    refine WP.seq ?_
    refine WP.block ?_
    refine WP.seq ?_
    have hy17 : (o)[k]? = some o[k]! := get_bang (by first | (omega) | (simp only [List.length_append, List.length_cons, List.length_nil]; omega) | (simp only [List.length_take, List.length_append, List.length_cons, List.length_nil]; omega))
    refine WP.pure {} [.int .i64 (o[k]!)] [0, 1, 5, 6, 7, 16, 17, 18] [.slice a n c, .slice ao no co, .slice (some ⟨g5, 0, none⟩) n n, .int .i64 (k : Int), .int .i64 (o[k]!), .slice ao no co, .int .i64 ((no : Nat) : Int), .int .i64 (k : Int)] (.cons (show InB ((k : Int)) (no) from ⟨by omega, by omega⟩) (.cons ((hso.at hp10).some (by omega)) (.cons (Ld.add0 (Ld.el1 (P := Try.prog) (t := 3) (hso.at hp10).rd 1 (fun _ => rfl) hy17 (o := 0) (v := .int .i64 (o[k]!)) (by kernel_rfl))) .nil))) (by kernel_rfl) (fun b18 => ?_)
    refine thn_n ?_
    refine WP.seq ?_
    refine WP.cut (fun e48 w49 => ∃ (x46 : Bool), (True) ∧ Bp x46 ((((o[k]!) < 0)) ∨ ((¬ ((o[k]!) < 0)) ∧ (((n : Nat) : Int) ≤ (o[k]!))) ∨ ((¬ ((o[k]!) < 0)) ∧ (¬ (((n : Nat) : Int) ≤ (o[k]!))) ∧ (0 < (al[(o[k]! : Int).toNat]!))) ∨ ((¬ ((o[k]!) < 0)) ∧ (¬ (((n : Nat) : Int) ≤ (o[k]!))) ∧ (¬ (0 < (al[(o[k]! : Int).toNat]!))) ∧ ((partI (l[(o[k]! : Int).toNat]!)) = 0))) ∧ List.map e48 [0, 1, 5, 6, 7, 16, 17, 18, 45] = [.slice a n c, .slice ao no co, .slice (some ⟨g5, 0, none⟩) n n, .int .i64 (k : Int), .int .i64 (o[k]!), .slice ao no co, .int .i64 ((no : Nat) : Int), .int .i64 (k : Int), .bool x46] ∧ Hp w Non [Res.own 3 1 (.slice (some ⟨g5, 0, none⟩) n n) n (List.flatMap (fun y => [.int .i64 y]) al)] w49) ?_ ?_
    · refine WP.region _ rfl (by kernel_rfl) ?_
      refine OPS.batch 3 {} [] [0, 1, 5, 6, 7, 16, 17, 18, 25] [.slice a n c, .slice ao no co, .slice (some ⟨g5, 0, none⟩) n n, .int .i64 (k : Int), .int .i64 (o[k]!), .slice ao no co, .int .i64 ((no : Nat) : Int), .int .i64 (k : Int), .bool (decide ((o[k]!) < 0))] .nil (by kernel_rfl) (fun b20 => ?_)
      by_cases h21 : (o[k]!) < 0
      · refine OPS.batch 0 {} [] [0, 1, 5, 6, 7, 16, 17, 18, 25] [.slice a n c, .slice ao no co, .slice (some ⟨g5, 0, none⟩) n n, .int .i64 (k : Int), .int .i64 (o[k]!), .slice ao no co, .int .i64 ((no : Nat) : Int), .int .i64 (k : Int), .bool (decide ((o[k]!) < 0))] .nil (by kernel_rfl) (fun b22 => ?_)
        refine OPS.re [.slice a n c, .slice ao no co, .slice (some ⟨g5, 0, none⟩) n n, .int .i64 (k : Int), .int .i64 (o[k]!), .slice ao no co, .int .i64 ((no : Nat) : Int), .int .i64 (k : Int), .bool true] (by rw [show (decide ((o[k]!) < 0)) = true from Bp.dec.tt h21]) ?_
        refine OPS.batch 20 { wraps := [30, 37, 45] } [] [0, 1, 5, 6, 7, 16, 17, 18, 45] [.slice a n c, .slice ao no co, .slice (some ⟨g5, 0, none⟩) n n, .int .i64 (k : Int), .int .i64 (o[k]!), .slice ao no co, .int .i64 ((no : Nat) : Int), .int .i64 (k : Int), .bool true] .nil (by kernel_rfl) (fun b23 => ?_)
        refine OPS.nil ?_
        refine thn_n ?_
        exact ⟨true, trivial, Bp.of Bp.t (by first | (simp only [h21, iff_false, false_iff, iff_true, true_iff, Classical.not_not, and_true, true_and, and_false, false_and, or_true, true_or, or_false, false_or, not_true_eq_false, not_false_eq_true, and_self, or_self, iff_self]; done) | (simp [h21]; done) | grind | (simp_all; done)), by kernel_rfl, hp10⟩
      · refine OPS.batch 0 {} [] [0, 1, 5, 6, 7, 16, 17, 18, 25] [.slice a n c, .slice ao no co, .slice (some ⟨g5, 0, none⟩) n n, .int .i64 (k : Int), .int .i64 (o[k]!), .slice ao no co, .int .i64 ((no : Nat) : Int), .int .i64 (k : Int), .bool (decide ((o[k]!) < 0))] .nil (by kernel_rfl) (fun b24 => ?_)
        refine OPS.re [.slice a n c, .slice ao no co, .slice (some ⟨g5, 0, none⟩) n n, .int .i64 (k : Int), .int .i64 (o[k]!), .slice ao no co, .int .i64 ((no : Nat) : Int), .int .i64 (k : Int), .bool false] (by rw [show (decide ((o[k]!) < 0)) = false from Bp.dec.ff h21]) ?_
        refine OPS.batch 6 { wraps := [30] } [] [0, 1, 5, 6, 7, 16, 17, 18, 31] [.slice a n c, .slice ao no co, .slice (some ⟨g5, 0, none⟩) n n, .int .i64 (k : Int), .int .i64 (o[k]!), .slice ao no co, .int .i64 ((no : Nat) : Int), .int .i64 (k : Int), .bool (decide (((n : Nat) : Int) ≤ (o[k]!)))] .nil (by kernel_rfl) (fun b25 => ?_)
        by_cases h26 : ((n : Nat) : Int) ≤ (o[k]!)
        · refine OPS.batch 0 {} [] [0, 1, 5, 6, 7, 16, 17, 18, 31] [.slice a n c, .slice ao no co, .slice (some ⟨g5, 0, none⟩) n n, .int .i64 (k : Int), .int .i64 (o[k]!), .slice ao no co, .int .i64 ((no : Nat) : Int), .int .i64 (k : Int), .bool (decide (((n : Nat) : Int) ≤ (o[k]!)))] .nil (by kernel_rfl) (fun b27 => ?_)
          refine OPS.re [.slice a n c, .slice ao no co, .slice (some ⟨g5, 0, none⟩) n n, .int .i64 (k : Int), .int .i64 (o[k]!), .slice ao no co, .int .i64 ((no : Nat) : Int), .int .i64 (k : Int), .bool true] (by rw [show (decide (((n : Nat) : Int) ≤ (o[k]!))) = true from Bp.dec.tt h26]) ?_
          refine OPS.batch 14 { wraps := [37, 45] } [] [0, 1, 5, 6, 7, 16, 17, 18, 45] [.slice a n c, .slice ao no co, .slice (some ⟨g5, 0, none⟩) n n, .int .i64 (k : Int), .int .i64 (o[k]!), .slice ao no co, .int .i64 ((no : Nat) : Int), .int .i64 (k : Int), .bool true] .nil (by kernel_rfl) (fun b28 => ?_)
          refine OPS.nil ?_
          refine thn_n ?_
          exact ⟨true, trivial, Bp.of Bp.t (by first | (simp only [h21, h26, iff_false, false_iff, iff_true, true_iff, Classical.not_not, and_true, true_and, and_false, false_and, or_true, true_or, or_false, false_or, not_true_eq_false, not_false_eq_true, and_self, or_self, iff_self]; done) | (simp [h21, h26]; done) | grind | (simp_all; done)), by kernel_rfl, hp10⟩
        · refine OPS.batch 0 {} [] [0, 1, 5, 6, 7, 16, 17, 18, 31] [.slice a n c, .slice ao no co, .slice (some ⟨g5, 0, none⟩) n n, .int .i64 (k : Int), .int .i64 (o[k]!), .slice ao no co, .int .i64 ((no : Nat) : Int), .int .i64 (k : Int), .bool (decide (((n : Nat) : Int) ≤ (o[k]!)))] .nil (by kernel_rfl) (fun b29 => ?_)
          refine OPS.re [.slice a n c, .slice ao no co, .slice (some ⟨g5, 0, none⟩) n n, .int .i64 (k : Int), .int .i64 (o[k]!), .slice ao no co, .int .i64 ((no : Nat) : Int), .int .i64 (k : Int), .bool false] (by rw [show (decide (((n : Nat) : Int) ≤ (o[k]!))) = false from Bp.dec.ff h26]) ?_
          have := own_flat (sz := 1) (fun _ => rfl) (by decide) hp10.get0
          have hy31 : (al)[(o[k]! : Int).toNat]? = some al[(o[k]! : Int).toNat]! := get_bang (by first | (omega) | (simp only [List.length_append, List.length_cons, List.length_nil]; omega) | (simp only [List.length_take, List.length_append, List.length_cons, List.length_nil]; omega))
          refine OPS.batch 7 { wraps := [37] } [.int .i64 (al[(o[k]! : Int).toNat]!)] [0, 1, 5, 6, 7, 16, 17, 18, 38] [.slice a n c, .slice ao no co, .slice (some ⟨g5, 0, none⟩) n n, .int .i64 (k : Int), .int .i64 (o[k]!), .slice ao no co, .int .i64 ((no : Nat) : Int), .int .i64 (k : Int), .bool (decide (0 < (al[(o[k]! : Int).toNat]!)))] (.cons (show InB (o[k]!) (n) from ⟨by omega, by omega⟩) (.cons ((SlR.own (hp10.get0)).some (by omega)) (.cons (Ld.add0 (Ld.el1 (P := Try.prog) (t := 3) (SlR.own (hp10.get0)).rd 1 (fun _ => rfl) hy31 (o := 0) (v := .int .i64 (al[(o[k]! : Int).toNat]!)) (by kernel_rfl))) .nil))) (by kernel_rfl) (fun b32 => ?_)
          by_cases h33 : 0 < (al[(o[k]! : Int).toNat]!)
          · refine OPS.batch 0 {} [] [0, 1, 5, 6, 7, 16, 17, 18, 38] [.slice a n c, .slice ao no co, .slice (some ⟨g5, 0, none⟩) n n, .int .i64 (k : Int), .int .i64 (o[k]!), .slice ao no co, .int .i64 ((no : Nat) : Int), .int .i64 (k : Int), .bool (decide (0 < (al[(o[k]! : Int).toNat]!)))] .nil (by kernel_rfl) (fun b34 => ?_)
            refine OPS.re [.slice a n c, .slice ao no co, .slice (some ⟨g5, 0, none⟩) n n, .int .i64 (k : Int), .int .i64 (o[k]!), .slice ao no co, .int .i64 ((no : Nat) : Int), .int .i64 (k : Int), .bool true] (by rw [show (decide (0 < (al[(o[k]! : Int).toNat]!))) = true from Bp.dec.tt h33]) ?_
            refine OPS.batch 7 { wraps := [45] } [] [0, 1, 5, 6, 7, 16, 17, 18, 45] [.slice a n c, .slice ao no co, .slice (some ⟨g5, 0, none⟩) n n, .int .i64 (k : Int), .int .i64 (o[k]!), .slice ao no co, .int .i64 ((no : Nat) : Int), .int .i64 (k : Int), .bool true] .nil (by kernel_rfl) (fun b35 => ?_)
            refine OPS.nil ?_
            refine thn_n ?_
            exact ⟨true, trivial, Bp.of Bp.t (by first | (simp only [h21, h26, h33, iff_false, false_iff, iff_true, true_iff, Classical.not_not, and_true, true_and, and_false, false_and, or_true, true_or, or_false, false_or, not_true_eq_false, not_false_eq_true, and_self, or_self, iff_self]; done) | (simp [h21, h26, h33]; done) | grind | (simp_all; done)), by kernel_rfl, hp10⟩
          · refine OPS.batch 0 {} [] [0, 1, 5, 6, 7, 16, 17, 18, 38] [.slice a n c, .slice ao no co, .slice (some ⟨g5, 0, none⟩) n n, .int .i64 (k : Int), .int .i64 (o[k]!), .slice ao no co, .int .i64 ((no : Nat) : Int), .int .i64 (k : Int), .bool (decide (0 < (al[(o[k]! : Int).toNat]!)))] .nil (by kernel_rfl) (fun b36 => ?_)
            refine OPS.re [.slice a n c, .slice ao no co, .slice (some ⟨g5, 0, none⟩) n n, .int .i64 (k : Int), .int .i64 (o[k]!), .slice ao no co, .int .i64 ((no : Nat) : Int), .int .i64 (k : Int), .bool false] (by rw [show (decide (0 < (al[(o[k]! : Int).toNat]!))) = false from Bp.dec.ff h33]) ?_
            have hy38 : (l)[(o[k]! : Int).toNat]? = some l[(o[k]! : Int).toNat]! := get_bang (by first | (omega) | (simp only [List.length_append, List.length_cons, List.length_nil]; omega) | (simp only [List.length_take, List.length_append, List.length_cons, List.length_nil]; omega))
            refine OPS.batch 4 {} [GCall.val (l[(o[k]! : Int).toNat]!)] [0, 1, 5, 6, 7, 16, 17, 18, 38, 42] [.slice a n c, .slice ao no co, .slice (some ⟨g5, 0, none⟩) n n, .int .i64 (k : Int), .int .i64 (o[k]!), .slice ao no co, .int .i64 ((no : Nat) : Int), .int .i64 (k : Int), .bool false, GCall.val (l[(o[k]! : Int).toNat]!)] (.cons (show InB (o[k]!) (n) from ⟨by omega, by omega⟩) (.cons ((hs.at hp10).some (by omega)) (.cons (Ld.add0 (Ld.elN (P := Try.prog) (t := 73) (hs.at hp10).rd 11 (fun _ => rfl) hy38 (o := 0) (cs := [.int .i64 (l[(o[k]! : Int).toNat]!.Client), .int .i64 (l[(o[k]! : Int).toNat]!.Op), .bool (l[(o[k]! : Int).toNat]!.Put), .string (l[(o[k]! : Int).toNat]!.Key), .slice (l[(o[k]! : Int).toNat]!.Value.a) (l[(o[k]! : Int).toNat]!.Value.n) (l[(o[k]! : Int).toNat]!.Value.c), .int .i64 (l[(o[k]! : Int).toNat]!.Status), .int .i64 (l[(o[k]! : Int).toNat]!.From), .int .i64 (l[(o[k]! : Int).toNat]!.To), .bool (l[(o[k]! : Int).toNat]!.Open), .int .i64 (l[(o[k]! : Int).toNat]!.Tag.Count), .int .i64 (l[(o[k]! : Int).toNat]!.Tag.Client)]) (by kernel_rfl))) .nil))) (by kernel_rfl) (fun b39 => ?_)
            refine OPS.want (by kernel_rfl) ?_
            refine OPS.cons (opStep.call (some 43) [GCall.val (l[(o[k]! : Int).toNat]!)] (by kernel_rfl) (t_part (l[(o[k]! : Int).toNat]!) _) ?_)
            rintro _ w42 ⟨rfl, hf43⟩
            refine ⟨_, rfl, ?_⟩
            have hp44 := hp10.step hf43
            refine OPS.batch 2 { wraps := [45] } [] [0, 1, 5, 6, 7, 16, 17, 18, 45] [.slice a n c, .slice ao no co, .slice (some ⟨g5, 0, none⟩) n n, .int .i64 (k : Int), .int .i64 (o[k]!), .slice ao no co, .int .i64 ((no : Nat) : Int), .int .i64 (k : Int), .bool (decide ((partI (l[(o[k]! : Int).toNat]!)) = 0))] .nil (by kernel_rfl) (fun b45 => ?_)
            refine OPS.nil ?_
            refine thn_n ?_
            exact ⟨decide ((partI (l[(o[k]! : Int).toNat]!)) = 0), trivial, Bp.of Bp.dec (by first | (simp only [h21, h26, h33, iff_false, false_iff, iff_true, true_iff, Classical.not_not, and_true, true_and, and_false, false_and, or_true, true_or, or_false, false_or, not_true_eq_false, not_false_eq_true, and_self, or_self, iff_self]; done) | (simp [h21, h26, h33]; done) | grind | (simp_all; done)), by kernel_rfl, hp44⟩
    rintro e48 w49 ⟨x46, hd51, hb47, hE52, hp50⟩
    obtain ⟨b53, rfl⟩ := toMk hE52
    clear hE52
    clear hd51
    refine WP.test (p := (((o[k]!) < 0)) ∨ ((¬ ((o[k]!) < 0)) ∧ (((n : Nat) : Int) ≤ (o[k]!))) ∨ ((¬ ((o[k]!) < 0)) ∧ (¬ (((n : Nat) : Int) ≤ (o[k]!))) ∧ (0 < (al[(o[k]! : Int).toNat]!))) ∨ ((¬ ((o[k]!) < 0)) ∧ (¬ (((n : Nat) : Int) ≤ (o[k]!))) ∧ (¬ (0 < (al[(o[k]! : Int).toNat]!))) ∧ ((partI (l[(o[k]! : Int).toNat]!)) = 0))) rfl hb47 (fun h54 => ?_) (fun h54 => ?_)
    · refine WP.seq ?_
      refine WP.pure {} [] [4] [.bool false] .nil (by kernel_rfl) (fun b55 => ?_)
      refine thn_n ?_
      refine WP.ret ?_
      refine thn_r ?_
      refine blk_r ?_
      refine thn_r ?_
      refine thn_r ?_
      refine blk_r ?_
      refine thn_r ?_
      refine bodyQ.of _ rfl [.bool false] ⟨rfl, trivial⟩ ?_
      exact ⟨_, rfl, Bp.of Bp.f (by simp only [false_iff]; intro q; have q_ := ex_no1 q pq (by omega); have h_ := h54; grind), hp50.fr⟩
    · refine WP.skip ?_
      refine thn_n ?_
      refine WP.region _ rfl (by kernel_rfl) ?_
      refine OPS.batch 5 {} [] [0, 1, 5, 16, 17, 18, 49, 50] [.slice a n c, .slice ao no co, .slice (some ⟨g5, 0, none⟩) n n, .slice ao no co, .int .i64 ((no : Nat) : Int), .int .i64 (k : Int), .int .i64 ((k : Int) + 1), .pointer (some ((adr (some ⟨g5, 0, none⟩)).add ((o[k]! : Int).toNat * 1)))] (.cons (show Rng .i64 ((k : Int) + 1) from Rng.i64 (by omega)) (.cons (show InB (o[k]!) (n) from ⟨by omega, by omega⟩) (.cons ((SlR.own (hp50.get0)).some (by omega)) .nil))) (by kernel_rfl) (fun b56 => ?_)
      have := own_flat (sz := 1) (fun _ => rfl) (by decide) hp50.get0
      try simp only [List.length_set] at this
      refine OPS.cons (opStep.storeOwn0 ((o[k]! : Int).toNat * 1) hp50 rfl [.int .i64 ((k : Int) + 1)] (by kernel_rfl) (by simp) (show (o[k]! : Int).toNat * 1 + 1 ≤ n * 1 by omega) (fun w57 hp58 => ?_))
      have hp59 := hp58
      rw [show ow (List.flatMap (fun y => [.int .i64 y]) al) ((o[k]! : Int).toNat * 1) [.int .i64 ((k : Int) + 1)] = List.flatMap (fun y => [.int .i64 y]) (al.set ((o[k]! : Int).toNat) ((k : Int) + 1)) from ow_flat (sz := 1) (fun _ => rfl) (by first | (omega) | (simp only [List.length_set]; omega)) ((k : Int) + 1)] at hp59
      refine OPS.nil ?_
      refine blk_n ?_
      refine thn_n ?_
      refine WP.pure {} [] [0, 1, 5, 16, 17, 18] [.slice a n c, .slice ao no co, .slice (some ⟨g5, 0, none⟩) n n, .slice ao no co, .int .i64 ((no : Nat) : Int), .int .i64 ((k : Int) + 1)] (.cons (show Rng .i64 ((k : Int) + 1) from Rng.i64 (by omega)) .nil) (by kernel_rfl) (fun b60 => ?_)
      refine thn_n ?_
      exact ⟨o.length - (k + 1), (by omega), k + 1, al.set ((o[k]! : Int).toNat) ((k : Int) + 1), rfl, ⟨by omega, atQ_step pq (by have h_ := h54; grind) (by have h_ := h54; grind) (by have h_ := h54; grind) (by have h_ := h54; grind) pk⟩, by kernel_rfl, hp59⟩
  · refine WP.exit ?_
    refine thn_x ?_
    refine thn_x ?_
    refine blk_hit ?_
    refine thn_n ?_
    refine WP.seq ?_
    refine WP.pure {} [] [0, 1, 5, 8] [.slice a n c, .slice ao no co, .slice (some ⟨g5, 0, none⟩) n n, .int .i64 (-1)] .nil (by kernel_rfl) (fun b61 => ?_)
    refine thn_n ?_
    refine WP.seq ?_
    refine WP.seq ?_
    refine WP.pure {} [] [0, 5, 8, 52, 53, 54] [.slice a n c, .slice (some ⟨g5, 0, none⟩) n n, .int .i64 (-1), .slice ao no co, .int .i64 ((no : Nat) : Int), .int .i64 0] .nil (by kernel_rfl) (fun b62 => ?_)
    refine thn_n ?_
    refine WP.block ?_
    obtain rfl : k = o.length := by omega
    have hin : ∀ j, j < o.length → 0 ≤ o[j]! ∧ o[j]! < (l.length : Int) := fun j hj => ⟨(pk j hj).1, (pk j hj).2.1⟩
    refine WP.loop (fun mz_ e63 w64 => ∃ (k2 : Nat) (la : Int), mz_ = o.length - k2 ∧ (k2 ≤ o.length ∧ la = lastF l o k2 ∧ ∀ k, k < k2 → (∀ j, j < l.length → ¬ (partI l[j]! = 2 ∧ aheadP l[j]! l[(o[k]! : Int).toNat]! ∧ al[(o[k]! : Int).toNat]! < al[j]!)) ∧ fnC w l (lastF l o k) (o[k]!).toNat) ∧ List.map e63 [0, 5, 8, 52, 53, 54] = [.slice a n c, .slice (some ⟨g5, 0, none⟩) n n, .int .i64 la, .slice ao no co, .int .i64 ((no : Nat) : Int), .int .i64 (k2 : Int)] ∧ Hp w Non [Res.own 3 1 (.slice (some ⟨g5, 0, none⟩) n n) n (List.flatMap (fun y => [.int .i64 y]) al)] w64) (o.length - (0)) ⟨0, (-1), rfl, ⟨by omega, rfl, fun k hk => by omega⟩, by kernel_rfl, hp10⟩ ?_
    rintro _ e63 w64 ⟨k2, la, rfl, hI66, hE67, hp65⟩
    obtain ⟨b68, rfl⟩ := toMk hE67
    clear hE67
    obtain ⟨qa, qb, qc⟩ := hI66
    have hik := hin k2
    have hlm := lastF_in hin k2 qa
    rw [← qb] at hlm
    refine WP.seq ?_
    refine WP.pure {} [] [0, 5, 8, 52, 53, 54, 55] [.slice a n c, .slice (some ⟨g5, 0, none⟩) n n, .int .i64 la, .slice ao no co, .int .i64 ((no : Nat) : Int), .int .i64 (k2 : Int), .bool (decide ((k2 : Int) < ((no : Nat) : Int)))] .nil (by kernel_rfl) (fun b69 => ?_)
    refine thn_n ?_
    refine WP.seq ?_
    refine WP.test (p := (k2 : Int) < ((no : Nat) : Int)) rfl Bp.dec (fun h70 => ?_) (fun h70 => ?_)
    · refine WP.skip ?_
      refine thn_n ?_
      refine WP.seq ?_
      refine WP.block ?_
      refine WP.seq ?_
      have hy72 : (o)[k2]? = some o[k2]! := get_bang (by first | (omega) | (simp only [List.length_append, List.length_cons, List.length_nil]; omega) | (simp only [List.length_take, List.length_append, List.length_cons, List.length_nil]; omega))
      refine WP.pure {} [.int .i64 (o[k2]!)] [0, 5, 8, 10, 52, 53, 54] [.slice a n c, .slice (some ⟨g5, 0, none⟩) n n, .int .i64 la, .int .i64 (o[k2]!), .slice ao no co, .int .i64 ((no : Nat) : Int), .int .i64 (k2 : Int)] (.cons (show InB ((k2 : Int)) (no) from ⟨by omega, by omega⟩) (.cons ((hso.at hp65).some (by omega)) (.cons (Ld.add0 (Ld.el1 (P := Try.prog) (t := 3) (hso.at hp65).rd 1 (fun _ => rfl) hy72 (o := 0) (v := .int .i64 (o[k2]!)) (by kernel_rfl))) .nil))) (by kernel_rfl) (fun b73 => ?_)
      refine thn_n ?_
      refine WP.seq ?_
      refine WP.seq ?_
      refine WP.pure {} [] [0, 5, 8, 10, 52, 53, 54, 59, 60] [.slice a n c, .slice (some ⟨g5, 0, none⟩) n n, .int .i64 la, .int .i64 (o[k2]!), .slice ao no co, .int .i64 ((no : Nat) : Int), .int .i64 (k2 : Int), .int .i64 ((n : Nat) : Int), .int .i64 0] .nil (by kernel_rfl) (fun b74 => ?_)
      refine thn_n ?_
      refine WP.block ?_
      refine WP.loop (fun mz_ e75 w76 => ∃ (i : Nat), mz_ = l.length - i ∧ (i ≤ l.length ∧ ∀ j, j < i → ¬ (partI l[j]! = 2 ∧ aheadP l[j]! l[(o[k2]! : Int).toNat]! ∧ al[(o[k2]! : Int).toNat]! < al[j]!)) ∧ List.map e75 [0, 5, 8, 10, 52, 53, 54, 59, 60] = [.slice a n c, .slice (some ⟨g5, 0, none⟩) n n, .int .i64 la, .int .i64 (o[k2]!), .slice ao no co, .int .i64 ((no : Nat) : Int), .int .i64 (k2 : Int), .int .i64 ((n : Nat) : Int), .int .i64 (i : Int)] ∧ Hp w Non [Res.own 3 1 (.slice (some ⟨g5, 0, none⟩) n n) n (List.flatMap (fun y => [.int .i64 y]) al)] w76) (l.length - (0)) ⟨0, rfl, ⟨by omega, fun j hj => by omega⟩, by kernel_rfl, hp65⟩ ?_
      rintro _ e75 w76 ⟨i, rfl, hI78, hE79, hp77⟩
      obtain ⟨b80, rfl⟩ := toMk hE79
      clear hE79
      obtain ⟨ra, rb⟩ := hI78
      refine WP.seq ?_
      refine WP.pure {} [] [0, 5, 8, 10, 52, 53, 54, 59, 60, 61] [.slice a n c, .slice (some ⟨g5, 0, none⟩) n n, .int .i64 la, .int .i64 (o[k2]!), .slice ao no co, .int .i64 ((no : Nat) : Int), .int .i64 (k2 : Int), .int .i64 ((n : Nat) : Int), .int .i64 (i : Int), .bool (decide ((i : Int) < ((n : Nat) : Int)))] .nil (by kernel_rfl) (fun b81 => ?_)
      refine thn_n ?_
      refine WP.seq ?_
      refine WP.test (p := (i : Int) < ((n : Nat) : Int)) rfl Bp.dec (fun h82 => ?_) (fun h82 => ?_)
      · refine WP.skip ?_
        refine thn_n ?_
        refine WP.seq ?_
        refine WP.block ?_
        refine WP.seq ?_
        refine WP.pure {} [] [0, 5, 8, 10, 11, 52, 53, 54, 59, 60] [.slice a n c, .slice (some ⟨g5, 0, none⟩) n n, .int .i64 la, .int .i64 (o[k2]!), .int .i64 (i : Int), .slice ao no co, .int .i64 ((no : Nat) : Int), .int .i64 (k2 : Int), .int .i64 ((n : Nat) : Int), .int .i64 (i : Int)] .nil (by kernel_rfl) (fun b83 => ?_)
        refine thn_n ?_
        refine WP.cut (fun e133 w134 => ∃ (x131 : Bool), (True) ∧ Bp x131 (((partI (l[i]!)) = 2) ∧ (aheadP l[i]! l[(o[k2]! : Int).toNat]!) ∧ ((al[(o[k2]! : Int).toNat]!) < (al[i]!))) ∧ List.map e133 [0, 5, 8, 10, 52, 53, 54, 59, 60, 85] = [.slice a n c, .slice (some ⟨g5, 0, none⟩) n n, .int .i64 la, .int .i64 (o[k2]!), .slice ao no co, .int .i64 ((no : Nat) : Int), .int .i64 (k2 : Int), .int .i64 ((n : Nat) : Int), .int .i64 (i : Int), .bool x131] ∧ Hp w Non [Res.own 3 1 (.slice (some ⟨g5, 0, none⟩) n n) n (List.flatMap (fun y => [.int .i64 y]) al)] w134) ?_ ?_
        · have hp87 := hp77.drew
          refine WP.quiet (fun w85 => Hp w Non [Res.own 3 1 (.slice (some ⟨g5, 0, none⟩) n n) n (List.flatMap (fun y => [.int .i64 y]) al)] w85) (by kernel_rfl) hp87 ?_
          have hnehp87 : ∃ wz_, (fun w85 => Hp w Non [Res.own 3 1 (.slice (some ⟨g5, 0, none⟩) n n) n (List.flatMap (fun y => [.int .i64 y]) al)] w85) wz_ := ⟨_, hp87⟩
          have hy91 : (l)[i]? = some l[i]! := get_bang (by first | (omega) | (simp only [List.length_append, List.length_cons, List.length_nil]; omega) | (simp only [List.length_take, List.length_append, List.length_cons, List.length_nil]; omega))
          refine QOPS.batch 4 {} [GCall.val (l[i]!)] [0, 5, 8, 10, 11, 52, 53, 54, 59, 60, 66] [.slice a n c, .slice (some ⟨g5, 0, none⟩) n n, .int .i64 la, .int .i64 (o[k2]!), .int .i64 (i : Int), .slice ao no co, .int .i64 ((no : Nat) : Int), .int .i64 (k2 : Int), .int .i64 ((n : Nat) : Int), .int .i64 (i : Int), GCall.val (l[i]!)] hnehp87 (fun w88 hp89 => QB.mk (.cons (show InB ((i : Int)) (n) from ⟨by omega, by omega⟩) (.cons ((hs.at hp89).some (by omega)) (.cons (Ld.add0 (Ld.elN (P := Try.prog) (t := 73) (hs.at hp89).rd 11 (fun _ => rfl) hy91 (o := 0) (cs := [.int .i64 (l[i]!.Client), .int .i64 (l[i]!.Op), .bool (l[i]!.Put), .string (l[i]!.Key), .slice (l[i]!.Value.a) (l[i]!.Value.n) (l[i]!.Value.c), .int .i64 (l[i]!.Status), .int .i64 (l[i]!.From), .int .i64 (l[i]!.To), .bool (l[i]!.Open), .int .i64 (l[i]!.Tag.Count), .int .i64 (l[i]!.Tag.Client)]) (by kernel_rfl))) .nil))) (by kernel_rfl)) (fun b92 => ?_)
          refine QOPS.call (some 67) [GCall.val (l[i]!)] (by kernel_rfl) (fun w93 hp94 => (t_part (l[i]!) _).mono fun _ _ h => ⟨h.1, hp94.step h.2⟩) ?_
          refine QOPS.batch 2 {} [] [0, 5, 8, 10, 11, 52, 53, 54, 59, 60, 69] [.slice a n c, .slice (some ⟨g5, 0, none⟩) n n, .int .i64 la, .int .i64 (o[k2]!), .int .i64 (i : Int), .slice ao no co, .int .i64 ((no : Nat) : Int), .int .i64 (k2 : Int), .int .i64 ((n : Nat) : Int), .int .i64 (i : Int), .bool (decide ((partI (l[i]!)) = 2))] hnehp87 (fun w95 hp96 => QB.mk .nil (by kernel_rfl)) (fun b97 => ?_)
          by_cases h98 : (partI (l[i]!)) = 2
          · refine QOPS.batch 0 {} [] [0, 5, 8, 10, 11, 52, 53, 54, 59, 60, 69] [.slice a n c, .slice (some ⟨g5, 0, none⟩) n n, .int .i64 la, .int .i64 (o[k2]!), .int .i64 (i : Int), .slice ao no co, .int .i64 ((no : Nat) : Int), .int .i64 (k2 : Int), .int .i64 ((n : Nat) : Int), .int .i64 (i : Int), .bool (decide ((partI (l[i]!)) = 2))] hnehp87 (fun _ _ => QB.mk .nil (by kernel_rfl)) (fun b99 => ?_)
            refine QOPS.re [.slice a n c, .slice (some ⟨g5, 0, none⟩) n n, .int .i64 la, .int .i64 (o[k2]!), .int .i64 (i : Int), .slice ao no co, .int .i64 ((no : Nat) : Int), .int .i64 (k2 : Int), .int .i64 ((n : Nat) : Int), .int .i64 (i : Int), .bool true] (by rw [show (decide ((partI (l[i]!)) = 2)) = true from Bp.dec.tt h98]) ?_
            refine QOPS.batch 3 {} [] [0, 5, 8, 10, 11, 52, 53, 54, 59, 60, 69, 70, 71, 72] [.slice a n c, .slice (some ⟨g5, 0, none⟩) n n, .int .i64 la, .int .i64 (o[k2]!), .int .i64 (i : Int), .slice ao no co, .int .i64 ((no : Nat) : Int), .int .i64 (k2 : Int), .int .i64 ((n : Nat) : Int), .int .i64 (i : Int), .bool true, .slice a n c, .int .i64 (i : Int), .int .i64 (o[k2]!)] hnehp87 (fun w100 hp101 => QB.mk .nil (by kernel_rfl)) (fun b102 => ?_)
            refine QOPS.call (some 73) [.slice a n c, .int .i64 (i : Int), .int .i64 (o[k2]!)] (by kernel_rfl) (fun w103 hp104 => (t_ahead l _ _ _ _ (by omega) (by omega) (hs.at hp104) (i : Int) (o[k2]!) (by omega) (by omega)).mono fun _ _ h => by obtain ⟨b, h1, h2, h3⟩ := h; exact ⟨by rw [h1, h2.eq_bo], hp104.step h3⟩) ?_
            refine QOPS.batch 2 { wraps := [74] } [] [0, 5, 8, 10, 11, 52, 53, 54, 59, 60, 75] [.slice a n c, .slice (some ⟨g5, 0, none⟩) n n, .int .i64 la, .int .i64 (o[k2]!), .int .i64 (i : Int), .slice ao no co, .int .i64 ((no : Nat) : Int), .int .i64 (k2 : Int), .int .i64 ((n : Nat) : Int), .int .i64 (i : Int), .bool (bo (aheadP l[i]! l[(o[k2]! : Int).toNat]!))] hnehp87 (fun w105 hp106 => QB.mk .nil (by kernel_rfl)) (fun b107 => ?_)
            by_cases h108 : aheadP l[i]! l[(o[k2]! : Int).toNat]!
            · refine QOPS.batch 0 {} [] [0, 5, 8, 10, 11, 52, 53, 54, 59, 60, 75] [.slice a n c, .slice (some ⟨g5, 0, none⟩) n n, .int .i64 la, .int .i64 (o[k2]!), .int .i64 (i : Int), .slice ao no co, .int .i64 ((no : Nat) : Int), .int .i64 (k2 : Int), .int .i64 ((n : Nat) : Int), .int .i64 (i : Int), .bool (bo (aheadP l[i]! l[(o[k2]! : Int).toNat]!))] hnehp87 (fun _ _ => QB.mk .nil (by kernel_rfl)) (fun b109 => ?_)
              refine QOPS.re [.slice a n c, .slice (some ⟨g5, 0, none⟩) n n, .int .i64 la, .int .i64 (o[k2]!), .int .i64 (i : Int), .slice ao no co, .int .i64 ((no : Nat) : Int), .int .i64 (k2 : Int), .int .i64 ((n : Nat) : Int), .int .i64 (i : Int), .bool true] (by rw [show (bo (aheadP l[i]! l[(o[k2]! : Int).toNat]!)) = true from Bp.bo.tt h108]) ?_
              have := own_flat (sz := 1) (fun _ => rfl) (by decide) hp87.get0
              have hy113 : (al)[i]? = some al[i]! := get_bang (by first | (omega) | (simp only [List.length_append, List.length_cons, List.length_nil]; omega) | (simp only [List.length_take, List.length_append, List.length_cons, List.length_nil]; omega))
              have := own_flat (sz := 1) (fun _ => rfl) (by decide) hp87.get0
              have hy115 : (al)[(o[k2]! : Int).toNat]? = some al[(o[k2]! : Int).toNat]! := get_bang (by first | (omega) | (simp only [List.length_append, List.length_cons, List.length_nil]; omega) | (simp only [List.length_take, List.length_append, List.length_cons, List.length_nil]; omega))
              refine QOPS.batch 10 { wraps := [85] } [.int .i64 (al[i]!), .int .i64 (al[(o[k2]! : Int).toNat]!)] [0, 5, 8, 10, 52, 53, 54, 59, 60, 85] [.slice a n c, .slice (some ⟨g5, 0, none⟩) n n, .int .i64 la, .int .i64 (o[k2]!), .slice ao no co, .int .i64 ((no : Nat) : Int), .int .i64 (k2 : Int), .int .i64 ((n : Nat) : Int), .int .i64 (i : Int), .bool (decide ((al[(o[k2]! : Int).toNat]!) < (al[i]!)))] hnehp87 (fun w110 hp111 => QB.mk (.cons (show InB ((i : Int)) (n) from ⟨by omega, by omega⟩) (.cons ((SlR.own (hp111.get0)).some (by omega)) (.cons (Ld.add0 (Ld.el1 (P := Try.prog) (t := 3) (SlR.own (hp111.get0)).rd 1 (fun _ => rfl) hy113 (o := 0) (v := .int .i64 (al[i]!)) (by kernel_rfl))) (.cons (show InB (o[k2]!) (n) from ⟨by omega, by omega⟩) (.cons ((SlR.own (hp111.get0)).some (by omega)) (.cons (Ld.add0 (Ld.el1 (P := Try.prog) (t := 3) (SlR.own (hp111.get0)).rd 1 (fun _ => rfl) hy115 (o := 0) (v := .int .i64 (al[(o[k2]! : Int).toNat]!)) (by kernel_rfl))) .nil)))))) (by kernel_rfl)) (fun b116 => ?_)
              refine QOPS.nil (fun w117 hp118 => ?_)
              refine thn_n ?_
              exact ⟨decide ((al[(o[k2]! : Int).toNat]!) < (al[i]!)), trivial, Bp.of Bp.dec (by first | (simp only [h98, h108, iff_false, false_iff, iff_true, true_iff, Classical.not_not, and_true, true_and, and_false, false_and, or_true, true_or, or_false, false_or, not_true_eq_false, not_false_eq_true, and_self, or_self, iff_self]; done) | (simp [h98, h108]; done) | grind | (simp_all; done)), by kernel_rfl, hp118⟩
            · refine QOPS.batch 0 {} [] [0, 5, 8, 10, 11, 52, 53, 54, 59, 60, 75] [.slice a n c, .slice (some ⟨g5, 0, none⟩) n n, .int .i64 la, .int .i64 (o[k2]!), .int .i64 (i : Int), .slice ao no co, .int .i64 ((no : Nat) : Int), .int .i64 (k2 : Int), .int .i64 ((n : Nat) : Int), .int .i64 (i : Int), .bool (bo (aheadP l[i]! l[(o[k2]! : Int).toNat]!))] hnehp87 (fun _ _ => QB.mk .nil (by kernel_rfl)) (fun b119 => ?_)
              refine QOPS.re [.slice a n c, .slice (some ⟨g5, 0, none⟩) n n, .int .i64 la, .int .i64 (o[k2]!), .int .i64 (i : Int), .slice ao no co, .int .i64 ((no : Nat) : Int), .int .i64 (k2 : Int), .int .i64 ((n : Nat) : Int), .int .i64 (i : Int), .bool false] (by rw [show (bo (aheadP l[i]! l[(o[k2]! : Int).toNat]!)) = false from Bp.bo.ff h108]) ?_
              refine QOPS.batch 10 { wraps := [85] } [] [0, 5, 8, 10, 52, 53, 54, 59, 60, 85] [.slice a n c, .slice (some ⟨g5, 0, none⟩) n n, .int .i64 la, .int .i64 (o[k2]!), .slice ao no co, .int .i64 ((no : Nat) : Int), .int .i64 (k2 : Int), .int .i64 ((n : Nat) : Int), .int .i64 (i : Int), .bool false] hnehp87 (fun w120 hp121 => QB.mk .nil (by kernel_rfl)) (fun b122 => ?_)
              refine QOPS.nil (fun w123 hp124 => ?_)
              refine thn_n ?_
              exact ⟨false, trivial, Bp.of Bp.f (by first | (simp only [h98, h108, iff_false, false_iff, iff_true, true_iff, Classical.not_not, and_true, true_and, and_false, false_and, or_true, true_or, or_false, false_or, not_true_eq_false, not_false_eq_true, and_self, or_self, iff_self]; done) | (simp [h98, h108]; done) | grind | (simp_all; done)), by kernel_rfl, hp124⟩
          · refine QOPS.batch 0 {} [] [0, 5, 8, 10, 11, 52, 53, 54, 59, 60, 69] [.slice a n c, .slice (some ⟨g5, 0, none⟩) n n, .int .i64 la, .int .i64 (o[k2]!), .int .i64 (i : Int), .slice ao no co, .int .i64 ((no : Nat) : Int), .int .i64 (k2 : Int), .int .i64 ((n : Nat) : Int), .int .i64 (i : Int), .bool (decide ((partI (l[i]!)) = 2))] hnehp87 (fun _ _ => QB.mk .nil (by kernel_rfl)) (fun b125 => ?_)
            refine QOPS.re [.slice a n c, .slice (some ⟨g5, 0, none⟩) n n, .int .i64 la, .int .i64 (o[k2]!), .int .i64 (i : Int), .slice ao no co, .int .i64 ((no : Nat) : Int), .int .i64 (k2 : Int), .int .i64 ((n : Nat) : Int), .int .i64 (i : Int), .bool false] (by rw [show (decide ((partI (l[i]!)) = 2)) = false from Bp.dec.ff h98]) ?_
            refine QOPS.batch 16 { wraps := [74, 85] } [] [0, 5, 8, 10, 52, 53, 54, 59, 60, 85] [.slice a n c, .slice (some ⟨g5, 0, none⟩) n n, .int .i64 la, .int .i64 (o[k2]!), .slice ao no co, .int .i64 ((no : Nat) : Int), .int .i64 (k2 : Int), .int .i64 ((n : Nat) : Int), .int .i64 (i : Int), .bool false] hnehp87 (fun w126 hp127 => QB.mk .nil (by kernel_rfl)) (fun b128 => ?_)
            refine QOPS.nil (fun w129 hp130 => ?_)
            refine thn_n ?_
            exact ⟨false, trivial, Bp.of Bp.f (by first | (simp only [h98, iff_false, false_iff, iff_true, true_iff, Classical.not_not, and_true, true_and, and_false, false_and, or_true, true_or, or_false, false_or, not_true_eq_false, not_false_eq_true, and_self, or_self, iff_self]; done) | (simp [h98]; done) | grind | (simp_all; done)), by kernel_rfl, hp130⟩
        rintro e133 w134 ⟨x131, hd136, hb132, hE137, hp135⟩
        obtain ⟨b138, rfl⟩ := toMk hE137
        clear hE137
        clear hd136
        refine WP.test (p := ((partI (l[i]!)) = 2) ∧ (aheadP l[i]! l[(o[k2]! : Int).toNat]!) ∧ ((al[(o[k2]! : Int).toNat]!) < (al[i]!))) rfl hb132 (fun h139 => ?_) (fun h139 => ?_)
        · refine WP.seq ?_
          refine WP.pure {} [] [4] [.bool false] .nil (by kernel_rfl) (fun b140 => ?_)
          refine thn_n ?_
          refine WP.ret ?_
          refine blk_r ?_
          refine thn_r ?_
          refine thn_r ?_
          refine blk_r ?_
          refine thn_r ?_
          refine blk_r ?_
          refine thn_r ?_
          refine thn_r ?_
          refine blk_r ?_
          refine thn_r ?_
          refine bodyQ.of _ rfl [.bool false] ⟨rfl, trivial⟩ ?_
          exact ⟨_, rfl, Bp.of Bp.f (by simp only [false_iff]; intro q; have q_ := ex_no2 q pq (k := k2) (j := i) (by omega) (by omega); have h_ := h139; grind), hp135.fr⟩
        · refine WP.skip ?_
          refine blk_n ?_
          refine thn_n ?_
          refine WP.pure {} [] [0, 5, 8, 10, 52, 53, 54, 59, 60] [.slice a n c, .slice (some ⟨g5, 0, none⟩) n n, .int .i64 la, .int .i64 (o[k2]!), .slice ao no co, .int .i64 ((no : Nat) : Int), .int .i64 (k2 : Int), .int .i64 ((n : Nat) : Int), .int .i64 ((i : Int) + 1)] (.cons (show Rng .i64 ((i : Int) + 1) from Rng.i64 (by omega)) .nil) (by kernel_rfl) (fun b141 => ?_)
          refine thn_n ?_
          exact ⟨l.length - (i + 1), (by omega), i + 1, rfl, ⟨by omega, fun j hj => by by_cases e : j = i; subst e; have h_ := h139; grind; exact rb j (by omega)⟩, by kernel_rfl, hp135⟩
      · refine WP.exit ?_
        refine thn_x ?_
        refine thn_x ?_
        refine blk_hit ?_
        refine thn_n ?_
        refine WP.seq ?_
        refine WP.seq ?_
        refine WP.region _ rfl (by kernel_rfl) ?_
        refine OPS.batch 3 {} [] [0, 5, 8, 10, 52, 53, 54, 87, 88, 89] [.slice a n c, .slice (some ⟨g5, 0, none⟩) n n, .int .i64 la, .int .i64 (o[k2]!), .slice ao no co, .int .i64 ((no : Nat) : Int), .int .i64 (k2 : Int), .slice a n c, .int .i64 la, .int .i64 (o[k2]!)] .nil (by kernel_rfl) (fun b142 => ?_)
        refine OPS.cons (opStep.call (some 90) [.slice a n c, .int .i64 la, .int .i64 (o[k2]!)] (by kernel_rfl) (t_next2 l _ _ _ _ (by omega) (by omega) (hs.at hp77) la (o[k2]!) (by omega) (by omega) w hp77.fr hv hvn) ?_)
        rintro _ w145 ⟨b148, rfl, hb149, hf146⟩
        refine ⟨_, rfl, ?_⟩
        have hp147 := hp77.step hf146
        refine OPS.batch 1 {} [] [0, 5, 8, 10, 52, 53, 54, 91] [.slice a n c, .slice (some ⟨g5, 0, none⟩) n n, .int .i64 la, .int .i64 (o[k2]!), .slice ao no co, .int .i64 ((no : Nat) : Int), .int .i64 (k2 : Int), .bool (!b148)] .nil (by kernel_rfl) (fun b150 => ?_)
        refine OPS.nil ?_
        refine thn_n ?_
        refine WP.test (p := ¬ (fnC w l la (o[k2]!).toNat)) rfl (Bp.not hb149) (fun h151 => ?_) (fun h151 => ?_)
        · refine WP.seq ?_
          refine WP.pure {} [] [4] [.bool false] .nil (by kernel_rfl) (fun b152 => ?_)
          refine thn_n ?_
          refine WP.ret ?_
          refine thn_r ?_
          refine blk_r ?_
          refine thn_r ?_
          refine thn_r ?_
          refine blk_r ?_
          refine thn_r ?_
          refine bodyQ.of _ rfl [.bool false] ⟨rfl, trivial⟩ ?_
          exact ⟨_, rfl, Bp.of Bp.f (by simp only [false_iff]; intro q; have q_ := (q.2.1 k2 (by omega)).2; rw [← qb] at q_; have h_ := h151; grind), hp147.fr⟩
        · replace h151 := Classical.not_not.1 h151
          refine WP.skip ?_
          refine thn_n ?_
          refine WP.seq ?_
          have hy154 : (l)[(o[k2]! : Int).toNat]? = some l[(o[k2]! : Int).toNat]! := get_bang (by first | (omega) | (simp only [List.length_append, List.length_cons, List.length_nil]; omega) | (simp only [List.length_take, List.length_append, List.length_cons, List.length_nil]; omega))
          refine WP.pure {} [.bool (l[(o[k2]! : Int).toNat]!.Put)] [0, 5, 8, 10, 52, 53, 54, 96] [.slice a n c, .slice (some ⟨g5, 0, none⟩) n n, .int .i64 la, .int .i64 (o[k2]!), .slice ao no co, .int .i64 ((no : Nat) : Int), .int .i64 (k2 : Int), .bool (l[(o[k2]! : Int).toNat]!.Put)] (.cons (show InB (o[k2]!) (n) from ⟨by omega, by omega⟩) (.cons ((hs.at hp147).some (by omega)) (.cons (Ld.el1 (P := Try.prog) (t := 4) (hs.at hp147).rd 11 (fun _ => rfl) hy154 (o := 2) (v := .bool (l[(o[k2]! : Int).toNat]!.Put)) (by kernel_rfl)) .nil))) (by kernel_rfl) (fun b155 => ?_)
          refine thn_n ?_
          refine WP.test (p := (l[(o[k2]! : Int).toNat]!.Put) = true) rfl Bp.var (fun h156 => ?_) (fun h156 => ?_)
          · refine WP.pure {} [] [0, 5, 8, 52, 53, 54] [.slice a n c, .slice (some ⟨g5, 0, none⟩) n n, .int .i64 (o[k2]!), .slice ao no co, .int .i64 ((no : Nat) : Int), .int .i64 (k2 : Int)] .nil (by kernel_rfl) (fun b157 => ?_)
            refine blk_n ?_
            refine thn_n ?_
            refine WP.pure {} [] [0, 5, 8, 52, 53, 54] [.slice a n c, .slice (some ⟨g5, 0, none⟩) n n, .int .i64 (o[k2]!), .slice ao no co, .int .i64 ((no : Nat) : Int), .int .i64 ((k2 : Int) + 1)] (.cons (show Rng .i64 ((k2 : Int) + 1) from Rng.i64 (by omega)) .nil) (by kernel_rfl) (fun b158 => ?_)
            refine thn_n ?_
            exact ⟨o.length - (k2 + 1), (by omega), k2 + 1, o[k2]!, rfl, ⟨by omega, by unfold lastF; rw [if_pos (show (atO l o k2).Put = true from h156)], fun k hk => by by_cases e : k = k2; subst e; exact ⟨fun j hj => rb j (by omega), by rw [← qb]; have h_ := h151; grind⟩; exact qc k (by omega)⟩, by kernel_rfl, hp147⟩
          · refine WP.skip ?_
            refine blk_n ?_
            refine thn_n ?_
            refine WP.pure {} [] [0, 5, 8, 52, 53, 54] [.slice a n c, .slice (some ⟨g5, 0, none⟩) n n, .int .i64 la, .slice ao no co, .int .i64 ((no : Nat) : Int), .int .i64 ((k2 : Int) + 1)] (.cons (show Rng .i64 ((k2 : Int) + 1) from Rng.i64 (by omega)) .nil) (by kernel_rfl) (fun b159 => ?_)
            refine thn_n ?_
            exact ⟨o.length - (k2 + 1), (by omega), k2 + 1, la, rfl, ⟨by omega, by rw [qb]; conv => rhs; unfold lastF; rw [if_neg (show ¬ (atO l o k2).Put = true from h156)], fun k hk => by by_cases e : k = k2; subst e; exact ⟨fun j hj => rb j (by omega), by rw [← qb]; have h_ := h151; grind⟩; exact qc k (by omega)⟩, by kernel_rfl, hp147⟩
    · refine WP.exit ?_
      refine thn_x ?_
      refine thn_x ?_
      refine blk_hit ?_
      refine thn_n ?_
      refine WP.seq ?_
      refine WP.seq ?_
      refine WP.pure {} [] [0, 5, 100, 101] [.slice a n c, .slice (some ⟨g5, 0, none⟩) n n, .int .i64 ((n : Nat) : Int), .int .i64 0] .nil (by kernel_rfl) (fun b160 => ?_)
      refine thn_n ?_
      refine WP.block ?_
      refine WP.loop (fun mz_ e161 w162 => ∃ (m : Nat), mz_ = l.length - m ∧ (m ≤ l.length ∧ ∀ j, j < m → ¬ (partI l[j]! = 2 ∧ al[j]! = 0)) ∧ List.map e161 [0, 5, 100, 101] = [.slice a n c, .slice (some ⟨g5, 0, none⟩) n n, .int .i64 ((n : Nat) : Int), .int .i64 (m : Int)] ∧ Hp w Non [Res.own 3 1 (.slice (some ⟨g5, 0, none⟩) n n) n (List.flatMap (fun y => [.int .i64 y]) al)] w162) (l.length - (0)) ⟨0, rfl, ⟨by omega, fun j hj => by omega⟩, by kernel_rfl, hp65⟩ ?_
      rintro _ e161 w162 ⟨m, rfl, hI164, hE165, hp163⟩
      obtain ⟨b166, rfl⟩ := toMk hE165
      clear hE165
      obtain ⟨sa, sb⟩ := hI164
      refine WP.seq ?_
      refine WP.pure {} [] [0, 5, 100, 101, 102] [.slice a n c, .slice (some ⟨g5, 0, none⟩) n n, .int .i64 ((n : Nat) : Int), .int .i64 (m : Int), .bool (decide ((m : Int) < ((n : Nat) : Int)))] .nil (by kernel_rfl) (fun b167 => ?_)
      refine thn_n ?_
      refine WP.seq ?_
      refine WP.test (p := (m : Int) < ((n : Nat) : Int)) rfl Bp.dec (fun h168 => ?_) (fun h168 => ?_)
      · refine WP.skip ?_
        refine thn_n ?_
        refine WP.seq ?_
        refine WP.block ?_
        refine WP.seq ?_
        refine WP.pure {} [] [0, 5, 12, 100, 101] [.slice a n c, .slice (some ⟨g5, 0, none⟩) n n, .int .i64 (m : Int), .int .i64 ((n : Nat) : Int), .int .i64 (m : Int)] .nil (by kernel_rfl) (fun b169 => ?_)
        refine thn_n ?_
        refine WP.cut (fun e191 w192 => ∃ (x189 : Bool), (True) ∧ Bp x189 (((partI (l[m]!)) = 2) ∧ ((al[m]!) = 0)) ∧ List.map e191 [0, 5, 100, 101, 116] = [.slice a n c, .slice (some ⟨g5, 0, none⟩) n n, .int .i64 ((n : Nat) : Int), .int .i64 (m : Int), .bool x189] ∧ Hp w Non [Res.own 3 1 (.slice (some ⟨g5, 0, none⟩) n n) n (List.flatMap (fun y => [.int .i64 y]) al)] w192) ?_ ?_
        · refine WP.region _ rfl (by kernel_rfl) ?_
          have hy174 : (l)[m]? = some l[m]! := get_bang (by first | (omega) | (simp only [List.length_append, List.length_cons, List.length_nil]; omega) | (simp only [List.length_take, List.length_append, List.length_cons, List.length_nil]; omega))
          refine OPS.batch 4 {} [GCall.val (l[m]!)] [0, 5, 12, 100, 101, 107] [.slice a n c, .slice (some ⟨g5, 0, none⟩) n n, .int .i64 (m : Int), .int .i64 ((n : Nat) : Int), .int .i64 (m : Int), GCall.val (l[m]!)] (.cons (show InB ((m : Int)) (n) from ⟨by omega, by omega⟩) (.cons ((hs.at hp163).some (by omega)) (.cons (Ld.add0 (Ld.elN (P := Try.prog) (t := 73) (hs.at hp163).rd 11 (fun _ => rfl) hy174 (o := 0) (cs := [.int .i64 (l[m]!.Client), .int .i64 (l[m]!.Op), .bool (l[m]!.Put), .string (l[m]!.Key), .slice (l[m]!.Value.a) (l[m]!.Value.n) (l[m]!.Value.c), .int .i64 (l[m]!.Status), .int .i64 (l[m]!.From), .int .i64 (l[m]!.To), .bool (l[m]!.Open), .int .i64 (l[m]!.Tag.Count), .int .i64 (l[m]!.Tag.Client)]) (by kernel_rfl))) .nil))) (by kernel_rfl) (fun b175 => ?_)
          refine OPS.cons (opStep.call (some 108) [GCall.val (l[m]!)] (by kernel_rfl) (t_part (l[m]!) _) ?_)
          rintro _ w178 ⟨rfl, hf179⟩
          refine ⟨_, rfl, ?_⟩
          have hp180 := hp163.step hf179
          refine OPS.batch 2 {} [] [0, 5, 12, 100, 101, 110] [.slice a n c, .slice (some ⟨g5, 0, none⟩) n n, .int .i64 (m : Int), .int .i64 ((n : Nat) : Int), .int .i64 (m : Int), .bool (decide ((partI (l[m]!)) = 2))] .nil (by kernel_rfl) (fun b181 => ?_)
          by_cases h182 : (partI (l[m]!)) = 2
          · refine OPS.batch 0 {} [] [0, 5, 12, 100, 101, 110] [.slice a n c, .slice (some ⟨g5, 0, none⟩) n n, .int .i64 (m : Int), .int .i64 ((n : Nat) : Int), .int .i64 (m : Int), .bool (decide ((partI (l[m]!)) = 2))] .nil (by kernel_rfl) (fun b183 => ?_)
            refine OPS.re [.slice a n c, .slice (some ⟨g5, 0, none⟩) n n, .int .i64 (m : Int), .int .i64 ((n : Nat) : Int), .int .i64 (m : Int), .bool true] (by rw [show (decide ((partI (l[m]!)) = 2)) = true from Bp.dec.tt h182]) ?_
            have := own_flat (sz := 1) (fun _ => rfl) (by decide) hp180.get0
            have hy185 : (al)[m]? = some al[m]! := get_bang (by first | (omega) | (simp only [List.length_append, List.length_cons, List.length_nil]; omega) | (simp only [List.length_take, List.length_append, List.length_cons, List.length_nil]; omega))
            refine OPS.batch 6 { wraps := [116] } [.int .i64 (al[m]!)] [0, 5, 100, 101, 116] [.slice a n c, .slice (some ⟨g5, 0, none⟩) n n, .int .i64 ((n : Nat) : Int), .int .i64 (m : Int), .bool (decide ((al[m]!) = 0))] (.cons (show InB ((m : Int)) (n) from ⟨by omega, by omega⟩) (.cons ((SlR.own (hp180.get0)).some (by omega)) (.cons (Ld.add0 (Ld.el1 (P := Try.prog) (t := 3) (SlR.own (hp180.get0)).rd 1 (fun _ => rfl) hy185 (o := 0) (v := .int .i64 (al[m]!)) (by kernel_rfl))) .nil))) (by kernel_rfl) (fun b186 => ?_)
            refine OPS.nil ?_
            refine thn_n ?_
            exact ⟨decide ((al[m]!) = 0), trivial, Bp.of Bp.dec (by first | (simp only [h182, iff_false, false_iff, iff_true, true_iff, Classical.not_not, and_true, true_and, and_false, false_and, or_true, true_or, or_false, false_or, not_true_eq_false, not_false_eq_true, and_self, or_self, iff_self]; done) | (simp [h182]; done) | grind | (simp_all; done)), by kernel_rfl, hp180⟩
          · refine OPS.batch 0 {} [] [0, 5, 12, 100, 101, 110] [.slice a n c, .slice (some ⟨g5, 0, none⟩) n n, .int .i64 (m : Int), .int .i64 ((n : Nat) : Int), .int .i64 (m : Int), .bool (decide ((partI (l[m]!)) = 2))] .nil (by kernel_rfl) (fun b187 => ?_)
            refine OPS.re [.slice a n c, .slice (some ⟨g5, 0, none⟩) n n, .int .i64 (m : Int), .int .i64 ((n : Nat) : Int), .int .i64 (m : Int), .bool false] (by rw [show (decide ((partI (l[m]!)) = 2)) = false from Bp.dec.ff h182]) ?_
            refine OPS.batch 6 { wraps := [116] } [] [0, 5, 100, 101, 116] [.slice a n c, .slice (some ⟨g5, 0, none⟩) n n, .int .i64 ((n : Nat) : Int), .int .i64 (m : Int), .bool false] .nil (by kernel_rfl) (fun b188 => ?_)
            refine OPS.nil ?_
            refine thn_n ?_
            exact ⟨false, trivial, Bp.of Bp.f (by first | (simp only [h182, iff_false, false_iff, iff_true, true_iff, Classical.not_not, and_true, true_and, and_false, false_and, or_true, true_or, or_false, false_or, not_true_eq_false, not_false_eq_true, and_self, or_self, iff_self]; done) | (simp [h182]; done) | grind | (simp_all; done)), by kernel_rfl, hp180⟩
        rintro e191 w192 ⟨x189, hd194, hb190, hE195, hp193⟩
        obtain ⟨b196, rfl⟩ := toMk hE195
        clear hE195
        clear hd194
        refine WP.test (p := ((partI (l[m]!)) = 2) ∧ ((al[m]!) = 0)) rfl hb190 (fun h197 => ?_) (fun h197 => ?_)
        · refine WP.seq ?_
          refine WP.pure {} [] [4] [.bool false] .nil (by kernel_rfl) (fun b198 => ?_)
          refine thn_n ?_
          refine WP.ret ?_
          refine blk_r ?_
          refine thn_r ?_
          refine thn_r ?_
          refine blk_r ?_
          refine thn_r ?_
          refine bodyQ.of _ rfl [.bool false] ⟨rfl, trivial⟩ ?_
          exact ⟨_, rfl, Bp.of Bp.f (by simp only [false_iff]; intro q; have q_ := ex_no4 q pq (i := m) (by omega); have h_ := h197; grind), hp193.fr⟩
        · refine WP.skip ?_
          refine blk_n ?_
          refine thn_n ?_
          refine WP.pure {} [] [0, 5, 100, 101] [.slice a n c, .slice (some ⟨g5, 0, none⟩) n n, .int .i64 ((n : Nat) : Int), .int .i64 ((m : Int) + 1)] (.cons (show Rng .i64 ((m : Int) + 1) from Rng.i64 (by omega)) .nil) (by kernel_rfl) (fun b199 => ?_)
          refine thn_n ?_
          exact ⟨l.length - (m + 1), (by omega), m + 1, rfl, ⟨by omega, fun j hj => by by_cases e : j = m; subst e; have h_ := h197; grind; exact sb j (by omega)⟩, by kernel_rfl, hp193⟩
      · refine WP.exit ?_
        refine thn_x ?_
        refine thn_x ?_
        refine blk_hit ?_
        refine thn_n ?_
        refine WP.seq ?_
        refine WP.pure {} [] [4] [.bool true] .nil (by kernel_rfl) (fun b200 => ?_)
        refine thn_n ?_
        refine WP.ret ?_
        refine bodyQ.of _ rfl [.bool true] ⟨rfl, trivial⟩ ?_
        exact ⟨_, rfl, Bp.of Bp.t (by simp only [true_iff]; exact ex_yes pq pk (fun k hk => qc k (by omega)) (fun i hi => sb i (by omega))), hp163.fr⟩

theorem t_expl2 (l : List GCall) (a : Option Addr) (n c : Nat) (w : World) (hn : n = l.length) (hb : l.length ≤ 8796093022207) (hs : SlR w a n (l.flatMap GCall.cells)) (o : List Int) (ao : Option Addr) (no co : Nat) (hno : no = o.length) (hbo : o.length ≤ 9223372036854775807) (hso : SlR w ao no (List.flatMap (fun (y : Int) => [Go.Value.int .i64 y]) o)) (w0 : World) (hf : Fram Non w0 w) (hv : ∀ y ∈ l, VB w0 y.Value) (hvn : ∀ y ∈ l, y.Value.n ≤ 8796093022207000) (hfit : fitP l) : Calls Try.prog 41 #[.slice a n c, .slice ao no co] w (fun r_ w' => ∃ f_, r_ = .returned (.bool f_) ∧ Bp f_ (chkO w0 l o = 0) ∧ Fram Non w w') :=
  (t_expl l a n c w hn hb hs o ao no co hno hbo hso (fun y hy => (hv y hy).at' hf) hvn).mono fun _ _ ⟨f, e1, e2, e3⟩ => ⟨f, e1, Bp.of e2 ((ex_chk hfit).trans (by rw [chkO_fram hf hv])), e3⟩
theorem t_own (s : SlH) (w : World) (hv : VB w s) (hn : s.n ≤ 140737488351232) :
    Calls Try.prog 90 #[.slice s.a s.n s.c] w (fun r_ w' => ∃ ao no co, r_ = .returned (.slice ao no co) ∧ no = s.n ∧ Hp w Non [Res.own 5 1 (.slice ao no co) no ((bytesAt w s).flatMap u8c)] w') := by
  refine calls_of Try.func90 rfl 5 rfl (by simp) ?_
  have hp0 := Hp.init w
  have he0 : List.map (env0 [.slice s.a s.n s.c]) [0] = [.slice s.a s.n s.c] := by kernel_rfl
  obtain ⟨b0, he0⟩ := toMk he0
  rw [he0]
  clear he0
  refine WP.seq ?_
  refine WP.pure {} [] [0] [.slice s.a s.n s.c] .nil (by kernel_rfl) (fun b1 => ?_)
  refine thn_n ?_
  refine WP.seq ?_
  refine WP.region _ rfl (by kernel_rfl) ?_
  refine OPS.batch 1 {} [] [3] [.slice s.a s.n s.c] .nil (by kernel_rfl) (fun b2 => ?_)
  have hp6 := (show Hp w Non [Res.own 5 1 (.slice none 0 0) 0 (List.flatMap u8c ([] : List Int))] w from hp0.nilOwn 5 1)
  refine OPS.cons (opStep.appendS (A := []) hp6 1 (by kernel_rfl) rfl rfl (SlR.at hv hp6) (flat_n (fun _ => rfl) (bytesAt_len _ _)) (one_flat (fun _ => rfl)) (by decide) (by omega) (by omega) (fun a7 c8 w9 hp10 => ?_))
  rw [show List.flatMap u8c ([] : List Int) ++ List.flatMap u8c (bytesAt w s) = List.flatMap u8c (([] : List Int) ++ (bytesAt w s)) from List.flatMap_append.symm] at hp10
  simp only [List.cons_append, List.nil_append] at hp10
  refine OPS.batch 1 {} [] [2] [.slice a7 (0 + s.n) c8] .nil (by kernel_rfl) (fun b11 => ?_)
  refine OPS.nil ?_
  refine thn_n ?_
  refine WP.ret ?_
  refine bodyQ.of _ rfl [.slice a7 (0 + s.n) c8] ⟨rfl, trivial⟩ ?_
  exact ⟨_, _, _, rfl, by omega, hp10⟩

theorem t_copies (l : List GCall) (a : Option Addr) (n c : Nat) (w : World) (hn : n = l.length) (hb : l.length ≤ 8796093022207) (hs : SlR w a n (l.flatMap GCall.cells)) (hb2 : l.length ≤ 1048576) (hv : ∀ y ∈ l, VB w y.Value) (hvn : ∀ y ∈ l, y.Value.n ≤ 140737488351232) :
    Calls Try.prog 39 #[.slice a n c] w (fun r_ w' => ∃ ao no co cl bs F, r_ = .returned (.slice ao no co) ∧ cpC w l cl bs l.length ∧ Hp w Non [Res.own 73 11 (.slice ao no co) no (List.flatMap GCall.cells cl), Res.vc F cl bs] w') := by
  refine calls_of Try.func39 rfl 22 rfl (by simp) ?_
  have hp0 := Hp.init w
  have he0 : List.map (env0 [.slice a n c]) [0] = [.slice a n c] := by kernel_rfl
  obtain ⟨b0, he0⟩ := toMk he0
  rw [he0]
  clear he0
  refine WP.seq ?_
  refine WP.pure {} [] [0] [.slice a n c] .nil (by kernel_rfl) (fun b1 => ?_)
  refine thn_n ?_
  refine WP.seq ?_
  refine WP.pure {} [] [0, 3] [.slice a n c, .slice none 0 0] .nil (by kernel_rfl) (fun b2 => ?_)
  refine thn_n ?_
  refine WP.seq ?_
  refine WP.seq ?_
  refine WP.pure {} [] [3, 6, 7, 8] [.slice none 0 0, .slice a n c, .int .i64 ((n : Nat) : Int), .int .i64 0] .nil (by kernel_rfl) (fun b3 => ?_)
  refine thn_n ?_
  refine WP.block ?_
  have hp4 := hp0.vcNil
  have hp5 := hp4.nilOwn 73 11
  rw [show ([] : List Go.Value) = List.flatMap GCall.cells ([] : List GCall) from rfl] at hp5
  refine WP.loop (fun mz_ e6 w7 => ∃ (k : Nat) (cl : List GCall) (bs : List (List Int)) (F : Nat → Prop) (ao : Option Addr) (no : Nat) (co : Nat), mz_ = l.length - k ∧ (k ≤ l.length ∧ cpC w l cl bs k) ∧ List.map e6 [3, 6, 7, 8] = [.slice ao no co, .slice a n c, .int .i64 ((n : Nat) : Int), .int .i64 (k : Int)] ∧ Hp w Non [Res.own 73 11 (.slice ao no co) no (List.flatMap GCall.cells cl), Res.vc F cl bs] w7) (l.length - (0)) ⟨0, [], [], fun _ => False, none, 0, 0, rfl, ⟨by omega, rfl, rfl, fun i hi => by omega⟩, by kernel_rfl, hp5⟩ ?_
  rintro _ e6 w7 ⟨k, cl, bs, F, ao, no, co, rfl, hI9, hE10, hp8⟩
  obtain ⟨b11, rfl⟩ := toMk hE10
  clear hE10
  obtain ⟨pa, pb⟩ := hI9
  have pd := pb.1
  have pe := own_flat (sz := 11) (fun _ => rfl) (by decide) hp8.get0
  refine WP.seq ?_
  refine WP.pure {} [] [3, 6, 7, 8, 9] [.slice ao no co, .slice a n c, .int .i64 ((n : Nat) : Int), .int .i64 (k : Int), .bool (decide ((k : Int) < ((n : Nat) : Int)))] .nil (by kernel_rfl) (fun b12 => ?_)
  refine thn_n ?_
  refine WP.seq ?_
  refine WP.test (p := (k : Int) < ((n : Nat) : Int)) rfl Bp.dec (fun h13 => ?_) (fun h13 => ?_)
  · refine WP.skip ?_
    refine thn_n ?_
    refine WP.seq ?_
    refine WP.block ?_
    refine WP.seq ?_
    refine WP.region _ rfl (by kernel_rfl) ?_
    have hy17 : (l)[k]? = some l[k]! := get_bang (by first | (omega) | (simp only [List.length_append, List.length_cons, List.length_nil]; omega) | (simp only [List.length_take, List.length_append, List.length_cons, List.length_nil]; omega))
    refine OPS.batch 2 {} [GCall.val (l[k]!)] [3, 6, 7, 8, 11] [.slice ao no co, .slice a n c, .int .i64 ((n : Nat) : Int), .int .i64 (k : Int), GCall.val (l[k]!)] (.cons (show InB ((k : Int)) (n) from ⟨by omega, by omega⟩) (.cons ((hs.at hp8).some (by omega)) (.cons (Ld.add0 (Ld.elN (P := Try.prog) (t := 73) (hs.at hp8).rd 11 (fun _ => rfl) hy17 (o := 0) (cs := [.int .i64 (l[k]!.Client), .int .i64 (l[k]!.Op), .bool (l[k]!.Put), .string (l[k]!.Key), .slice (l[k]!.Value.a) (l[k]!.Value.n) (l[k]!.Value.c), .int .i64 (l[k]!.Status), .int .i64 (l[k]!.From), .int .i64 (l[k]!.To), .bool (l[k]!.Open), .int .i64 (l[k]!.Tag.Count), .int .i64 (l[k]!.Tag.Client)]) (by kernel_rfl))) .nil))) (by kernel_rfl) (fun b18 => ?_)
    refine OPS.cons (opStep.alloc hp8 [.int .i64 0, .int .i64 0, .bool false, .string ByteArray.empty, .slice none 0 0, .int .i64 0, .int .i64 0, .int .i64 0, .bool false, .int .i64 0, .int .i64 0] (by kernel_rfl) (fun g21 w19 hp20 => ?_))
    refine OPS.cons (opStep.store0 hp20 rfl [.int .i64 (l[k]!.Client), .int .i64 (l[k]!.Op), .bool (l[k]!.Put), .string (l[k]!.Key), .slice (l[k]!.Value.a) (l[k]!.Value.n) (l[k]!.Value.c), .int .i64 (l[k]!.Status), .int .i64 (l[k]!.From), .int .i64 (l[k]!.To), .bool (l[k]!.Open), .int .i64 (l[k]!.Tag.Count), .int .i64 (l[k]!.Tag.Client)] [.int .i64 (l[k]!.Client), .int .i64 (l[k]!.Op), .bool (l[k]!.Put), .string (l[k]!.Key), .slice (l[k]!.Value.a) (l[k]!.Value.n) (l[k]!.Value.c), .int .i64 (l[k]!.Status), .int .i64 (l[k]!.From), .int .i64 (l[k]!.To), .bool (l[k]!.Open), .int .i64 (l[k]!.Tag.Count), .int .i64 (l[k]!.Tag.Client)] (by kernel_rfl) (fun w22 hp23 => ?_))
    refine OPS.nil ?_
    refine thn_n ?_
    refine WP.seq ?_
    refine WP.region _ rfl (by kernel_rfl) ?_
    refine OPS.batch 2 {} [.slice (l[k]!.Value.a) (l[k]!.Value.n) (l[k]!.Value.c)] [3, 5, 6, 7, 8, 13] [.slice ao no co, .pointer (some ⟨g21, 0, none⟩), .slice a n c, .int .i64 ((n : Nat) : Int), .int .i64 (k : Int), .slice (l[k]!.Value.a) (l[k]!.Value.n) (l[k]!.Value.c)] (.cons (Ld.row1 (P := Try.prog) (t := 71) (o := 4) (v := .slice (l[k]!.Value.a) (l[k]!.Value.n) (l[k]!.Value.c)) hp23.get0 (by kernel_rfl)) .nil) (by kernel_rfl) (fun b24 => ?_)
    refine OPS.cons (opStep.call (some 14) [.slice (l[k]!.Value.a) (l[k]!.Value.n) (l[k]!.Value.c)] (by kernel_rfl) (t_own (l[k]!.Value) _ (VB.at' (hv l[k]! (List.mem_of_getElem? hy17)) hp23.fr) (by exact hvn _ (List.mem_of_getElem? (get_bang (by omega))))) ?_)
    rintro _ w27 ⟨a29, n30, c31, rfl, hn32, hp28⟩
    rw [VB.fram (hv l[k]! (List.mem_of_getElem? hy17)) hp23.fr] at hp28
    refine ⟨_, rfl, ?_⟩
    have hp33 := hp23.made hp28
    refine OPS.batch 1 {} [] [3, 5, 6, 7, 8, 14, 15] [.slice ao no co, .pointer (some ⟨g21, 0, none⟩), .slice a n c, .int .i64 ((n : Nat) : Int), .int .i64 (k : Int), .slice a29 n30 c31, .pointer (some ⟨g21, 4, none⟩)] .nil (by kernel_rfl) (fun b34 => ?_)
    refine OPS.cons (opStep.store1 hp33 rfl [.slice a29 n30 c31] [.int .i64 (l[k]!.Client), .int .i64 (l[k]!.Op), .bool (l[k]!.Put), .string (l[k]!.Key), .slice a29 n30 c31, .int .i64 (l[k]!.Status), .int .i64 (l[k]!.From), .int .i64 (l[k]!.To), .bool (l[k]!.Open), .int .i64 (l[k]!.Tag.Count), .int .i64 (l[k]!.Tag.Client)] (by kernel_rfl) (fun w35 hp36 => ?_))
    refine OPS.nil ?_
    refine thn_n ?_
    refine WP.region _ rfl (by kernel_rfl) ?_
    refine OPS.batch 2 {} [.agg #[.int .i64 (l[k]!.Client), .int .i64 (l[k]!.Op), .bool (l[k]!.Put), .string (l[k]!.Key), .slice a29 n30 c31, .int .i64 (l[k]!.Status), .int .i64 (l[k]!.From), .int .i64 (l[k]!.To), .bool (l[k]!.Open), .int .i64 (l[k]!.Tag.Count), .int .i64 (l[k]!.Tag.Client)]] [6, 7, 8, 16, 17] [.slice a n c, .int .i64 ((n : Nat) : Int), .int .i64 (k : Int), .slice ao no co, .agg #[.int .i64 (l[k]!.Client), .int .i64 (l[k]!.Op), .bool (l[k]!.Put), .string (l[k]!.Key), .slice a29 n30 c31, .int .i64 (l[k]!.Status), .int .i64 (l[k]!.From), .int .i64 (l[k]!.To), .bool (l[k]!.Open), .int .i64 (l[k]!.Tag.Count), .int .i64 (l[k]!.Tag.Client)]] (.cons (show Ld Try.prog w35 73 ⟨g21, 0, none⟩ (.agg #[.int .i64 (l[k]!.Client), .int .i64 (l[k]!.Op), .bool (l[k]!.Put), .string (l[k]!.Key), .slice a29 n30 c31, .int .i64 (l[k]!.Status), .int .i64 (l[k]!.From), .int .i64 (l[k]!.To), .bool (l[k]!.Open), .int .i64 (l[k]!.Tag.Count), .int .i64 (l[k]!.Tag.Client)]) from Ld.rowN (cs := [.int .i64 (l[k]!.Client), .int .i64 (l[k]!.Op), .bool (l[k]!.Put), .string (l[k]!.Key), .slice a29 n30 c31, .int .i64 (l[k]!.Status), .int .i64 (l[k]!.From), .int .i64 (l[k]!.To), .bool (l[k]!.Open), .int .i64 (l[k]!.Tag.Count), .int .i64 (l[k]!.Tag.Client)]) hp36.get1 (by kernel_rfl)) .nil) (by kernel_rfl) (fun b37 => ?_)
    refine OPS.cons (opStep.buildSlice (E := 73) hp36 [.int .i64 (l[k]!.Client), .int .i64 (l[k]!.Op), .bool (l[k]!.Put), .string (l[k]!.Key), .slice a29 n30 c31, .int .i64 (l[k]!.Status), .int .i64 (l[k]!.From), .int .i64 (l[k]!.To), .bool (l[k]!.Open), .int .i64 (l[k]!.Tag.Count), .int .i64 (l[k]!.Tag.Client)] (by kernel_rfl) (fun g40 w38 hp39 => ?_))
    refine OPS.cons (opStep.append3 [.int .i64 (l[k]!.Client), .int .i64 (l[k]!.Op), .bool (l[k]!.Put), .string (l[k]!.Key), .slice a29 n30 c31, .int .i64 (l[k]!.Status), .int .i64 (l[k]!.From), .int .i64 (l[k]!.To), .bool (l[k]!.Open), .int .i64 (l[k]!.Tag.Count), .int .i64 (l[k]!.Tag.Client)] hp39 112 (by kernel_rfl) rfl rfl rfl (SlR.row (n := 1) hp39.get0 rfl).rd (List.all_eq_true.1 (by kernel_rfl)) (by decide) (by omega) (by omega) (fun a43 c44 w45 hp46 hn47 => ?_))
    rw [(show List.flatMap GCall.cells cl ++ [.int .i64 (l[k]!.Client), .int .i64 (l[k]!.Op), .bool (l[k]!.Put), .string (l[k]!.Key), .slice a29 n30 c31, .int .i64 (l[k]!.Status), .int .i64 (l[k]!.From), .int .i64 (l[k]!.To), .bool (l[k]!.Open), .int .i64 (l[k]!.Tag.Count), .int .i64 (l[k]!.Tag.Client)] = List.flatMap GCall.cells (cl ++ [(⟨l[k]!.Client, l[k]!.Op, l[k]!.Put, l[k]!.Key, ⟨a29, n30, c31⟩, l[k]!.Status, l[k]!.From, l[k]!.To, l[k]!.Open, (⟨l[k]!.Tag.Count, l[k]!.Tag.Client⟩ : GTag)⟩ : GCall)]) from (List.flatMap_append (xs := cl) (ys := [(⟨l[k]!.Client, l[k]!.Op, l[k]!.Put, l[k]!.Key, ⟨a29, n30, c31⟩, l[k]!.Status, l[k]!.From, l[k]!.To, l[k]!.Open, (⟨l[k]!.Tag.Count, l[k]!.Tag.Client⟩ : GTag)⟩ : GCall)])).symm)] at hp46
    refine OPS.batch 1 {} [] [3, 6, 7, 8] [.slice a43 (no + 1) c44, .slice a n c, .int .i64 ((n : Nat) : Int), .int .i64 (k : Int)] .nil (by kernel_rfl) (fun b48 => ?_)
    refine OPS.nil ?_
    refine blk_n ?_
    refine thn_n ?_
    refine WP.pure {} [] [3, 6, 7, 8] [.slice a43 (no + 1) c44, .slice a n c, .int .i64 ((n : Nat) : Int), .int .i64 ((k : Int) + 1)] (.cons (show Rng .i64 ((k : Int) + 1) from Rng.i64 (by omega)) .nil) (by kernel_rfl) (fun b49 => ?_)
    refine thn_n ?_
    have hp50 := hp46.pull4
    have hp51 := hp50.pull2
    have hp52 := hp51.vcPush (⟨l[k]!.Client, l[k]!.Op, l[k]!.Put, l[k]!.Key, ⟨a29, n30, c31⟩, l[k]!.Status, l[k]!.From, l[k]!.To, l[k]!.Open, (⟨l[k]!.Tag.Count, l[k]!.Tag.Client⟩ : GTag)⟩ : GCall) (by rw [bytesAt_len]; omega) rfl
    exact ⟨l.length - (k + 1), (by omega), k + 1, cl ++ [(⟨l[k]!.Client, l[k]!.Op, l[k]!.Put, l[k]!.Key, ⟨a29, n30, c31⟩, l[k]!.Status, l[k]!.From, l[k]!.To, l[k]!.Open, (⟨l[k]!.Tag.Count, l[k]!.Tag.Client⟩ : GTag)⟩ : GCall)], bs ++ [bytesAt w l[k]!.Value], fun k_ => F k_ ∨ (Value.slice a29 n30 c31).ownBlock = some k_, a43, no + 1, c44, rfl, ⟨by omega, cpC_step pb ⟨_, rfl⟩ rfl⟩, by kernel_rfl, (((hp52.pull0).pull3).sub (.cons_cons _ (.cons_cons _ (.cons _ (.cons _ (.slnil))))))⟩
  · refine WP.exit ?_
    refine thn_x ?_
    refine thn_x ?_
    refine blk_hit ?_
    refine thn_n ?_
    refine WP.seq ?_
    refine WP.pure {} [] [2] [.slice ao no co] .nil (by kernel_rfl) (fun b53 => ?_)
    refine thn_n ?_
    refine WP.ret ?_
    refine bodyQ.of _ rfl [.slice ao no co] ⟨rfl, trivial⟩ ?_
    obtain rfl : k = l.length := by omega
    exact ⟨_, _, _, _, _, _, rfl, pb, hp8⟩

end Go.Proofs.Ytdahgdkadfdkeaa.K
