/- The walks of PhaB: what each function computes. -/
import Derived.Test.YtgpjpcemfaignaaProg
import Derived.Test.YtgpjpcemfaignaaCoreO
import Derived.Test.YtgpjpcemfaignaaPhL
import Derived.Test.YtgpjpcemfaignaaCoreQ
namespace Go.Proofs.Ytgpjpcemfaignaa.K
open Go Go.Proofs Go.RowKit
set_option linter.unusedVariables false
set_option linter.unusedSimpArgs false
set_option maxRecDepth 20000
set_option maxHeartbeats 4000000

theorem flat_natI (l : List Nat) : List.flatMap (fun (y : Nat) => [Go.Value.int .i64 (y : Int)]) l = List.flatMap (fun (y : Int) => [Go.Value.int .i64 y]) (l.map (fun (y : Nat) => (y : Int))) := by rw [List.flatMap_map]
theorem take_same {l m : List Int} {k : Nat} (h1 : k < l.length) (h2 : k < m.length) (h : l.take k = m.take k) (e : l[k]! = m[k]!) : l.take (k + 1) = m.take (k + 1) := by
  rw [List.take_add_one, List.take_add_one, h, get_bang h1, get_bang h2, e]

theorem s17_sameInts (l1 l2 : List Int) (a1 a2 : Option Addr) (n1 n2 c1 c2 : Nat) (w : World) (m1 : l1.length = n1) (m2 : l2.length = n2) (hb : l1.length ≤ 8796093022207) (h1 : SlR w a1 n1 (List.flatMap (fun (y : Int) => [Go.Value.int .i64 y]) l1)) (h2 : SlR w a2 n2 (List.flatMap (fun (y : Int) => [Go.Value.int .i64 y]) l2)) :
    Calls Try.prog 57 #[.slice a1 n1 c1, .slice a2 n2 c2] w (fun r_ w' => ∃ f_, r_ = .returned (.bool f_) ∧ Bp f_ (l1 = l2) ∧ Fram Non w w') := by
  refine calls_of Try.func57 rfl 26 rfl (by simp) ?_
  have hp0 := Hp.init w
  have he0 : List.map (env0 [.slice a1 n1 c1, .slice a2 n2 c2]) [0, 1] = [.slice a1 n1 c1, .slice a2 n2 c2] := by kernel_rfl
  obtain ⟨b0, he0⟩ := toMk he0
  rw [he0]
  clear he0
  refine WP.seq ?_
  refine WP.pure {} [] [0, 1] [.slice a1 n1 c1, .slice a2 n2 c2] .nil (by kernel_rfl) (fun b1 => ?_)
  refine thn_n ?_
  refine WP.seq ?_
  refine WP.seq ?_
  refine WP.pure {} [] [0, 1, 10] [.slice a1 n1 c1, .slice a2 n2 c2, .bool (decide (¬ (((n1 : Nat) : Int) = ((n2 : Nat) : Int))))] .nil (by kernel_rfl) (fun b2 => ?_)
  refine thn_n ?_
  refine WP.test (p := ¬ (((n1 : Nat) : Int) = ((n2 : Nat) : Int))) rfl Bp.dec (fun h3 => ?_) (fun h3 => ?_)
  · refine WP.seq ?_
    refine WP.pure {} [] [4] [.bool false] .nil (by kernel_rfl) (fun b4 => ?_)
    refine thn_n ?_
    refine WP.ret ?_
    refine thn_r ?_
    refine bodyQ.of _ rfl [.bool false] ⟨rfl, trivial⟩ ?_
    exact ⟨_, rfl, Bp.of Bp.f (by exact ⟨fun h => h.elim, fun h => h3 (by rw [h] at m1; omega)⟩), hp0.fr⟩
  · replace h3 := Classical.not_not.1 h3
    refine WP.skip ?_
    refine thn_n ?_
    refine WP.seq ?_
    refine WP.seq ?_
    refine WP.pure {} [] [0, 1, 12, 13] [.slice a1 n1 c1, .slice a2 n2 c2, .int .i64 ((n1 : Nat) : Int), .int .i64 0] .nil (by kernel_rfl) (fun b5 => ?_)
    refine thn_n ?_
    refine WP.block ?_
    refine WP.loop (fun mz_ e6 w7 => ∃ (k : Nat), mz_ = l1.length - k ∧ (k ≤ l1.length ∧ l1.take k = l2.take k) ∧ List.map e6 [0, 1, 12, 13] = [.slice a1 n1 c1, .slice a2 n2 c2, .int .i64 ((n1 : Nat) : Int), .int .i64 (k : Int)] ∧ Hp w Non [] w7) (l1.length - (0)) ⟨0, rfl, ⟨by omega, rfl⟩, by kernel_rfl, hp0⟩ ?_
    rintro _ e6 w7 ⟨k, rfl, hI9, hE10, hp8⟩
    obtain ⟨b11, rfl⟩ := toMk hE10
    clear hE10
    obtain ⟨q1, q2⟩ := hI9
    refine WP.seq ?_
    refine WP.pure {} [] [0, 1, 12, 13, 14] [.slice a1 n1 c1, .slice a2 n2 c2, .int .i64 ((n1 : Nat) : Int), .int .i64 (k : Int), .bool (decide ((k : Int) < ((n1 : Nat) : Int)))] .nil (by kernel_rfl) (fun b12 => ?_)
    refine thn_n ?_
    refine WP.seq ?_
    refine WP.test (p := (k : Int) < ((n1 : Nat) : Int)) rfl Bp.dec (fun h13 => ?_) (fun h13 => ?_)
    · refine WP.skip ?_
      refine thn_n ?_
      refine WP.seq ?_
      refine WP.block ?_
      refine WP.seq ?_
      refine WP.pure {} [] [0, 1, 5, 12, 13] [.slice a1 n1 c1, .slice a2 n2 c2, .int .i64 (k : Int), .int .i64 ((n1 : Nat) : Int), .int .i64 (k : Int)] .nil (by kernel_rfl) (fun b14 => ?_)
      refine thn_n ?_
      refine WP.seq ?_
      have hp17 := hp8.drew
      refine WP.quiet (fun w15 => Hp w Non [] w15) (by kernel_rfl) hp17 ?_
      have hnehp17 : ∃ wz_, (fun w15 => Hp w Non [] w15) wz_ := ⟨_, hp17⟩
      have hy21 : (l1)[k]? = some l1[k]! := get_bang (by first | (omega) | (simp only [List.length_append, List.length_cons, List.length_nil]; omega) | (simp only [List.length_take, List.length_append, List.length_cons, List.length_nil]; omega))
      have hy23 : (l2)[k]? = some l2[k]! := get_bang (by first | (omega) | (simp only [List.length_append, List.length_cons, List.length_nil]; omega) | (simp only [List.length_take, List.length_append, List.length_cons, List.length_nil]; omega))
      refine QOPS.batch 9 {} [.int .i64 (l1[k]!), .int .i64 (l2[k]!)] [0, 1, 12, 13, 24] [.slice a1 n1 c1, .slice a2 n2 c2, .int .i64 ((n1 : Nat) : Int), .int .i64 (k : Int), .bool (decide (¬ ((l1[k]!) = (l2[k]!))))] hnehp17 (fun w18 hp19 => QB.mk (.cons (show InB ((k : Int)) (n1) from ⟨by omega, by omega⟩) (.cons ((h1.at hp19).some (by omega)) (.cons (Ld.add0 (Ld.el1 (P := Try.prog) (t := 3) (h1.at hp19).rd 1 (fun _ => rfl) hy21 (o := 0) (v := .int .i64 (l1[k]!)) (by kernel_rfl))) (.cons (show InB ((k : Int)) (n2) from ⟨by omega, by omega⟩) (.cons ((h2.at hp19).some (by omega)) (.cons (Ld.add0 (Ld.el1 (P := Try.prog) (t := 3) (h2.at hp19).rd 1 (fun _ => rfl) hy23 (o := 0) (v := .int .i64 (l2[k]!)) (by kernel_rfl))) .nil)))))) (by kernel_rfl)) (fun b24 => ?_)
      refine QOPS.nil (fun w25 hp26 => ?_)
      refine thn_n ?_
      refine WP.test (p := ¬ ((l1[k]!) = (l2[k]!))) rfl Bp.dec (fun h27 => ?_) (fun h27 => ?_)
      · refine WP.seq ?_
        refine WP.pure {} [] [4] [.bool false] .nil (by kernel_rfl) (fun b28 => ?_)
        refine thn_n ?_
        refine WP.ret ?_
        refine blk_r ?_
        refine thn_r ?_
        refine thn_r ?_
        refine blk_r ?_
        refine thn_r ?_
        refine bodyQ.of _ rfl [.bool false] ⟨rfl, trivial⟩ ?_
        exact ⟨_, rfl, Bp.of Bp.f (by exact ⟨fun h => h.elim, fun h => h27 (by rw [h])⟩), hp26.fr⟩
      · replace h27 := Classical.not_not.1 h27
        refine WP.skip ?_
        refine blk_n ?_
        refine thn_n ?_
        refine WP.pure {} [] [0, 1, 12, 13] [.slice a1 n1 c1, .slice a2 n2 c2, .int .i64 ((n1 : Nat) : Int), .int .i64 ((k : Int) + 1)] (.cons (show Rng .i64 ((k : Int) + 1) from Rng.i64 (by omega)) .nil) (by kernel_rfl) (fun b29 => ?_)
        refine thn_n ?_
        exact ⟨l1.length - (k + 1), (by omega), k + 1, rfl, ⟨by omega, take_same (by omega) (by omega) q2 h27⟩, by kernel_rfl, hp26⟩
    · refine WP.exit ?_
      refine thn_x ?_
      refine thn_x ?_
      refine blk_hit ?_
      refine thn_n ?_
      refine WP.seq ?_
      refine WP.pure {} [] [4] [.bool true] .nil (by kernel_rfl) (fun b30 => ?_)
      refine thn_n ?_
      refine WP.ret ?_
      refine bodyQ.of _ rfl [.bool true] ⟨rfl, trivial⟩ ?_
      exact ⟨_, rfl, Bp.of Bp.t (by exact ⟨fun _ => by rw [List.take_of_length_le (by omega), List.take_of_length_le (by omega)] at q2; exact q2, fun _ => trivial⟩), hp8.fr⟩

theorem ph_taken (w : World) :
    Calls Try.prog 25 #[] w (fun x w' => x = .returned (.bool true) ∧ Fram Non w w') := by
  refine calls_of Try.func25 rfl 69 rfl (by simp) ?_
  have hp0 := Hp.init w
  have he0 : List.map (env0 []) [] = [] := by kernel_rfl
  obtain ⟨b0, he0⟩ := toMk he0
  rw [he0]
  clear he0
  refine WP.seq ?_
  refine WP.pure {} [] [] [] .nil (by kernel_rfl) (fun b1 => ?_)
  refine thn_n ?_
  refine WP.seq ?_
  refine WP.region _ rfl (by kernel_rfl) ?_
  refine OPS.batch 1 {} [] [10] [.agg #[.int .i64 4, .int .i64 2, .int .i64 0]] .nil (by kernel_rfl) (fun b2 => ?_)
  refine OPS.cons (opStep.call (some 11) [.agg #[.int .i64 4, .int .i64 2, .int .i64 0]] (by kernel_rfl) (ps_New (⟨4, 2, 0⟩ : GConfig) _ (by decide +kernel)) ?_)
  rintro _ w5 ⟨b8, mb9, rfl, hp7⟩
  refine ⟨_, rfl, ?_⟩
  have hp6 := hp0.madeQ hp7
  simp only [List.cons_append, List.nil_append] at hp6
  refine OPS.batch 5 {} [] [1, 2] [.pointer (some ⟨b8, 0, none⟩), .int .i64 0] .nil (by kernel_rfl) (fun b10 => ?_)
  refine OPS.nil ?_
  refine thn_n ?_
  refine WP.seq ?_
  refine WP.seq ?_
  refine WP.pure { wraps := [19] } [] [1, 19] [.pointer (some ⟨b8, 0, none⟩), .bool false] .nil (by kernel_rfl) (fun b11 => ?_)
  refine thn_n ?_
  refine WP.condF rfl ?_
  refine WP.skip ?_
  refine thn_n ?_
  refine WP.seq ?_
  refine WP.region _ rfl (by kernel_rfl) ?_
  refine OPS.batch 1 {} [] [1, 20] [.pointer (some ⟨b8, 0, none⟩), .pointer (some ⟨b8, 0, none⟩)] .nil (by kernel_rfl) (fun b12 => ?_)
  have hp15 := hp6.pull1
  have hp16 := hp15.pull1
  refine OPS.cons (opStep.call (some 21) [.pointer (some ⟨b8, 0, none⟩), .int .i64 2, .string ⟨#[97]⟩] (by kernel_rfl) (ps_Answer _ _ _ mb9 (⟨4, 2, 0⟩ : GConfig) ([] : List (Int × ByteArray)) _ 2 ⟨#[97]⟩ hp16) ?_)
  rintro _ w17 ⟨b19, rfl, hb20, hp18⟩
  refine ⟨_, rfl, ?_⟩
  refine OPS.nil ?_
  refine thn_n ?_
  refine WP.seq ?_
  refine WP.region _ rfl (by kernel_rfl) ?_
  refine OPS.batch 1 {} [] [1, 22] [.pointer (some ⟨b8, 0, none⟩), .pointer (some ⟨b8, 0, none⟩)] .nil (by kernel_rfl) (fun b21 => ?_)
  have hp24 := hp18.pull1
  have hp25 := hp24.pull1
  refine OPS.cons (opStep.call (some 23) [.pointer (some ⟨b8, 0, none⟩), .int .i64 0, .string ⟨#[98]⟩] (by kernel_rfl) (ps_Answer _ _ _ mb9 (⟨4, 2, 0⟩ : GConfig) (ansP (⟨4, 2, 0⟩ : GConfig) ([] : List (Int × ByteArray)) 2 ⟨#[97]⟩) _ 0 ⟨#[98]⟩ hp25) ?_)
  rintro _ w26 ⟨b28, rfl, hb29, hp27⟩
  refine ⟨_, rfl, ?_⟩
  refine OPS.nil ?_
  refine thn_n ?_
  refine WP.seq ?_
  refine WP.region _ rfl (by kernel_rfl) ?_
  refine OPS.batch 1 {} [] [1, 25] [.pointer (some ⟨b8, 0, none⟩), .pointer (some ⟨b8, 0, none⟩)] .nil (by kernel_rfl) (fun b30 => ?_)
  have hp33 := hp27.pull1
  have hp34 := hp33.pull1
  refine OPS.cons (opStep.call (some 26) [.pointer (some ⟨b8, 0, none⟩), .int .i64 2, .string ⟨#[99]⟩] (by kernel_rfl) (ps_Answer _ _ _ mb9 (⟨4, 2, 0⟩ : GConfig) (ansP (⟨4, 2, 0⟩ : GConfig) (ansP (⟨4, 2, 0⟩ : GConfig) ([] : List (Int × ByteArray)) 2 ⟨#[97]⟩) 0 ⟨#[98]⟩) _ 2 ⟨#[99]⟩ hp34) ?_)
  rintro _ w35 ⟨b37, rfl, hb38, hp36⟩
  refine ⟨_, rfl, ?_⟩
  refine OPS.batch 5 {} [] [1, 3, 4] [.pointer (some ⟨b8, 0, none⟩), .bool b37, .int .i64 (errP (⟨4, 2, 0⟩ : GConfig) 2)] .nil (by kernel_rfl) (fun b39 => ?_)
  refine OPS.nil ?_
  refine thn_n ?_
  refine WP.seq ?_
  refine WP.region _ rfl (by kernel_rfl) ?_
  refine OPS.batch 1 {} [] [1, 3, 4, 30] [.pointer (some ⟨b8, 0, none⟩), .bool b37, .int .i64 (errP (⟨4, 2, 0⟩ : GConfig) 2), .pointer (some ⟨b8, 0, none⟩)] .nil (by kernel_rfl) (fun b40 => ?_)
  have hp43 := hp36.pull1
  have hp44 := hp43.pull1
  refine OPS.cons (opStep.call (some 31) [.pointer (some ⟨b8, 0, none⟩), .int .i64 3, .string ⟨#[]⟩] (by kernel_rfl) (ps_Answer _ _ _ mb9 (⟨4, 2, 0⟩ : GConfig) (ansP (⟨4, 2, 0⟩ : GConfig) (ansP (⟨4, 2, 0⟩ : GConfig) (ansP (⟨4, 2, 0⟩ : GConfig) ([] : List (Int × ByteArray)) 2 ⟨#[97]⟩) 0 ⟨#[98]⟩) 2 ⟨#[99]⟩) _ 3 ⟨#[]⟩ hp44) ?_)
  rintro _ w45 ⟨b47, rfl, hb48, hp46⟩
  refine ⟨_, rfl, ?_⟩
  refine OPS.batch 5 {} [] [1, 3, 4, 5, 6] [.pointer (some ⟨b8, 0, none⟩), .bool b37, .int .i64 (errP (⟨4, 2, 0⟩ : GConfig) 2), .bool b47, .int .i64 (errP (⟨4, 2, 0⟩ : GConfig) 3)] .nil (by kernel_rfl) (fun b49 => ?_)
  refine OPS.nil ?_
  refine thn_n ?_
  refine WP.seq ?_
  refine WP.region _ rfl (by kernel_rfl) ?_
  refine OPS.batch 1 {} [] [1, 3, 4, 5, 6, 35] [.pointer (some ⟨b8, 0, none⟩), .bool b37, .int .i64 (errP (⟨4, 2, 0⟩ : GConfig) 2), .bool b47, .int .i64 (errP (⟨4, 2, 0⟩ : GConfig) 3), .pointer (some ⟨b8, 0, none⟩)] .nil (by kernel_rfl) (fun b50 => ?_)
  have hp53 := hp46.pull1
  have hp54 := hp53.pull1
  refine OPS.cons (opStep.call (some 36) [.pointer (some ⟨b8, 0, none⟩), .int .i64 2] (by kernel_rfl) (ps_Get _ _ _ mb9 (⟨4, 2, 0⟩ : GConfig) (ansP (⟨4, 2, 0⟩ : GConfig) (ansP (⟨4, 2, 0⟩ : GConfig) (ansP (⟨4, 2, 0⟩ : GConfig) (ansP (⟨4, 2, 0⟩ : GConfig) ([] : List (Int × ByteArray)) 2 ⟨#[97]⟩) 0 ⟨#[98]⟩) 2 ⟨#[99]⟩) 3 ⟨#[]⟩) _ 2 hp54) ?_)
  rintro _ w55 ⟨rfl, hp56⟩
  refine ⟨_, rfl, ?_⟩
  refine OPS.batch 5 {} [] [1, 3, 4, 5, 6, 7, 8] [.pointer (some ⟨b8, 0, none⟩), .bool b37, .int .i64 (errP (⟨4, 2, 0⟩ : GConfig) 2), .bool b47, .int .i64 (errP (⟨4, 2, 0⟩ : GConfig) 3), .string ((mapV (ansP (⟨4, 2, 0⟩ : GConfig) (ansP (⟨4, 2, 0⟩ : GConfig) (ansP (⟨4, 2, 0⟩ : GConfig) (ansP (⟨4, 2, 0⟩ : GConfig) ([] : List (Int × ByteArray)) 2 ⟨#[97]⟩) 0 ⟨#[98]⟩) 2 ⟨#[99]⟩) 3 ⟨#[]⟩) 2).getD ByteArray.empty), .bool ((mapV (ansP (⟨4, 2, 0⟩ : GConfig) (ansP (⟨4, 2, 0⟩ : GConfig) (ansP (⟨4, 2, 0⟩ : GConfig) (ansP (⟨4, 2, 0⟩ : GConfig) ([] : List (Int × ByteArray)) 2 ⟨#[97]⟩) 0 ⟨#[98]⟩) 2 ⟨#[99]⟩) 3 ⟨#[]⟩) 2).isSome)] .nil (by kernel_rfl) (fun b57 => ?_)
  refine OPS.nil ?_
  refine thn_n ?_
  refine WP.cut (fun e123 w124 => ∃ (x121 : Bool), (True) ∧ Bp x121 (((errP (⟨4, 2, 0⟩ : GConfig) 2) = 0) ∧ ((errP (⟨4, 2, 0⟩ : GConfig) 3) = 0) ∧ (¬ (inP (⟨4, 2, 0⟩ : GConfig) 2 ∧ ¬ (mapV (ansP (⟨4, 2, 0⟩ : GConfig) (ansP (⟨4, 2, 0⟩ : GConfig) ([] : List (Int × ByteArray)) 2 ⟨#[97]⟩) 0 ⟨#[98]⟩) 2).isSome = true)) ∧ (inP (⟨4, 2, 0⟩ : GConfig) 3 ∧ ¬ (mapV (ansP (⟨4, 2, 0⟩ : GConfig) (ansP (⟨4, 2, 0⟩ : GConfig) (ansP (⟨4, 2, 0⟩ : GConfig) ([] : List (Int × ByteArray)) 2 ⟨#[97]⟩) 0 ⟨#[98]⟩) 2 ⟨#[99]⟩) 3).isSome = true) ∧ (((mapV (ansP (⟨4, 2, 0⟩ : GConfig) (ansP (⟨4, 2, 0⟩ : GConfig) (ansP (⟨4, 2, 0⟩ : GConfig) (ansP (⟨4, 2, 0⟩ : GConfig) ([] : List (Int × ByteArray)) 2 ⟨#[97]⟩) 0 ⟨#[98]⟩) 2 ⟨#[99]⟩) 3 ⟨#[]⟩) 2).isSome) = true) ∧ (((mapV (ansP (⟨4, 2, 0⟩ : GConfig) (ansP (⟨4, 2, 0⟩ : GConfig) (ansP (⟨4, 2, 0⟩ : GConfig) (ansP (⟨4, 2, 0⟩ : GConfig) ([] : List (Int × ByteArray)) 2 ⟨#[97]⟩) 0 ⟨#[98]⟩) 2 ⟨#[99]⟩) 3 ⟨#[]⟩) 2).getD ByteArray.empty) = ⟨#[99]⟩) ∧ (qSize (⟨4, 2, 0⟩ : GConfig) ≤ (((ansP (⟨4, 2, 0⟩ : GConfig) (ansP (⟨4, 2, 0⟩ : GConfig) (ansP (⟨4, 2, 0⟩ : GConfig) (ansP (⟨4, 2, 0⟩ : GConfig) ([] : List (Int × ByteArray)) 2 ⟨#[97]⟩) 0 ⟨#[98]⟩) 2 ⟨#[99]⟩) 3 ⟨#[]⟩).length : Nat) : Int)) ∧ (((missP (ansP (⟨4, 2, 0⟩ : GConfig) (ansP (⟨4, 2, 0⟩ : GConfig) (ansP (⟨4, 2, 0⟩ : GConfig) (ansP (⟨4, 2, 0⟩ : GConfig) ([] : List (Int × ByteArray)) 2 ⟨#[97]⟩) 0 ⟨#[98]⟩) 2 ⟨#[99]⟩) 3 ⟨#[]⟩) (⟨4, 2, 0⟩ : GConfig).N.toNat).map (fun (y : Nat) => (y : Int))) = [1])) ∧ List.map e123 [0] = [.bool x121] ∧ Hp w Non [Res.row b8 [.int .i64 ((⟨4, 2, 0⟩ : GConfig).N), .int .i64 ((⟨4, 2, 0⟩ : GConfig).K), .int .i64 ((⟨4, 2, 0⟩ : GConfig).Delta), .map (some mb9)] 143, Res.mp mb9 kI vS (ansP (⟨4, 2, 0⟩ : GConfig) (ansP (⟨4, 2, 0⟩ : GConfig) (ansP (⟨4, 2, 0⟩ : GConfig) (ansP (⟨4, 2, 0⟩ : GConfig) ([] : List (Int × ByteArray)) 2 ⟨#[97]⟩) 0 ⟨#[98]⟩) 2 ⟨#[99]⟩) 3 ⟨#[]⟩)] w124) ?_ ?_
  · refine WP.region _ rfl (by kernel_rfl) ?_
    refine OPS.batch 3 {} [] [1, 3, 5, 6, 7, 8, 41] [.pointer (some ⟨b8, 0, none⟩), .bool b37, .bool b47, .int .i64 (errP (⟨4, 2, 0⟩ : GConfig) 3), .string ((mapV (ansP (⟨4, 2, 0⟩ : GConfig) (ansP (⟨4, 2, 0⟩ : GConfig) (ansP (⟨4, 2, 0⟩ : GConfig) (ansP (⟨4, 2, 0⟩ : GConfig) ([] : List (Int × ByteArray)) 2 ⟨#[97]⟩) 0 ⟨#[98]⟩) 2 ⟨#[99]⟩) 3 ⟨#[]⟩) 2).getD ByteArray.empty), .bool ((mapV (ansP (⟨4, 2, 0⟩ : GConfig) (ansP (⟨4, 2, 0⟩ : GConfig) (ansP (⟨4, 2, 0⟩ : GConfig) (ansP (⟨4, 2, 0⟩ : GConfig) ([] : List (Int × ByteArray)) 2 ⟨#[97]⟩) 0 ⟨#[98]⟩) 2 ⟨#[99]⟩) 3 ⟨#[]⟩) 2).isSome), .bool (decide ((errP (⟨4, 2, 0⟩ : GConfig) 2) = 0))] .nil (by kernel_rfl) (fun b59 => ?_)
    by_cases h60 : (errP (⟨4, 2, 0⟩ : GConfig) 2) = 0
    · refine OPS.batch 0 {} [] [1, 3, 5, 6, 7, 8, 41] [.pointer (some ⟨b8, 0, none⟩), .bool b37, .bool b47, .int .i64 (errP (⟨4, 2, 0⟩ : GConfig) 3), .string ((mapV (ansP (⟨4, 2, 0⟩ : GConfig) (ansP (⟨4, 2, 0⟩ : GConfig) (ansP (⟨4, 2, 0⟩ : GConfig) (ansP (⟨4, 2, 0⟩ : GConfig) ([] : List (Int × ByteArray)) 2 ⟨#[97]⟩) 0 ⟨#[98]⟩) 2 ⟨#[99]⟩) 3 ⟨#[]⟩) 2).getD ByteArray.empty), .bool ((mapV (ansP (⟨4, 2, 0⟩ : GConfig) (ansP (⟨4, 2, 0⟩ : GConfig) (ansP (⟨4, 2, 0⟩ : GConfig) (ansP (⟨4, 2, 0⟩ : GConfig) ([] : List (Int × ByteArray)) 2 ⟨#[97]⟩) 0 ⟨#[98]⟩) 2 ⟨#[99]⟩) 3 ⟨#[]⟩) 2).isSome), .bool (decide ((errP (⟨4, 2, 0⟩ : GConfig) 2) = 0))] .nil (by kernel_rfl) (fun b61 => ?_)
      refine OPS.re [.pointer (some ⟨b8, 0, none⟩), .bool b37, .bool b47, .int .i64 (errP (⟨4, 2, 0⟩ : GConfig) 3), .string ((mapV (ansP (⟨4, 2, 0⟩ : GConfig) (ansP (⟨4, 2, 0⟩ : GConfig) (ansP (⟨4, 2, 0⟩ : GConfig) (ansP (⟨4, 2, 0⟩ : GConfig) ([] : List (Int × ByteArray)) 2 ⟨#[97]⟩) 0 ⟨#[98]⟩) 2 ⟨#[99]⟩) 3 ⟨#[]⟩) 2).getD ByteArray.empty), .bool ((mapV (ansP (⟨4, 2, 0⟩ : GConfig) (ansP (⟨4, 2, 0⟩ : GConfig) (ansP (⟨4, 2, 0⟩ : GConfig) (ansP (⟨4, 2, 0⟩ : GConfig) ([] : List (Int × ByteArray)) 2 ⟨#[97]⟩) 0 ⟨#[98]⟩) 2 ⟨#[99]⟩) 3 ⟨#[]⟩) 2).isSome), .bool true] (by rw [show (decide ((errP (⟨4, 2, 0⟩ : GConfig) 2) = 0)) = true from Bp.dec.tt h60]) ?_
      refine OPS.batch 4 { wraps := [44] } [] [1, 3, 5, 7, 8, 45] [.pointer (some ⟨b8, 0, none⟩), .bool b37, .bool b47, .string ((mapV (ansP (⟨4, 2, 0⟩ : GConfig) (ansP (⟨4, 2, 0⟩ : GConfig) (ansP (⟨4, 2, 0⟩ : GConfig) (ansP (⟨4, 2, 0⟩ : GConfig) ([] : List (Int × ByteArray)) 2 ⟨#[97]⟩) 0 ⟨#[98]⟩) 2 ⟨#[99]⟩) 3 ⟨#[]⟩) 2).getD ByteArray.empty), .bool ((mapV (ansP (⟨4, 2, 0⟩ : GConfig) (ansP (⟨4, 2, 0⟩ : GConfig) (ansP (⟨4, 2, 0⟩ : GConfig) (ansP (⟨4, 2, 0⟩ : GConfig) ([] : List (Int × ByteArray)) 2 ⟨#[97]⟩) 0 ⟨#[98]⟩) 2 ⟨#[99]⟩) 3 ⟨#[]⟩) 2).isSome), .bool (decide ((errP (⟨4, 2, 0⟩ : GConfig) 3) = 0))] .nil (by kernel_rfl) (fun b62 => ?_)
      by_cases h63 : (errP (⟨4, 2, 0⟩ : GConfig) 3) = 0
      · refine OPS.batch 0 {} [] [1, 3, 5, 7, 8, 45] [.pointer (some ⟨b8, 0, none⟩), .bool b37, .bool b47, .string ((mapV (ansP (⟨4, 2, 0⟩ : GConfig) (ansP (⟨4, 2, 0⟩ : GConfig) (ansP (⟨4, 2, 0⟩ : GConfig) (ansP (⟨4, 2, 0⟩ : GConfig) ([] : List (Int × ByteArray)) 2 ⟨#[97]⟩) 0 ⟨#[98]⟩) 2 ⟨#[99]⟩) 3 ⟨#[]⟩) 2).getD ByteArray.empty), .bool ((mapV (ansP (⟨4, 2, 0⟩ : GConfig) (ansP (⟨4, 2, 0⟩ : GConfig) (ansP (⟨4, 2, 0⟩ : GConfig) (ansP (⟨4, 2, 0⟩ : GConfig) ([] : List (Int × ByteArray)) 2 ⟨#[97]⟩) 0 ⟨#[98]⟩) 2 ⟨#[99]⟩) 3 ⟨#[]⟩) 2).isSome), .bool (decide ((errP (⟨4, 2, 0⟩ : GConfig) 3) = 0))] .nil (by kernel_rfl) (fun b64 => ?_)
        refine OPS.re [.pointer (some ⟨b8, 0, none⟩), .bool b37, .bool b47, .string ((mapV (ansP (⟨4, 2, 0⟩ : GConfig) (ansP (⟨4, 2, 0⟩ : GConfig) (ansP (⟨4, 2, 0⟩ : GConfig) (ansP (⟨4, 2, 0⟩ : GConfig) ([] : List (Int × ByteArray)) 2 ⟨#[97]⟩) 0 ⟨#[98]⟩) 2 ⟨#[99]⟩) 3 ⟨#[]⟩) 2).getD ByteArray.empty), .bool ((mapV (ansP (⟨4, 2, 0⟩ : GConfig) (ansP (⟨4, 2, 0⟩ : GConfig) (ansP (⟨4, 2, 0⟩ : GConfig) (ansP (⟨4, 2, 0⟩ : GConfig) ([] : List (Int × ByteArray)) 2 ⟨#[97]⟩) 0 ⟨#[98]⟩) 2 ⟨#[99]⟩) 3 ⟨#[]⟩) 2).isSome), .bool true] (by rw [show (decide ((errP (⟨4, 2, 0⟩ : GConfig) 3) = 0)) = true from Bp.dec.tt h63]) ?_
        refine OPS.batch 4 { wraps := [48] } [] [1, 5, 7, 8, 49] [.pointer (some ⟨b8, 0, none⟩), .bool b47, .string ((mapV (ansP (⟨4, 2, 0⟩ : GConfig) (ansP (⟨4, 2, 0⟩ : GConfig) (ansP (⟨4, 2, 0⟩ : GConfig) (ansP (⟨4, 2, 0⟩ : GConfig) ([] : List (Int × ByteArray)) 2 ⟨#[97]⟩) 0 ⟨#[98]⟩) 2 ⟨#[99]⟩) 3 ⟨#[]⟩) 2).getD ByteArray.empty), .bool ((mapV (ansP (⟨4, 2, 0⟩ : GConfig) (ansP (⟨4, 2, 0⟩ : GConfig) (ansP (⟨4, 2, 0⟩ : GConfig) (ansP (⟨4, 2, 0⟩ : GConfig) ([] : List (Int × ByteArray)) 2 ⟨#[97]⟩) 0 ⟨#[98]⟩) 2 ⟨#[99]⟩) 3 ⟨#[]⟩) 2).isSome), .bool (!b37)] .nil (by kernel_rfl) (fun b65 => ?_)
        by_cases h66 : inP (⟨4, 2, 0⟩ : GConfig) 2 ∧ ¬ (mapV (ansP (⟨4, 2, 0⟩ : GConfig) (ansP (⟨4, 2, 0⟩ : GConfig) ([] : List (Int × ByteArray)) 2 ⟨#[97]⟩) 0 ⟨#[98]⟩) 2).isSome = true
        · refine OPS.batch 0 {} [] [1, 5, 7, 8, 49] [.pointer (some ⟨b8, 0, none⟩), .bool b47, .string ((mapV (ansP (⟨4, 2, 0⟩ : GConfig) (ansP (⟨4, 2, 0⟩ : GConfig) (ansP (⟨4, 2, 0⟩ : GConfig) (ansP (⟨4, 2, 0⟩ : GConfig) ([] : List (Int × ByteArray)) 2 ⟨#[97]⟩) 0 ⟨#[98]⟩) 2 ⟨#[99]⟩) 3 ⟨#[]⟩) 2).getD ByteArray.empty), .bool ((mapV (ansP (⟨4, 2, 0⟩ : GConfig) (ansP (⟨4, 2, 0⟩ : GConfig) (ansP (⟨4, 2, 0⟩ : GConfig) (ansP (⟨4, 2, 0⟩ : GConfig) ([] : List (Int × ByteArray)) 2 ⟨#[97]⟩) 0 ⟨#[98]⟩) 2 ⟨#[99]⟩) 3 ⟨#[]⟩) 2).isSome), .bool (!b37)] .nil (by kernel_rfl) (fun b115 => ?_)
          refine OPS.re [.pointer (some ⟨b8, 0, none⟩), .bool b47, .string ((mapV (ansP (⟨4, 2, 0⟩ : GConfig) (ansP (⟨4, 2, 0⟩ : GConfig) (ansP (⟨4, 2, 0⟩ : GConfig) (ansP (⟨4, 2, 0⟩ : GConfig) ([] : List (Int × ByteArray)) 2 ⟨#[97]⟩) 0 ⟨#[98]⟩) 2 ⟨#[99]⟩) 3 ⟨#[]⟩) 2).getD ByteArray.empty), .bool ((mapV (ansP (⟨4, 2, 0⟩ : GConfig) (ansP (⟨4, 2, 0⟩ : GConfig) (ansP (⟨4, 2, 0⟩ : GConfig) (ansP (⟨4, 2, 0⟩ : GConfig) ([] : List (Int × ByteArray)) 2 ⟨#[97]⟩) 0 ⟨#[98]⟩) 2 ⟨#[99]⟩) 3 ⟨#[]⟩) 2).isSome), .bool false] (by rw [show (!b37) = false from (Bp.not hb38).ff (fun k => k h66)]) ?_
          refine OPS.batch 20 { wraps := [51, 54, 58, 62, 68] } [] [0] [.bool false] .nil (by kernel_rfl) (fun b116 => ?_)
          refine OPS.nil ?_
          refine thn_n ?_
          exact ⟨false, trivial, Bp.of Bp.f (by first | (simp only [h60, h63, h66, iff_false, false_iff, iff_true, true_iff, Classical.not_not, and_true, true_and, and_false, false_and, or_true, true_or, or_false, false_or, not_true_eq_false, not_false_eq_true, and_self, or_self, iff_self]; done) | (simp [h60, h63, h66]; done) | simp_all), by kernel_rfl, hp56⟩
        · refine OPS.batch 0 {} [] [1, 5, 7, 8, 49] [.pointer (some ⟨b8, 0, none⟩), .bool b47, .string ((mapV (ansP (⟨4, 2, 0⟩ : GConfig) (ansP (⟨4, 2, 0⟩ : GConfig) (ansP (⟨4, 2, 0⟩ : GConfig) (ansP (⟨4, 2, 0⟩ : GConfig) ([] : List (Int × ByteArray)) 2 ⟨#[97]⟩) 0 ⟨#[98]⟩) 2 ⟨#[99]⟩) 3 ⟨#[]⟩) 2).getD ByteArray.empty), .bool ((mapV (ansP (⟨4, 2, 0⟩ : GConfig) (ansP (⟨4, 2, 0⟩ : GConfig) (ansP (⟨4, 2, 0⟩ : GConfig) (ansP (⟨4, 2, 0⟩ : GConfig) ([] : List (Int × ByteArray)) 2 ⟨#[97]⟩) 0 ⟨#[98]⟩) 2 ⟨#[99]⟩) 3 ⟨#[]⟩) 2).isSome), .bool (!b37)] .nil (by kernel_rfl) (fun b67 => ?_)
          refine OPS.re [.pointer (some ⟨b8, 0, none⟩), .bool b47, .string ((mapV (ansP (⟨4, 2, 0⟩ : GConfig) (ansP (⟨4, 2, 0⟩ : GConfig) (ansP (⟨4, 2, 0⟩ : GConfig) (ansP (⟨4, 2, 0⟩ : GConfig) ([] : List (Int × ByteArray)) 2 ⟨#[97]⟩) 0 ⟨#[98]⟩) 2 ⟨#[99]⟩) 3 ⟨#[]⟩) 2).getD ByteArray.empty), .bool ((mapV (ansP (⟨4, 2, 0⟩ : GConfig) (ansP (⟨4, 2, 0⟩ : GConfig) (ansP (⟨4, 2, 0⟩ : GConfig) (ansP (⟨4, 2, 0⟩ : GConfig) ([] : List (Int × ByteArray)) 2 ⟨#[97]⟩) 0 ⟨#[98]⟩) 2 ⟨#[99]⟩) 3 ⟨#[]⟩) 2).isSome), .bool true] (by rw [show (!b37) = true from (Bp.not hb38).tt h66]) ?_
          refine OPS.batch 3 { wraps := [51] } [] [1, 7, 8, 52] [.pointer (some ⟨b8, 0, none⟩), .string ((mapV (ansP (⟨4, 2, 0⟩ : GConfig) (ansP (⟨4, 2, 0⟩ : GConfig) (ansP (⟨4, 2, 0⟩ : GConfig) (ansP (⟨4, 2, 0⟩ : GConfig) ([] : List (Int × ByteArray)) 2 ⟨#[97]⟩) 0 ⟨#[98]⟩) 2 ⟨#[99]⟩) 3 ⟨#[]⟩) 2).getD ByteArray.empty), .bool ((mapV (ansP (⟨4, 2, 0⟩ : GConfig) (ansP (⟨4, 2, 0⟩ : GConfig) (ansP (⟨4, 2, 0⟩ : GConfig) (ansP (⟨4, 2, 0⟩ : GConfig) ([] : List (Int × ByteArray)) 2 ⟨#[97]⟩) 0 ⟨#[98]⟩) 2 ⟨#[99]⟩) 3 ⟨#[]⟩) 2).isSome), .bool b47] .nil (by kernel_rfl) (fun b68 => ?_)
          by_cases h69 : inP (⟨4, 2, 0⟩ : GConfig) 3 ∧ ¬ (mapV (ansP (⟨4, 2, 0⟩ : GConfig) (ansP (⟨4, 2, 0⟩ : GConfig) (ansP (⟨4, 2, 0⟩ : GConfig) ([] : List (Int × ByteArray)) 2 ⟨#[97]⟩) 0 ⟨#[98]⟩) 2 ⟨#[99]⟩) 3).isSome = true
          · rw [show b47 = true from hb48.tt h69]
            refine OPS.batch 3 { wraps := [54] } [] [1, 7, 55] [.pointer (some ⟨b8, 0, none⟩), .string ((mapV (ansP (⟨4, 2, 0⟩ : GConfig) (ansP (⟨4, 2, 0⟩ : GConfig) (ansP (⟨4, 2, 0⟩ : GConfig) (ansP (⟨4, 2, 0⟩ : GConfig) ([] : List (Int × ByteArray)) 2 ⟨#[97]⟩) 0 ⟨#[98]⟩) 2 ⟨#[99]⟩) 3 ⟨#[]⟩) 2).getD ByteArray.empty), .bool ((mapV (ansP (⟨4, 2, 0⟩ : GConfig) (ansP (⟨4, 2, 0⟩ : GConfig) (ansP (⟨4, 2, 0⟩ : GConfig) (ansP (⟨4, 2, 0⟩ : GConfig) ([] : List (Int × ByteArray)) 2 ⟨#[97]⟩) 0 ⟨#[98]⟩) 2 ⟨#[99]⟩) 3 ⟨#[]⟩) 2).isSome)] .nil (by kernel_rfl) (fun b70 => ?_)
            by_cases h71 : ((mapV (ansP (⟨4, 2, 0⟩ : GConfig) (ansP (⟨4, 2, 0⟩ : GConfig) (ansP (⟨4, 2, 0⟩ : GConfig) (ansP (⟨4, 2, 0⟩ : GConfig) ([] : List (Int × ByteArray)) 2 ⟨#[97]⟩) 0 ⟨#[98]⟩) 2 ⟨#[99]⟩) 3 ⟨#[]⟩) 2).isSome) = true
            · refine OPS.batch 0 {} [] [1, 7, 55] [.pointer (some ⟨b8, 0, none⟩), .string ((mapV (ansP (⟨4, 2, 0⟩ : GConfig) (ansP (⟨4, 2, 0⟩ : GConfig) (ansP (⟨4, 2, 0⟩ : GConfig) (ansP (⟨4, 2, 0⟩ : GConfig) ([] : List (Int × ByteArray)) 2 ⟨#[97]⟩) 0 ⟨#[98]⟩) 2 ⟨#[99]⟩) 3 ⟨#[]⟩) 2).getD ByteArray.empty), .bool ((mapV (ansP (⟨4, 2, 0⟩ : GConfig) (ansP (⟨4, 2, 0⟩ : GConfig) (ansP (⟨4, 2, 0⟩ : GConfig) (ansP (⟨4, 2, 0⟩ : GConfig) ([] : List (Int × ByteArray)) 2 ⟨#[97]⟩) 0 ⟨#[98]⟩) 2 ⟨#[99]⟩) 3 ⟨#[]⟩) 2).isSome)] .nil (by kernel_rfl) (fun b72 => ?_)
              refine OPS.re [.pointer (some ⟨b8, 0, none⟩), .string ((mapV (ansP (⟨4, 2, 0⟩ : GConfig) (ansP (⟨4, 2, 0⟩ : GConfig) (ansP (⟨4, 2, 0⟩ : GConfig) (ansP (⟨4, 2, 0⟩ : GConfig) ([] : List (Int × ByteArray)) 2 ⟨#[97]⟩) 0 ⟨#[98]⟩) 2 ⟨#[99]⟩) 3 ⟨#[]⟩) 2).getD ByteArray.empty), .bool true] (by rw [show ((mapV (ansP (⟨4, 2, 0⟩ : GConfig) (ansP (⟨4, 2, 0⟩ : GConfig) (ansP (⟨4, 2, 0⟩ : GConfig) (ansP (⟨4, 2, 0⟩ : GConfig) ([] : List (Int × ByteArray)) 2 ⟨#[97]⟩) 0 ⟨#[98]⟩) 2 ⟨#[99]⟩) 3 ⟨#[]⟩) 2).isSome) = true from Bp.var.tt h71]) ?_
              refine OPS.batch 4 { wraps := [58] } [] [1, 59] [.pointer (some ⟨b8, 0, none⟩), .bool (decide (((mapV (ansP (⟨4, 2, 0⟩ : GConfig) (ansP (⟨4, 2, 0⟩ : GConfig) (ansP (⟨4, 2, 0⟩ : GConfig) (ansP (⟨4, 2, 0⟩ : GConfig) ([] : List (Int × ByteArray)) 2 ⟨#[97]⟩) 0 ⟨#[98]⟩) 2 ⟨#[99]⟩) 3 ⟨#[]⟩) 2).getD ByteArray.empty) = ⟨#[99]⟩))] .nil (by kernel_rfl) (fun b73 => ?_)
              by_cases h74 : ((mapV (ansP (⟨4, 2, 0⟩ : GConfig) (ansP (⟨4, 2, 0⟩ : GConfig) (ansP (⟨4, 2, 0⟩ : GConfig) (ansP (⟨4, 2, 0⟩ : GConfig) ([] : List (Int × ByteArray)) 2 ⟨#[97]⟩) 0 ⟨#[98]⟩) 2 ⟨#[99]⟩) 3 ⟨#[]⟩) 2).getD ByteArray.empty) = ⟨#[99]⟩
              · refine OPS.batch 0 {} [] [1, 59] [.pointer (some ⟨b8, 0, none⟩), .bool (decide (((mapV (ansP (⟨4, 2, 0⟩ : GConfig) (ansP (⟨4, 2, 0⟩ : GConfig) (ansP (⟨4, 2, 0⟩ : GConfig) (ansP (⟨4, 2, 0⟩ : GConfig) ([] : List (Int × ByteArray)) 2 ⟨#[97]⟩) 0 ⟨#[98]⟩) 2 ⟨#[99]⟩) 3 ⟨#[]⟩) 2).getD ByteArray.empty) = ⟨#[99]⟩))] .nil (by kernel_rfl) (fun b75 => ?_)
                refine OPS.re [.pointer (some ⟨b8, 0, none⟩), .bool true] (by rw [show (decide (((mapV (ansP (⟨4, 2, 0⟩ : GConfig) (ansP (⟨4, 2, 0⟩ : GConfig) (ansP (⟨4, 2, 0⟩ : GConfig) (ansP (⟨4, 2, 0⟩ : GConfig) ([] : List (Int × ByteArray)) 2 ⟨#[97]⟩) 0 ⟨#[98]⟩) 2 ⟨#[99]⟩) 3 ⟨#[]⟩) 2).getD ByteArray.empty) = ⟨#[99]⟩)) = true from Bp.dec.tt h74]) ?_
                refine OPS.batch 1 {} [] [1, 59, 60] [.pointer (some ⟨b8, 0, none⟩), .bool true, .pointer (some ⟨b8, 0, none⟩)] .nil (by kernel_rfl) (fun b76 => ?_)
                refine OPS.want (by kernel_rfl) ?_
                have hp79 := hp56.pull1
                have hp80 := hp79.pull1
                refine OPS.cons (opStep.call (some 61) [.pointer (some ⟨b8, 0, none⟩)] (by kernel_rfl) (ps_Met _ _ _ mb9 (⟨4, 2, 0⟩ : GConfig) (ansP (⟨4, 2, 0⟩ : GConfig) (ansP (⟨4, 2, 0⟩ : GConfig) (ansP (⟨4, 2, 0⟩ : GConfig) (ansP (⟨4, 2, 0⟩ : GConfig) ([] : List (Int × ByteArray)) 2 ⟨#[97]⟩) 0 ⟨#[98]⟩) 2 ⟨#[99]⟩) 3 ⟨#[]⟩) _  hp80) ?_)
                rintro _ w81 ⟨b83, rfl, hb84, hp82⟩
                refine ⟨_, rfl, ?_⟩
                refine OPS.batch 2 { wraps := [62] } [] [1, 63] [.pointer (some ⟨b8, 0, none⟩), .bool b83] .nil (by kernel_rfl) (fun b85 => ?_)
                by_cases h86 : qSize (⟨4, 2, 0⟩ : GConfig) ≤ (((ansP (⟨4, 2, 0⟩ : GConfig) (ansP (⟨4, 2, 0⟩ : GConfig) (ansP (⟨4, 2, 0⟩ : GConfig) (ansP (⟨4, 2, 0⟩ : GConfig) ([] : List (Int × ByteArray)) 2 ⟨#[97]⟩) 0 ⟨#[98]⟩) 2 ⟨#[99]⟩) 3 ⟨#[]⟩).length : Nat) : Int)
                · rw [show b83 = true from hb84.tt h86]
                  refine OPS.batch 1 {} [] [63, 64] [.bool true, .pointer (some ⟨b8, 0, none⟩)] .nil (by kernel_rfl) (fun b87 => ?_)
                  refine OPS.want (by kernel_rfl) ?_
                  have hp90 := hp82.pull1
                  have hp91 := hp90.pull1
                  refine OPS.cons (opStep.call (some 65) [.pointer (some ⟨b8, 0, none⟩)] (by kernel_rfl) (ps_Missing _ _ _ mb9 (⟨4, 2, 0⟩ : GConfig) (ansP (⟨4, 2, 0⟩ : GConfig) (ansP (⟨4, 2, 0⟩ : GConfig) (ansP (⟨4, 2, 0⟩ : GConfig) (ansP (⟨4, 2, 0⟩ : GConfig) ([] : List (Int × ByteArray)) 2 ⟨#[97]⟩) 0 ⟨#[98]⟩) 2 ⟨#[99]⟩) 3 ⟨#[]⟩) _ (by first | decide | omega | (show (nn : Int) ≤ 100000; omega)) hp91) ?_)
                  rintro _ w92 ⟨a94, c95, rfl, hp93⟩
                  refine ⟨_, rfl, ?_⟩
                  have hp97 := hp93
                  rw [show List.flatMap (fun (y : Nat) => [Go.Value.int .i64 (y : Int)]) (missP (ansP (⟨4, 2, 0⟩ : GConfig) (ansP (⟨4, 2, 0⟩ : GConfig) (ansP (⟨4, 2, 0⟩ : GConfig) (ansP (⟨4, 2, 0⟩ : GConfig) ([] : List (Int × ByteArray)) 2 ⟨#[97]⟩) 0 ⟨#[98]⟩) 2 ⟨#[99]⟩) 3 ⟨#[]⟩) (⟨4, 2, 0⟩ : GConfig).N.toNat) = List.flatMap (fun (y : Int) => [Go.Value.int .i64 y]) ((missP (ansP (⟨4, 2, 0⟩ : GConfig) (ansP (⟨4, 2, 0⟩ : GConfig) (ansP (⟨4, 2, 0⟩ : GConfig) (ansP (⟨4, 2, 0⟩ : GConfig) ([] : List (Int × ByteArray)) 2 ⟨#[97]⟩) 0 ⟨#[98]⟩) 2 ⟨#[99]⟩) 3 ⟨#[]⟩) (⟨4, 2, 0⟩ : GConfig).N.toNat).map (fun (y : Nat) => (y : Int))) from flat_natI _] at hp97
                  refine OPS.want (by kernel_rfl) ?_
                  refine OPS.cons (opStep.buildSlice (E := 3) hp97 [.int .i64 1] (by kernel_rfl) (fun g100 w98 hp99 => ?_))
                  refine OPS.want (by kernel_rfl) ?_
                  refine OPS.cons (opStep.call (some 67) [.slice a94 ((missP (ansP (⟨4, 2, 0⟩ : GConfig) (ansP (⟨4, 2, 0⟩ : GConfig) (ansP (⟨4, 2, 0⟩ : GConfig) (ansP (⟨4, 2, 0⟩ : GConfig) ([] : List (Int × ByteArray)) 2 ⟨#[97]⟩) 0 ⟨#[98]⟩) 2 ⟨#[99]⟩) 3 ⟨#[]⟩) (⟨4, 2, 0⟩ : GConfig).N.toNat).length) c95, .slice (some ⟨g100, 0, none⟩) 1 1] (by kernel_rfl) (s17_sameInts ((missP (ansP (⟨4, 2, 0⟩ : GConfig) (ansP (⟨4, 2, 0⟩ : GConfig) (ansP (⟨4, 2, 0⟩ : GConfig) (ansP (⟨4, 2, 0⟩ : GConfig) ([] : List (Int × ByteArray)) 2 ⟨#[97]⟩) 0 ⟨#[98]⟩) 2 ⟨#[99]⟩) 3 ⟨#[]⟩) (⟨4, 2, 0⟩ : GConfig).N.toNat).map (fun (y : Nat) => (y : Int))) [1] _ _ _ _ _ _ _ (by first | rfl | (simp; done) | (simp; exact Nat.le_trans (missP_le _ _) (by decide))) (by first | rfl | (simp; done) | (simp; exact Nat.le_trans (missP_le _ _) (by decide))) (by first | rfl | (simp; done) | (simp; exact Nat.le_trans (missP_le _ _) (by decide))) (SlR.own (hp99.get1)) (show SlR w98 (some ⟨g100, 0, none⟩) 1 (List.flatMap (fun y => [.int .i64 y]) [1]) from SlR.row hp99.get0 rfl)) ?_)
                  rintro _ w103 ⟨b106, rfl, hb107, hf104⟩
                  refine ⟨_, rfl, ?_⟩
                  have hp105 := hp99.step hf104
                  refine OPS.batch 2 { wraps := [68] } [] [0] [.bool b106] .nil (by kernel_rfl) (fun b108 => ?_)
                  refine OPS.nil ?_
                  refine thn_n ?_
                  exact ⟨b106, trivial, Bp.of hb107 (by first | (simp only [h60, h63, h66, h69, h71, h74, h86, iff_false, false_iff, iff_true, true_iff, Classical.not_not, and_true, true_and, and_false, false_and, or_true, true_or, or_false, false_or, not_true_eq_false, not_false_eq_true, and_self, or_self, iff_self]; done) | (simp [h60, h63, h66, h69, h71, h74, h86]; done) | simp_all), by kernel_rfl, (hp105.sub (.cons _ (.cons _ (.cons_cons _ (.cons_cons _ (.slnil))))))⟩
                · rw [show b83 = false from hb84.ff h86]
                  refine OPS.batch 6 { wraps := [68] } [] [0] [.bool false] .nil (by kernel_rfl) (fun b109 => ?_)
                  refine OPS.nil ?_
                  refine thn_n ?_
                  exact ⟨false, trivial, Bp.of Bp.f (by first | (simp only [h60, h63, h66, h69, h71, h74, h86, iff_false, false_iff, iff_true, true_iff, Classical.not_not, and_true, true_and, and_false, false_and, or_true, true_or, or_false, false_or, not_true_eq_false, not_false_eq_true, and_self, or_self, iff_self]; done) | (simp [h60, h63, h66, h69, h71, h74, h86]; done) | simp_all), by kernel_rfl, hp82⟩
              · refine OPS.batch 0 {} [] [1, 59] [.pointer (some ⟨b8, 0, none⟩), .bool (decide (((mapV (ansP (⟨4, 2, 0⟩ : GConfig) (ansP (⟨4, 2, 0⟩ : GConfig) (ansP (⟨4, 2, 0⟩ : GConfig) (ansP (⟨4, 2, 0⟩ : GConfig) ([] : List (Int × ByteArray)) 2 ⟨#[97]⟩) 0 ⟨#[98]⟩) 2 ⟨#[99]⟩) 3 ⟨#[]⟩) 2).getD ByteArray.empty) = ⟨#[99]⟩))] .nil (by kernel_rfl) (fun b110 => ?_)
                refine OPS.re [.pointer (some ⟨b8, 0, none⟩), .bool false] (by rw [show (decide (((mapV (ansP (⟨4, 2, 0⟩ : GConfig) (ansP (⟨4, 2, 0⟩ : GConfig) (ansP (⟨4, 2, 0⟩ : GConfig) (ansP (⟨4, 2, 0⟩ : GConfig) ([] : List (Int × ByteArray)) 2 ⟨#[97]⟩) 0 ⟨#[98]⟩) 2 ⟨#[99]⟩) 3 ⟨#[]⟩) 2).getD ByteArray.empty) = ⟨#[99]⟩)) = false from Bp.dec.ff h74]) ?_
                refine OPS.batch 10 { wraps := [62, 68] } [] [0] [.bool false] .nil (by kernel_rfl) (fun b111 => ?_)
                refine OPS.nil ?_
                refine thn_n ?_
                exact ⟨false, trivial, Bp.of Bp.f (by first | (simp only [h60, h63, h66, h69, h71, h74, iff_false, false_iff, iff_true, true_iff, Classical.not_not, and_true, true_and, and_false, false_and, or_true, true_or, or_false, false_or, not_true_eq_false, not_false_eq_true, and_self, or_self, iff_self]; done) | (simp [h60, h63, h66, h69, h71, h74]; done) | simp_all), by kernel_rfl, hp56⟩
            · refine OPS.batch 0 {} [] [1, 7, 55] [.pointer (some ⟨b8, 0, none⟩), .string ((mapV (ansP (⟨4, 2, 0⟩ : GConfig) (ansP (⟨4, 2, 0⟩ : GConfig) (ansP (⟨4, 2, 0⟩ : GConfig) (ansP (⟨4, 2, 0⟩ : GConfig) ([] : List (Int × ByteArray)) 2 ⟨#[97]⟩) 0 ⟨#[98]⟩) 2 ⟨#[99]⟩) 3 ⟨#[]⟩) 2).getD ByteArray.empty), .bool ((mapV (ansP (⟨4, 2, 0⟩ : GConfig) (ansP (⟨4, 2, 0⟩ : GConfig) (ansP (⟨4, 2, 0⟩ : GConfig) (ansP (⟨4, 2, 0⟩ : GConfig) ([] : List (Int × ByteArray)) 2 ⟨#[97]⟩) 0 ⟨#[98]⟩) 2 ⟨#[99]⟩) 3 ⟨#[]⟩) 2).isSome)] .nil (by kernel_rfl) (fun b112 => ?_)
              refine OPS.re [.pointer (some ⟨b8, 0, none⟩), .string ((mapV (ansP (⟨4, 2, 0⟩ : GConfig) (ansP (⟨4, 2, 0⟩ : GConfig) (ansP (⟨4, 2, 0⟩ : GConfig) (ansP (⟨4, 2, 0⟩ : GConfig) ([] : List (Int × ByteArray)) 2 ⟨#[97]⟩) 0 ⟨#[98]⟩) 2 ⟨#[99]⟩) 3 ⟨#[]⟩) 2).getD ByteArray.empty), .bool false] (by rw [show ((mapV (ansP (⟨4, 2, 0⟩ : GConfig) (ansP (⟨4, 2, 0⟩ : GConfig) (ansP (⟨4, 2, 0⟩ : GConfig) (ansP (⟨4, 2, 0⟩ : GConfig) ([] : List (Int × ByteArray)) 2 ⟨#[97]⟩) 0 ⟨#[98]⟩) 2 ⟨#[99]⟩) 3 ⟨#[]⟩) 2).isSome) = false from Bp.var.ff h71]) ?_
              refine OPS.batch 14 { wraps := [58, 62, 68] } [] [0] [.bool false] .nil (by kernel_rfl) (fun b113 => ?_)
              refine OPS.nil ?_
              refine thn_n ?_
              exact ⟨false, trivial, Bp.of Bp.f (by first | (simp only [h60, h63, h66, h69, h71, iff_false, false_iff, iff_true, true_iff, Classical.not_not, and_true, true_and, and_false, false_and, or_true, true_or, or_false, false_or, not_true_eq_false, not_false_eq_true, and_self, or_self, iff_self]; done) | (simp [h60, h63, h66, h69, h71]; done) | simp_all), by kernel_rfl, hp56⟩
          · rw [show b47 = false from hb48.ff h69]
            refine OPS.batch 17 { wraps := [54, 58, 62, 68] } [] [0] [.bool false] .nil (by kernel_rfl) (fun b114 => ?_)
            refine OPS.nil ?_
            refine thn_n ?_
            exact ⟨false, trivial, Bp.of Bp.f (by first | (simp only [h60, h63, h66, h69, iff_false, false_iff, iff_true, true_iff, Classical.not_not, and_true, true_and, and_false, false_and, or_true, true_or, or_false, false_or, not_true_eq_false, not_false_eq_true, and_self, or_self, iff_self]; done) | (simp [h60, h63, h66, h69]; done) | simp_all), by kernel_rfl, hp56⟩
      · refine OPS.batch 0 {} [] [1, 3, 5, 7, 8, 45] [.pointer (some ⟨b8, 0, none⟩), .bool b37, .bool b47, .string ((mapV (ansP (⟨4, 2, 0⟩ : GConfig) (ansP (⟨4, 2, 0⟩ : GConfig) (ansP (⟨4, 2, 0⟩ : GConfig) (ansP (⟨4, 2, 0⟩ : GConfig) ([] : List (Int × ByteArray)) 2 ⟨#[97]⟩) 0 ⟨#[98]⟩) 2 ⟨#[99]⟩) 3 ⟨#[]⟩) 2).getD ByteArray.empty), .bool ((mapV (ansP (⟨4, 2, 0⟩ : GConfig) (ansP (⟨4, 2, 0⟩ : GConfig) (ansP (⟨4, 2, 0⟩ : GConfig) (ansP (⟨4, 2, 0⟩ : GConfig) ([] : List (Int × ByteArray)) 2 ⟨#[97]⟩) 0 ⟨#[98]⟩) 2 ⟨#[99]⟩) 3 ⟨#[]⟩) 2).isSome), .bool (decide ((errP (⟨4, 2, 0⟩ : GConfig) 3) = 0))] .nil (by kernel_rfl) (fun b117 => ?_)
        refine OPS.re [.pointer (some ⟨b8, 0, none⟩), .bool b37, .bool b47, .string ((mapV (ansP (⟨4, 2, 0⟩ : GConfig) (ansP (⟨4, 2, 0⟩ : GConfig) (ansP (⟨4, 2, 0⟩ : GConfig) (ansP (⟨4, 2, 0⟩ : GConfig) ([] : List (Int × ByteArray)) 2 ⟨#[97]⟩) 0 ⟨#[98]⟩) 2 ⟨#[99]⟩) 3 ⟨#[]⟩) 2).getD ByteArray.empty), .bool ((mapV (ansP (⟨4, 2, 0⟩ : GConfig) (ansP (⟨4, 2, 0⟩ : GConfig) (ansP (⟨4, 2, 0⟩ : GConfig) (ansP (⟨4, 2, 0⟩ : GConfig) ([] : List (Int × ByteArray)) 2 ⟨#[97]⟩) 0 ⟨#[98]⟩) 2 ⟨#[99]⟩) 3 ⟨#[]⟩) 2).isSome), .bool false] (by rw [show (decide ((errP (⟨4, 2, 0⟩ : GConfig) 3) = 0)) = false from Bp.dec.ff h63]) ?_
        refine OPS.batch 24 { wraps := [48, 51, 54, 58, 62, 68] } [] [0] [.bool false] .nil (by kernel_rfl) (fun b118 => ?_)
        refine OPS.nil ?_
        refine thn_n ?_
        exact ⟨false, trivial, Bp.of Bp.f (by first | (simp only [h60, h63, iff_false, false_iff, iff_true, true_iff, Classical.not_not, and_true, true_and, and_false, false_and, or_true, true_or, or_false, false_or, not_true_eq_false, not_false_eq_true, and_self, or_self, iff_self]; done) | (simp [h60, h63]; done) | simp_all), by kernel_rfl, hp56⟩
    · refine OPS.batch 0 {} [] [1, 3, 5, 6, 7, 8, 41] [.pointer (some ⟨b8, 0, none⟩), .bool b37, .bool b47, .int .i64 (errP (⟨4, 2, 0⟩ : GConfig) 3), .string ((mapV (ansP (⟨4, 2, 0⟩ : GConfig) (ansP (⟨4, 2, 0⟩ : GConfig) (ansP (⟨4, 2, 0⟩ : GConfig) (ansP (⟨4, 2, 0⟩ : GConfig) ([] : List (Int × ByteArray)) 2 ⟨#[97]⟩) 0 ⟨#[98]⟩) 2 ⟨#[99]⟩) 3 ⟨#[]⟩) 2).getD ByteArray.empty), .bool ((mapV (ansP (⟨4, 2, 0⟩ : GConfig) (ansP (⟨4, 2, 0⟩ : GConfig) (ansP (⟨4, 2, 0⟩ : GConfig) (ansP (⟨4, 2, 0⟩ : GConfig) ([] : List (Int × ByteArray)) 2 ⟨#[97]⟩) 0 ⟨#[98]⟩) 2 ⟨#[99]⟩) 3 ⟨#[]⟩) 2).isSome), .bool (decide ((errP (⟨4, 2, 0⟩ : GConfig) 2) = 0))] .nil (by kernel_rfl) (fun b119 => ?_)
      refine OPS.re [.pointer (some ⟨b8, 0, none⟩), .bool b37, .bool b47, .int .i64 (errP (⟨4, 2, 0⟩ : GConfig) 3), .string ((mapV (ansP (⟨4, 2, 0⟩ : GConfig) (ansP (⟨4, 2, 0⟩ : GConfig) (ansP (⟨4, 2, 0⟩ : GConfig) (ansP (⟨4, 2, 0⟩ : GConfig) ([] : List (Int × ByteArray)) 2 ⟨#[97]⟩) 0 ⟨#[98]⟩) 2 ⟨#[99]⟩) 3 ⟨#[]⟩) 2).getD ByteArray.empty), .bool ((mapV (ansP (⟨4, 2, 0⟩ : GConfig) (ansP (⟨4, 2, 0⟩ : GConfig) (ansP (⟨4, 2, 0⟩ : GConfig) (ansP (⟨4, 2, 0⟩ : GConfig) ([] : List (Int × ByteArray)) 2 ⟨#[97]⟩) 0 ⟨#[98]⟩) 2 ⟨#[99]⟩) 3 ⟨#[]⟩) 2).isSome), .bool false] (by rw [show (decide ((errP (⟨4, 2, 0⟩ : GConfig) 2) = 0)) = false from Bp.dec.ff h60]) ?_
      refine OPS.batch 28 { wraps := [44, 48, 51, 54, 58, 62, 68] } [] [0] [.bool false] .nil (by kernel_rfl) (fun b120 => ?_)
      refine OPS.nil ?_
      refine thn_n ?_
      exact ⟨false, trivial, Bp.of Bp.f (by first | (simp only [h60, iff_false, false_iff, iff_true, true_iff, Classical.not_not, and_true, true_and, and_false, false_and, or_true, true_or, or_false, false_or, not_true_eq_false, not_false_eq_true, and_self, or_self, iff_self]; done) | (simp [h60]; done) | simp_all), by kernel_rfl, hp56⟩
  rintro e123 w124 ⟨x121, hd126, hb122, hE127, hp125⟩
  obtain ⟨b128, rfl⟩ := toMk hE127
  clear hE127
  clear hd126
  refine WP.ret ?_
  refine bodyQ.of _ rfl [.bool x121] ⟨rfl, trivial⟩ ?_
  exact ⟨congrArg (fun b => Ending.returned (.bool b)) (Bp.tt hb122 (by decide +kernel)), hp125.fr⟩

end Go.Proofs.Ytgpjpcemfaignaa.K
