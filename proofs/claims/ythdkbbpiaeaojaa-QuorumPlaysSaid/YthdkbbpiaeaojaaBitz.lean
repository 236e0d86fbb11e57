/- The walks of Bitz: what each function computes. -/
import Derived.Test.YthdkbbpiaeaojaaProg
import Derived.Test.YthdkbbpiaeaojaaCoreO
import Derived.Test.YthdkbbpiaeaojaaLinB
namespace Go.Proofs.Ythdkbbpiaeaojaa.K
open Go Go.Proofs Go.RowKit
set_option linter.unusedVariables false
set_option linter.unusedSimpArgs false
set_option maxRecDepth 20000
set_option maxHeartbeats 4000000

theorem take_same {l m : List Int} {k : Nat} (h1 : k < l.length) (h2 : k < m.length) (h : l.take k = m.take k) (e : l[k]! = m[k]!) : l.take (k + 1) = m.take (k + 1) := by
  rw [List.take_add_one, List.take_add_one, h, get_bang h1, get_bang h2, e]

theorem sherdlaw20_sameInts (l1 l2 : List Int) (a1 a2 : Option Addr) (n1 n2 c1 c2 : Nat) (w : World) (m1 : l1.length = n1) (m2 : l2.length = n2) (hb : l1.length ≤ 8796093022207) (h1 : SlR w a1 n1 (List.flatMap (fun (y : Int) => [Go.Value.int .i64 y]) l1)) (h2 : SlR w a2 n2 (List.flatMap (fun (y : Int) => [Go.Value.int .i64 y]) l2)) :
    Calls Try.prog 22 #[.slice a1 n1 c1, .slice a2 n2 c2] w (fun r_ w' => ∃ f_, r_ = .returned (.bool f_) ∧ Bp f_ (l1 = l2) ∧ Fram Non w w') := by
  refine calls_of Try.func22 rfl 26 rfl (by simp) ?_
  have hp0 := Hp.init w
  have he0 : List.map (env0 [.slice a1 n1 c1, .slice a2 n2 c2]) [0, 1] = [.slice a1 n1 c1, .slice a2 n2 c2] := by kernel_rfl
  obtain ⟨b0, he0⟩ := toMk he0
  rw [he0]
  clear he0
  refine WP.seq ?_
  refine WP.pure {} [] [0, 1] [.slice a1 n1 c1, .slice a2 n2 c2] .nil (by kernel_rfl) (fun b1 => ?_)
  refine thn_n ?_
  refine WP.seq ?_
  refine WP.seq ?_
  refine WP.pure {} [] [0, 1, 10] [.slice a1 n1 c1, .slice a2 n2 c2, .bool (decide (¬ (((n1 : Nat) : Int) = ((n2 : Nat) : Int))))] .nil (by kernel_rfl) (fun b2 => ?_)
  refine thn_n ?_
  refine WP.test (p := ¬ (((n1 : Nat) : Int) = ((n2 : Nat) : Int))) rfl Bp.dec (fun h3 => ?_) (fun h3 => ?_)
  · refine WP.seq ?_
    refine WP.pure {} [] [4] [.bool false] .nil (by kernel_rfl) (fun b4 => ?_)
    refine thn_n ?_
    refine WP.ret ?_
    refine thn_r ?_
    refine bodyQ.of _ rfl [.bool false] ⟨rfl, trivial⟩ ?_
    exact ⟨_, rfl, Bp.of Bp.f (by exact ⟨fun h => h.elim, fun h => h3 (by rw [h] at m1; omega)⟩), hp0.fr⟩
  · replace h3 := Classical.not_not.1 h3
    refine WP.skip ?_
    refine thn_n ?_
    refine WP.seq ?_
    refine WP.seq ?_
    refine WP.pure {} [] [0, 1, 12, 13] [.slice a1 n1 c1, .slice a2 n2 c2, .int .i64 ((n1 : Nat) : Int), .int .i64 0] .nil (by kernel_rfl) (fun b5 => ?_)
    refine thn_n ?_
    refine WP.block ?_
    refine WP.loop (fun mz_ e6 w7 => ∃ (k : Nat), mz_ = l1.length - k ∧ (k ≤ l1.length ∧ l1.take k = l2.take k) ∧ List.map e6 [0, 1, 12, 13] = [.slice a1 n1 c1, .slice a2 n2 c2, .int .i64 ((n1 : Nat) : Int), .int .i64 (k : Int)] ∧ Hp w Non [] w7) (l1.length - (0)) ⟨0, rfl, ⟨by omega, rfl⟩, by kernel_rfl, hp0⟩ ?_
    rintro _ e6 w7 ⟨k, rfl, hI9, hE10, hp8⟩
    obtain ⟨b11, rfl⟩ := toMk hE10
    clear hE10
    obtain ⟨q1, q2⟩ := hI9
    refine WP.seq ?_
    refine WP.pure {} [] [0, 1, 12, 13, 14] [.slice a1 n1 c1, .slice a2 n2 c2, .int .i64 ((n1 : Nat) : Int), .int .i64 (k : Int), .bool (decide ((k : Int) < ((n1 : Nat) : Int)))] .nil (by kernel_rfl) (fun b12 => ?_)
    refine thn_n ?_
    refine WP.seq ?_
    refine WP.test (p := (k : Int) < ((n1 : Nat) : Int)) rfl Bp.dec (fun h13 => ?_) (fun h13 => ?_)
    · refine WP.skip ?_
      refine thn_n ?_
      refine WP.seq ?_
      refine WP.block ?_
      refine WP.seq ?_
      refine WP.pure {} [] [0, 1, 5, 12, 13] [.slice a1 n1 c1, .slice a2 n2 c2, .int .i64 (k : Int), .int .i64 ((n1 : Nat) : Int), .int .i64 (k : Int)] .nil (by kernel_rfl) (fun b14 => ?_)
      refine thn_n ?_
      refine WP.seq ?_
      have hp17 := hp8.drew
      refine WP.quiet (fun w15 => Hp w Non [] w15) (by kernel_rfl) hp17 ?_
      have hnehp17 : ∃ wz_, (fun w15 => Hp w Non [] w15) wz_ := ⟨_, hp17⟩
      have hy21 : (l1)[k]? = some l1[k]! := get_bang (by first | (omega) | (simp only [List.length_append, List.length_cons, List.length_nil]; omega))
      have hy23 : (l2)[k]? = some l2[k]! := get_bang (by first | (omega) | (simp only [List.length_append, List.length_cons, List.length_nil]; omega))
      refine QOPS.batch 9 {} [.int .i64 (l1[k]!), .int .i64 (l2[k]!)] [0, 1, 12, 13, 24] [.slice a1 n1 c1, .slice a2 n2 c2, .int .i64 ((n1 : Nat) : Int), .int .i64 (k : Int), .bool (decide (¬ ((l1[k]!) = (l2[k]!))))] hnehp17 (fun w18 hp19 => QB.mk (.cons (show InB ((k : Int)) (n1) from ⟨by omega, by omega⟩) (.cons ((h1.at hp19).some (by omega)) (.cons (Ld.add0 (Ld.el1 (P := Try.prog) (t := 3) (h1.at hp19).rd 1 (fun _ => rfl) hy21 (o := 0) (v := .int .i64 (l1[k]!)) (by kernel_rfl))) (.cons (show InB ((k : Int)) (n2) from ⟨by omega, by omega⟩) (.cons ((h2.at hp19).some (by omega)) (.cons (Ld.add0 (Ld.el1 (P := Try.prog) (t := 3) (h2.at hp19).rd 1 (fun _ => rfl) hy23 (o := 0) (v := .int .i64 (l2[k]!)) (by kernel_rfl))) .nil)))))) (by kernel_rfl)) (fun b24 => ?_)
      refine QOPS.nil (fun w25 hp26 => ?_)
      refine thn_n ?_
      refine WP.test (p := ¬ ((l1[k]!) = (l2[k]!))) rfl Bp.dec (fun h27 => ?_) (fun h27 => ?_)
      · refine WP.seq ?_
        refine WP.pure {} [] [4] [.bool false] .nil (by kernel_rfl) (fun b28 => ?_)
        refine thn_n ?_
        refine WP.ret ?_
        refine blk_r ?_
        refine thn_r ?_
        refine thn_r ?_
        refine blk_r ?_
        refine thn_r ?_
        refine bodyQ.of _ rfl [.bool false] ⟨rfl, trivial⟩ ?_
        exact ⟨_, rfl, Bp.of Bp.f (by exact ⟨fun h => h.elim, fun h => h27 (by rw [h])⟩), hp26.fr⟩
      · replace h27 := Classical.not_not.1 h27
        refine WP.skip ?_
        refine blk_n ?_
        refine thn_n ?_
        refine WP.pure {} [] [0, 1, 12, 13] [.slice a1 n1 c1, .slice a2 n2 c2, .int .i64 ((n1 : Nat) : Int), .int .i64 ((k : Int) + 1)] (.cons (show Rng .i64 ((k : Int) + 1) from Rng.i64 (by omega)) .nil) (by kernel_rfl) (fun b29 => ?_)
        refine thn_n ?_
        exact ⟨l1.length - (k + 1), (by omega), k + 1, rfl, ⟨by omega, take_same (by omega) (by omega) q2 h27⟩, by kernel_rfl, hp26⟩
    · refine WP.exit ?_
      refine thn_x ?_
      refine thn_x ?_
      refine blk_hit ?_
      refine thn_n ?_
      refine WP.seq ?_
      refine WP.pure {} [] [4] [.bool true] .nil (by kernel_rfl) (fun b30 => ?_)
      refine thn_n ?_
      refine WP.ret ?_
      refine bodyQ.of _ rfl [.bool true] ⟨rfl, trivial⟩ ?_
      exact ⟨_, rfl, Bp.of Bp.t (by exact ⟨fun _ => by rw [List.take_of_length_le (by omega), List.take_of_length_le (by omega)] at q2; exact q2, fun _ => trivial⟩), hp8.fr⟩

theorem sherdlaw09_sameInts (l1 l2 : List Int) (a1 a2 : Option Addr) (n1 n2 c1 c2 : Nat) (w : World) (m1 : l1.length = n1) (m2 : l2.length = n2) (hb : l1.length ≤ 8796093022207) (h1 : SlR w a1 n1 (List.flatMap (fun (y : Int) => [Go.Value.int .i64 y]) l1)) (h2 : SlR w a2 n2 (List.flatMap (fun (y : Int) => [Go.Value.int .i64 y]) l2)) :
    Calls Try.prog 40 #[.slice a1 n1 c1, .slice a2 n2 c2] w (fun r_ w' => ∃ f_, r_ = .returned (.bool f_) ∧ Bp f_ (l1 = l2) ∧ Fram Non w w') := by
  refine calls_of Try.func40 rfl 26 rfl (by simp) ?_
  have hp0 := Hp.init w
  have he0 : List.map (env0 [.slice a1 n1 c1, .slice a2 n2 c2]) [0, 1] = [.slice a1 n1 c1, .slice a2 n2 c2] := by kernel_rfl
  obtain ⟨b0, he0⟩ := toMk he0
  rw [he0]
  clear he0
  refine WP.seq ?_
  refine WP.pure {} [] [0, 1] [.slice a1 n1 c1, .slice a2 n2 c2] .nil (by kernel_rfl) (fun b1 => ?_)
  refine thn_n ?_
  refine WP.seq ?_
  refine WP.seq ?_
  refine WP.pure {} [] [0, 1, 10] [.slice a1 n1 c1, .slice a2 n2 c2, .bool (decide (¬ (((n1 : Nat) : Int) = ((n2 : Nat) : Int))))] .nil (by kernel_rfl) (fun b2 => ?_)
  refine thn_n ?_
  refine WP.test (p := ¬ (((n1 : Nat) : Int) = ((n2 : Nat) : Int))) rfl Bp.dec (fun h3 => ?_) (fun h3 => ?_)
  · refine WP.seq ?_
    refine WP.pure {} [] [4] [.bool false] .nil (by kernel_rfl) (fun b4 => ?_)
    refine thn_n ?_
    refine WP.ret ?_
    refine thn_r ?_
    refine bodyQ.of _ rfl [.bool false] ⟨rfl, trivial⟩ ?_
    exact ⟨_, rfl, Bp.of Bp.f (by exact ⟨fun h => h.elim, fun h => h3 (by rw [h] at m1; omega)⟩), hp0.fr⟩
  · replace h3 := Classical.not_not.1 h3
    refine WP.skip ?_
    refine thn_n ?_
    refine WP.seq ?_
    refine WP.seq ?_
    refine WP.pure {} [] [0, 1, 12, 13] [.slice a1 n1 c1, .slice a2 n2 c2, .int .i64 ((n1 : Nat) : Int), .int .i64 0] .nil (by kernel_rfl) (fun b5 => ?_)
    refine thn_n ?_
    refine WP.block ?_
    refine WP.loop (fun mz_ e6 w7 => ∃ (k : Nat), mz_ = l1.length - k ∧ (k ≤ l1.length ∧ l1.take k = l2.take k) ∧ List.map e6 [0, 1, 12, 13] = [.slice a1 n1 c1, .slice a2 n2 c2, .int .i64 ((n1 : Nat) : Int), .int .i64 (k : Int)] ∧ Hp w Non [] w7) (l1.length - (0)) ⟨0, rfl, ⟨by omega, rfl⟩, by kernel_rfl, hp0⟩ ?_
    rintro _ e6 w7 ⟨k, rfl, hI9, hE10, hp8⟩
    obtain ⟨b11, rfl⟩ := toMk hE10
    clear hE10
    obtain ⟨q1, q2⟩ := hI9
    refine WP.seq ?_
    refine WP.pure {} [] [0, 1, 12, 13, 14] [.slice a1 n1 c1, .slice a2 n2 c2, .int .i64 ((n1 : Nat) : Int), .int .i64 (k : Int), .bool (decide ((k : Int) < ((n1 : Nat) : Int)))] .nil (by kernel_rfl) (fun b12 => ?_)
    refine thn_n ?_
    refine WP.seq ?_
    refine WP.test (p := (k : Int) < ((n1 : Nat) : Int)) rfl Bp.dec (fun h13 => ?_) (fun h13 => ?_)
    · refine WP.skip ?_
      refine thn_n ?_
      refine WP.seq ?_
      refine WP.block ?_
      refine WP.seq ?_
      refine WP.pure {} [] [0, 1, 5, 12, 13] [.slice a1 n1 c1, .slice a2 n2 c2, .int .i64 (k : Int), .int .i64 ((n1 : Nat) : Int), .int .i64 (k : Int)] .nil (by kernel_rfl) (fun b14 => ?_)
      refine thn_n ?_
      refine WP.seq ?_
      have hp17 := hp8.drew
      refine WP.quiet (fun w15 => Hp w Non [] w15) (by kernel_rfl) hp17 ?_
      have hnehp17 : ∃ wz_, (fun w15 => Hp w Non [] w15) wz_ := ⟨_, hp17⟩
      have hy21 : (l1)[k]? = some l1[k]! := get_bang (by first | (omega) | (simp only [List.length_append, List.length_cons, List.length_nil]; omega))
      have hy23 : (l2)[k]? = some l2[k]! := get_bang (by first | (omega) | (simp only [List.length_append, List.length_cons, List.length_nil]; omega))
      refine QOPS.batch 9 {} [.int .i64 (l1[k]!), .int .i64 (l2[k]!)] [0, 1, 12, 13, 24] [.slice a1 n1 c1, .slice a2 n2 c2, .int .i64 ((n1 : Nat) : Int), .int .i64 (k : Int), .bool (decide (¬ ((l1[k]!) = (l2[k]!))))] hnehp17 (fun w18 hp19 => QB.mk (.cons (show InB ((k : Int)) (n1) from ⟨by omega, by omega⟩) (.cons ((h1.at hp19).some (by omega)) (.cons (Ld.add0 (Ld.el1 (P := Try.prog) (t := 3) (h1.at hp19).rd 1 (fun _ => rfl) hy21 (o := 0) (v := .int .i64 (l1[k]!)) (by kernel_rfl))) (.cons (show InB ((k : Int)) (n2) from ⟨by omega, by omega⟩) (.cons ((h2.at hp19).some (by omega)) (.cons (Ld.add0 (Ld.el1 (P := Try.prog) (t := 3) (h2.at hp19).rd 1 (fun _ => rfl) hy23 (o := 0) (v := .int .i64 (l2[k]!)) (by kernel_rfl))) .nil)))))) (by kernel_rfl)) (fun b24 => ?_)
      refine QOPS.nil (fun w25 hp26 => ?_)
      refine thn_n ?_
      refine WP.test (p := ¬ ((l1[k]!) = (l2[k]!))) rfl Bp.dec (fun h27 => ?_) (fun h27 => ?_)
      · refine WP.seq ?_
        refine WP.pure {} [] [4] [.bool false] .nil (by kernel_rfl) (fun b28 => ?_)
        refine thn_n ?_
        refine WP.ret ?_
        refine blk_r ?_
        refine thn_r ?_
        refine thn_r ?_
        refine blk_r ?_
        refine thn_r ?_
        refine bodyQ.of _ rfl [.bool false] ⟨rfl, trivial⟩ ?_
        exact ⟨_, rfl, Bp.of Bp.f (by exact ⟨fun h => h.elim, fun h => h27 (by rw [h])⟩), hp26.fr⟩
      · replace h27 := Classical.not_not.1 h27
        refine WP.skip ?_
        refine blk_n ?_
        refine thn_n ?_
        refine WP.pure {} [] [0, 1, 12, 13] [.slice a1 n1 c1, .slice a2 n2 c2, .int .i64 ((n1 : Nat) : Int), .int .i64 ((k : Int) + 1)] (.cons (show Rng .i64 ((k : Int) + 1) from Rng.i64 (by omega)) .nil) (by kernel_rfl) (fun b29 => ?_)
        refine thn_n ?_
        exact ⟨l1.length - (k + 1), (by omega), k + 1, rfl, ⟨by omega, take_same (by omega) (by omega) q2 h27⟩, by kernel_rfl, hp26⟩
    · refine WP.exit ?_
      refine thn_x ?_
      refine thn_x ?_
      refine blk_hit ?_
      refine thn_n ?_
      refine WP.seq ?_
      refine WP.pure {} [] [4] [.bool true] .nil (by kernel_rfl) (fun b30 => ?_)
      refine thn_n ?_
      refine WP.ret ?_
      refine bodyQ.of _ rfl [.bool true] ⟨rfl, trivial⟩ ?_
      exact ⟨_, rfl, Bp.of Bp.t (by exact ⟨fun _ => by rw [List.take_of_length_le (by omega), List.take_of_length_le (by omega)] at q2; exact q2, fun _ => trivial⟩), hp8.fr⟩

def sameC (val : SlH → ByteArray) (c d : GCall) : Prop := c.Client = d.Client ∧ c.Op = d.Op ∧ (c.Put = true ↔ d.Put = true) ∧ c.Key = d.Key ∧ val c.Value = val d.Value ∧ c.Status = d.Status ∧ c.From = d.From ∧ c.To = d.To ∧ (c.Open = true ↔ d.Open = true) ∧ c.Tag.Count = d.Tag.Count ∧ c.Tag.Client = d.Tag.Client

theorem same_call (c d : GCall) (w : World) (hc : VB w c.Value) (hd : VB w d.Value) :
    Calls Try.prog 23 #[GCall.val c, GCall.val d] w (fun r_ w' => ∃ f_, r_ = .returned (.bool f_) ∧ Bp f_ (sameC (valAt w) c d) ∧ Fram Non w w') := by
  refine calls_of Try.func23 rfl 73 rfl (by simp) ?_
  have hp0 := Hp.init w
  have he0 : List.map (env0 [GCall.val c, GCall.val d]) [0, 1] = [GCall.val c, GCall.val d] := by kernel_rfl
  obtain ⟨b0, he0⟩ := toMk he0
  rw [he0]
  clear he0
  refine WP.seq ?_
  refine WP.region _ rfl (by kernel_rfl) ?_
  refine OPS.cons (opStep.box hp0 [.int .i64 c.Client, .int .i64 c.Op, .bool c.Put, .string c.Key, .slice c.Value.a c.Value.n c.Value.c, .int .i64 c.Status, .int .i64 c.From, .int .i64 c.To, .bool c.Open, .int .i64 c.Tag.Count, .int .i64 c.Tag.Client] (by kernel_rfl) (fun g3 w1 hp2 => ?_))
  refine OPS.cons (opStep.box hp2 [.int .i64 d.Client, .int .i64 d.Op, .bool d.Put, .string d.Key, .slice d.Value.a d.Value.n d.Value.c, .int .i64 d.Status, .int .i64 d.From, .int .i64 d.To, .bool d.Open, .int .i64 d.Tag.Count, .int .i64 d.Tag.Client] (by kernel_rfl) (fun g6 w4 hp5 => ?_))
  refine OPS.batch 1 {} [] [2, 3] [.pointer (some ⟨g3, 0, none⟩), .pointer (some ⟨g6, 0, none⟩)] .nil (by kernel_rfl) (fun b7 => ?_)
  refine OPS.nil ?_
  refine thn_n ?_
  refine WP.seq ?_
  refine WP.cut (fun e32 w33 => ∃ (x30 : Bool), (True) ∧ Bp x30 (((¬ (c.Client = d.Client))) ∨ ((c.Client = d.Client) ∧ (¬ (c.Op = d.Op))) ∨ ((c.Client = d.Client) ∧ (c.Op = d.Op) ∧ (¬ (((c.Put = true) ↔ (d.Put = true))))) ∨ ((c.Client = d.Client) ∧ (c.Op = d.Op) ∧ ((c.Put = true) ↔ (d.Put = true)) ∧ (¬ (c.Key = d.Key))) ∨ ((c.Client = d.Client) ∧ (c.Op = d.Op) ∧ ((c.Put = true) ↔ (d.Put = true)) ∧ (c.Key = d.Key) ∧ (¬ ((valAt w c.Value) = (valAt w d.Value))))) ∧ List.map e32 [2, 3, 39] = [.pointer (some ⟨g3, 0, none⟩), .pointer (some ⟨g6, 0, none⟩), .bool x30] ∧ Hp w Non [Res.row g6 [.int .i64 d.Client, .int .i64 d.Op, .bool d.Put, .string d.Key, .slice d.Value.a d.Value.n d.Value.c, .int .i64 d.Status, .int .i64 d.From, .int .i64 d.To, .bool d.Open, .int .i64 d.Tag.Count, .int .i64 d.Tag.Client] 41, Res.row g3 [.int .i64 c.Client, .int .i64 c.Op, .bool c.Put, .string c.Key, .slice c.Value.a c.Value.n c.Value.c, .int .i64 c.Status, .int .i64 c.From, .int .i64 c.To, .bool c.Open, .int .i64 c.Tag.Count, .int .i64 c.Tag.Client] 41] w33) ?_ ?_
  · refine WP.region _ rfl (by kernel_rfl) ?_
    refine OPS.batch 6 {} [.int .i64 c.Client, .int .i64 d.Client] [2, 3, 10] [.pointer (some ⟨g3, 0, none⟩), .pointer (some ⟨g6, 0, none⟩), .bool (decide (¬ (c.Client = d.Client)))] (.cons (Ld.row1 (P := Try.prog) (t := 3) (o := 0) (v := .int .i64 c.Client) hp5.get1 (by kernel_rfl)) (.cons (Ld.row1 (P := Try.prog) (t := 3) (o := 0) (v := .int .i64 d.Client) hp5.get0 (by kernel_rfl)) .nil)) (by kernel_rfl) (fun b9 => ?_)
    by_cases h10 : c.Client = d.Client
    · refine OPS.batch 0 {} [] [2, 3, 10] [.pointer (some ⟨g3, 0, none⟩), .pointer (some ⟨g6, 0, none⟩), .bool (decide (¬ (c.Client = d.Client)))] .nil (by kernel_rfl) (fun b13 => ?_)
      refine OPS.re [.pointer (some ⟨g3, 0, none⟩), .pointer (some ⟨g6, 0, none⟩), .bool false] (by rw [show (decide (¬ (c.Client = d.Client))) = false from Bp.dec.ff (fun k => k h10)]) ?_
      refine OPS.batch 7 { wraps := [16] } [.int .i64 c.Op, .int .i64 d.Op] [2, 3, 17] [.pointer (some ⟨g3, 0, none⟩), .pointer (some ⟨g6, 0, none⟩), .bool (decide (¬ (c.Op = d.Op)))] (.cons (Ld.row1 (P := Try.prog) (t := 2) (o := 1) (v := .int .i64 c.Op) hp5.get1 (by kernel_rfl)) (.cons (Ld.row1 (P := Try.prog) (t := 2) (o := 1) (v := .int .i64 d.Op) hp5.get0 (by kernel_rfl)) .nil)) (by kernel_rfl) (fun b14 => ?_)
      by_cases h15 : c.Op = d.Op
      · refine OPS.batch 0 {} [] [2, 3, 17] [.pointer (some ⟨g3, 0, none⟩), .pointer (some ⟨g6, 0, none⟩), .bool (decide (¬ (c.Op = d.Op)))] .nil (by kernel_rfl) (fun b18 => ?_)
        refine OPS.re [.pointer (some ⟨g3, 0, none⟩), .pointer (some ⟨g6, 0, none⟩), .bool false] (by rw [show (decide (¬ (c.Op = d.Op))) = false from Bp.dec.ff (fun k => k h15)]) ?_
        refine OPS.batch 7 { wraps := [23] } [.bool c.Put, .bool d.Put] [2, 3, 24] [.pointer (some ⟨g3, 0, none⟩), .pointer (some ⟨g6, 0, none⟩), .bool (!(c.Put == d.Put))] (.cons (Ld.row1 (P := Try.prog) (t := 4) (o := 2) (v := .bool c.Put) hp5.get1 (by kernel_rfl)) (.cons (Ld.row1 (P := Try.prog) (t := 4) (o := 2) (v := .bool d.Put) hp5.get0 (by kernel_rfl)) .nil)) (by kernel_rfl) (fun b19 => ?_)
        by_cases h20 : ((c.Put = true) ↔ (d.Put = true))
        · refine OPS.batch 0 {} [] [2, 3, 24] [.pointer (some ⟨g3, 0, none⟩), .pointer (some ⟨g6, 0, none⟩), .bool (!(c.Put == d.Put))] .nil (by kernel_rfl) (fun b23 => ?_)
          refine OPS.re [.pointer (some ⟨g3, 0, none⟩), .pointer (some ⟨g6, 0, none⟩), .bool false] (by rw [show (!(c.Put == d.Put)) = false from (Bp.not (Bp.beq Bp.var Bp.var)).ff (fun k => k h20)]) ?_
          refine OPS.batch 7 { wraps := [30] } [.string c.Key, .string d.Key] [2, 3, 31] [.pointer (some ⟨g3, 0, none⟩), .pointer (some ⟨g6, 0, none⟩), .bool (decide (¬ (c.Key = d.Key)))] (.cons (Ld.row1 (P := Try.prog) (t := 9) (o := 3) (v := .string c.Key) hp5.get1 (by kernel_rfl)) (.cons (Ld.row1 (P := Try.prog) (t := 9) (o := 3) (v := .string d.Key) hp5.get0 (by kernel_rfl)) .nil)) (by kernel_rfl) (fun b24 => ?_)
          by_cases h25 : c.Key = d.Key
          · refine OPS.batch 0 {} [] [2, 3, 31] [.pointer (some ⟨g3, 0, none⟩), .pointer (some ⟨g6, 0, none⟩), .bool (decide (¬ (c.Key = d.Key)))] .nil (by kernel_rfl) (fun b28 => ?_)
            refine OPS.re [.pointer (some ⟨g3, 0, none⟩), .pointer (some ⟨g6, 0, none⟩), .bool false] (by rw [show (decide (¬ (c.Key = d.Key))) = false from Bp.dec.ff (fun k => k h25)]) ?_
            refine OPS.batch 8 { wraps := [39] } [.slice c.Value.a c.Value.n c.Value.c, .string (valAt w c.Value), .slice d.Value.a d.Value.n d.Value.c, .string (valAt w d.Value)] [2, 3, 39] [.pointer (some ⟨g3, 0, none⟩), .pointer (some ⟨g6, 0, none⟩), .bool (decide (¬ ((valAt w c.Value) = (valAt w d.Value))))] (.cons (Ld.row1 (P := Try.prog) (t := 39) (o := 4) (v := .slice c.Value.a c.Value.n c.Value.c) hp5.get1 (by kernel_rfl)) (.cons (VB.bs (P := Try.prog) hc hp5) (.cons (Ld.row1 (P := Try.prog) (t := 39) (o := 4) (v := .slice d.Value.a d.Value.n d.Value.c) hp5.get0 (by kernel_rfl)) (.cons (VB.bs (P := Try.prog) hd hp5) .nil)))) (by kernel_rfl) (fun b29 => ?_)
            refine OPS.nil ?_
            refine thn_n ?_
            exact ⟨decide (¬ ((valAt w c.Value) = (valAt w d.Value))), trivial, Bp.of Bp.dec (by first | (simp only [h10, h15, h20, h25, iff_false, false_iff, iff_true, true_iff, Classical.not_not, and_true, true_and, and_false, false_and, or_true, true_or, or_false, false_or, not_true_eq_false, not_false_eq_true, and_self, or_self, iff_self]; done) | (simp [h10, h15, h20, h25]; done) | simp_all), by kernel_rfl, hp5⟩
          · refine OPS.batch 0 {} [] [2, 3, 31] [.pointer (some ⟨g3, 0, none⟩), .pointer (some ⟨g6, 0, none⟩), .bool (decide (¬ (c.Key = d.Key)))] .nil (by kernel_rfl) (fun b26 => ?_)
            refine OPS.re [.pointer (some ⟨g3, 0, none⟩), .pointer (some ⟨g6, 0, none⟩), .bool true] (by rw [show (decide (¬ (c.Key = d.Key))) = true from Bp.dec.tt h25]) ?_
            refine OPS.batch 8 { wraps := [39] } [] [2, 3, 39] [.pointer (some ⟨g3, 0, none⟩), .pointer (some ⟨g6, 0, none⟩), .bool true] .nil (by kernel_rfl) (fun b27 => ?_)
            refine OPS.nil ?_
            refine thn_n ?_
            exact ⟨true, trivial, Bp.of Bp.t (by first | (simp only [h10, h15, h20, h25, iff_false, false_iff, iff_true, true_iff, Classical.not_not, and_true, true_and, and_false, false_and, or_true, true_or, or_false, false_or, not_true_eq_false, not_false_eq_true, and_self, or_self, iff_self]; done) | (simp [h10, h15, h20, h25]; done) | simp_all), by kernel_rfl, hp5⟩
        · refine OPS.batch 0 {} [] [2, 3, 24] [.pointer (some ⟨g3, 0, none⟩), .pointer (some ⟨g6, 0, none⟩), .bool (!(c.Put == d.Put))] .nil (by kernel_rfl) (fun b21 => ?_)
          refine OPS.re [.pointer (some ⟨g3, 0, none⟩), .pointer (some ⟨g6, 0, none⟩), .bool true] (by rw [show (!(c.Put == d.Put)) = true from (Bp.not (Bp.beq Bp.var Bp.var)).tt h20]) ?_
          refine OPS.batch 15 { wraps := [30, 39] } [] [2, 3, 39] [.pointer (some ⟨g3, 0, none⟩), .pointer (some ⟨g6, 0, none⟩), .bool true] .nil (by kernel_rfl) (fun b22 => ?_)
          refine OPS.nil ?_
          refine thn_n ?_
          exact ⟨true, trivial, Bp.of Bp.t (by first | (simp only [h10, h15, h20, iff_false, false_iff, iff_true, true_iff, Classical.not_not, and_true, true_and, and_false, false_and, or_true, true_or, or_false, false_or, not_true_eq_false, not_false_eq_true, and_self, or_self, iff_self]; done) | (simp [h10, h15, h20]; done) | simp_all), by kernel_rfl, hp5⟩
      · refine OPS.batch 0 {} [] [2, 3, 17] [.pointer (some ⟨g3, 0, none⟩), .pointer (some ⟨g6, 0, none⟩), .bool (decide (¬ (c.Op = d.Op)))] .nil (by kernel_rfl) (fun b16 => ?_)
        refine OPS.re [.pointer (some ⟨g3, 0, none⟩), .pointer (some ⟨g6, 0, none⟩), .bool true] (by rw [show (decide (¬ (c.Op = d.Op))) = true from Bp.dec.tt h15]) ?_
        refine OPS.batch 22 { wraps := [23, 30, 39] } [] [2, 3, 39] [.pointer (some ⟨g3, 0, none⟩), .pointer (some ⟨g6, 0, none⟩), .bool true] .nil (by kernel_rfl) (fun b17 => ?_)
        refine OPS.nil ?_
        refine thn_n ?_
        exact ⟨true, trivial, Bp.of Bp.t (by first | (simp only [h10, h15, iff_false, false_iff, iff_true, true_iff, Classical.not_not, and_true, true_and, and_false, false_and, or_true, true_or, or_false, false_or, not_true_eq_false, not_false_eq_true, and_self, or_self, iff_self]; done) | (simp [h10, h15]; done) | simp_all), by kernel_rfl, hp5⟩
    · refine OPS.batch 0 {} [] [2, 3, 10] [.pointer (some ⟨g3, 0, none⟩), .pointer (some ⟨g6, 0, none⟩), .bool (decide (¬ (c.Client = d.Client)))] .nil (by kernel_rfl) (fun b11 => ?_)
      refine OPS.re [.pointer (some ⟨g3, 0, none⟩), .pointer (some ⟨g6, 0, none⟩), .bool true] (by rw [show (decide (¬ (c.Client = d.Client))) = true from Bp.dec.tt h10]) ?_
      refine OPS.batch 29 { wraps := [16, 23, 30, 39] } [] [2, 3, 39] [.pointer (some ⟨g3, 0, none⟩), .pointer (some ⟨g6, 0, none⟩), .bool true] .nil (by kernel_rfl) (fun b12 => ?_)
      refine OPS.nil ?_
      refine thn_n ?_
      exact ⟨true, trivial, Bp.of Bp.t (by first | (simp only [h10, iff_false, false_iff, iff_true, true_iff, Classical.not_not, and_true, true_and, and_false, false_and, or_true, true_or, or_false, false_or, not_true_eq_false, not_false_eq_true, and_self, or_self, iff_self]; done) | (simp [h10]; done) | simp_all), by kernel_rfl, hp5⟩
  rintro e32 w33 ⟨x30, hd35, hb31, hE36, hp34⟩
  obtain ⟨b37, rfl⟩ := toMk hE36
  clear hE36
  clear hd35
  refine WP.test (p := ((¬ (c.Client = d.Client))) ∨ ((c.Client = d.Client) ∧ (¬ (c.Op = d.Op))) ∨ ((c.Client = d.Client) ∧ (c.Op = d.Op) ∧ (¬ (((c.Put = true) ↔ (d.Put = true))))) ∨ ((c.Client = d.Client) ∧ (c.Op = d.Op) ∧ ((c.Put = true) ↔ (d.Put = true)) ∧ (¬ (c.Key = d.Key))) ∨ ((c.Client = d.Client) ∧ (c.Op = d.Op) ∧ ((c.Put = true) ↔ (d.Put = true)) ∧ (c.Key = d.Key) ∧ (¬ ((valAt w c.Value) = (valAt w d.Value))))) rfl hb31 (fun h38 => ?_) (fun h38 => ?_)
  · refine WP.seq ?_
    refine WP.pure {} [] [4] [.bool false] .nil (by kernel_rfl) (fun b39 => ?_)
    refine thn_n ?_
    refine WP.ret ?_
    refine thn_r ?_
    refine bodyQ.of _ rfl [.bool false] ⟨rfl, trivial⟩ ?_
    exact ⟨_, rfl, Bp.of Bp.f (by exact ⟨fun h => h.elim, fun h => by obtain ⟨e1, e2, e3, e4, e5, _⟩ := h; simp [e1, e2, e3, e4, e5] at h38⟩), hp34.fr⟩
  · refine WP.skip ?_
    refine thn_n ?_
    refine WP.cut (fun e64 w65 => ∃ (x62 : Bool), (True) ∧ Bp x62 ((c.Status = d.Status) ∧ (c.From = d.From) ∧ (c.To = d.To) ∧ ((c.Open = true) ↔ (d.Open = true)) ∧ ((c.Tag.Count = d.Tag.Count) ∧ (c.Tag.Client = d.Tag.Client))) ∧ List.map e64 [4] = [.bool x62] ∧ Hp w Non [Res.row g6 [.int .i64 d.Client, .int .i64 d.Op, .bool d.Put, .string d.Key, .slice d.Value.a d.Value.n d.Value.c, .int .i64 d.Status, .int .i64 d.From, .int .i64 d.To, .bool d.Open, .int .i64 d.Tag.Count, .int .i64 d.Tag.Client] 41, Res.row g3 [.int .i64 c.Client, .int .i64 c.Op, .bool c.Put, .string c.Key, .slice c.Value.a c.Value.n c.Value.c, .int .i64 c.Status, .int .i64 c.From, .int .i64 c.To, .bool c.Open, .int .i64 c.Tag.Count, .int .i64 c.Tag.Client] 41] w65) ?_ ?_
    · refine WP.region _ rfl (by kernel_rfl) ?_
      refine OPS.batch 6 {} [.int .i64 c.Status, .int .i64 d.Status] [2, 3, 45] [.pointer (some ⟨g3, 0, none⟩), .pointer (some ⟨g6, 0, none⟩), .bool (decide (c.Status = d.Status))] (.cons (Ld.row1 (P := Try.prog) (t := 27) (o := 5) (v := .int .i64 c.Status) hp34.get1 (by kernel_rfl)) (.cons (Ld.row1 (P := Try.prog) (t := 27) (o := 5) (v := .int .i64 d.Status) hp34.get0 (by kernel_rfl)) .nil)) (by kernel_rfl) (fun b41 => ?_)
      by_cases h42 : c.Status = d.Status
      · refine OPS.batch 0 {} [] [2, 3, 45] [.pointer (some ⟨g3, 0, none⟩), .pointer (some ⟨g6, 0, none⟩), .bool (decide (c.Status = d.Status))] .nil (by kernel_rfl) (fun b43 => ?_)
        refine OPS.re [.pointer (some ⟨g3, 0, none⟩), .pointer (some ⟨g6, 0, none⟩), .bool true] (by rw [show (decide (c.Status = d.Status)) = true from Bp.dec.tt h42]) ?_
        refine OPS.batch 7 { wraps := [51] } [.int .i64 c.From, .int .i64 d.From] [2, 3, 52] [.pointer (some ⟨g3, 0, none⟩), .pointer (some ⟨g6, 0, none⟩), .bool (decide (c.From = d.From))] (.cons (Ld.row1 (P := Try.prog) (t := 3) (o := 6) (v := .int .i64 c.From) hp34.get1 (by kernel_rfl)) (.cons (Ld.row1 (P := Try.prog) (t := 3) (o := 6) (v := .int .i64 d.From) hp34.get0 (by kernel_rfl)) .nil)) (by kernel_rfl) (fun b44 => ?_)
        by_cases h45 : c.From = d.From
        · refine OPS.batch 0 {} [] [2, 3, 52] [.pointer (some ⟨g3, 0, none⟩), .pointer (some ⟨g6, 0, none⟩), .bool (decide (c.From = d.From))] .nil (by kernel_rfl) (fun b46 => ?_)
          refine OPS.re [.pointer (some ⟨g3, 0, none⟩), .pointer (some ⟨g6, 0, none⟩), .bool true] (by rw [show (decide (c.From = d.From)) = true from Bp.dec.tt h45]) ?_
          refine OPS.batch 7 { wraps := [58] } [.int .i64 c.To, .int .i64 d.To] [2, 3, 59] [.pointer (some ⟨g3, 0, none⟩), .pointer (some ⟨g6, 0, none⟩), .bool (decide (c.To = d.To))] (.cons (Ld.row1 (P := Try.prog) (t := 3) (o := 7) (v := .int .i64 c.To) hp34.get1 (by kernel_rfl)) (.cons (Ld.row1 (P := Try.prog) (t := 3) (o := 7) (v := .int .i64 d.To) hp34.get0 (by kernel_rfl)) .nil)) (by kernel_rfl) (fun b47 => ?_)
          by_cases h48 : c.To = d.To
          · refine OPS.batch 0 {} [] [2, 3, 59] [.pointer (some ⟨g3, 0, none⟩), .pointer (some ⟨g6, 0, none⟩), .bool (decide (c.To = d.To))] .nil (by kernel_rfl) (fun b49 => ?_)
            refine OPS.re [.pointer (some ⟨g3, 0, none⟩), .pointer (some ⟨g6, 0, none⟩), .bool true] (by rw [show (decide (c.To = d.To)) = true from Bp.dec.tt h48]) ?_
            refine OPS.batch 7 { wraps := [65] } [.bool c.Open, .bool d.Open] [2, 3, 66] [.pointer (some ⟨g3, 0, none⟩), .pointer (some ⟨g6, 0, none⟩), .bool (c.Open == d.Open)] (.cons (Ld.row1 (P := Try.prog) (t := 4) (o := 8) (v := .bool c.Open) hp34.get1 (by kernel_rfl)) (.cons (Ld.row1 (P := Try.prog) (t := 4) (o := 8) (v := .bool d.Open) hp34.get0 (by kernel_rfl)) .nil)) (by kernel_rfl) (fun b50 => ?_)
            by_cases h51 : ((c.Open = true) ↔ (d.Open = true))
            · refine OPS.batch 0 {} [] [2, 3, 66] [.pointer (some ⟨g3, 0, none⟩), .pointer (some ⟨g6, 0, none⟩), .bool (c.Open == d.Open)] .nil (by kernel_rfl) (fun b52 => ?_)
              refine OPS.re [.pointer (some ⟨g3, 0, none⟩), .pointer (some ⟨g6, 0, none⟩), .bool true] (by rw [show (c.Open == d.Open) = true from (Bp.beq Bp.var Bp.var).tt h51]) ?_
              refine OPS.batch 7 { wraps := [72] } [.agg #[.int .i64 c.Tag.Count, .int .i64 c.Tag.Client], .agg #[.int .i64 d.Tag.Count, .int .i64 d.Tag.Client]] [4] [.bool ((decide (c.Tag.Count = d.Tag.Count)) && ((decide (c.Tag.Client = d.Tag.Client)) && true))] (.cons (show Ld Try.prog w33 24 ⟨g3, 9, none⟩ (.agg #[.int .i64 c.Tag.Count, .int .i64 c.Tag.Client]) from Ld.rowN (cs := [.int .i64 c.Tag.Count, .int .i64 c.Tag.Client]) hp34.get1 (by kernel_rfl)) (.cons (show Ld Try.prog w33 24 ⟨g6, 9, none⟩ (.agg #[.int .i64 d.Tag.Count, .int .i64 d.Tag.Client]) from Ld.rowN (cs := [.int .i64 d.Tag.Count, .int .i64 d.Tag.Client]) hp34.get0 (by kernel_rfl)) .nil)) (by kernel_rfl) (fun b53 => ?_)
              refine OPS.nil ?_
              refine thn_n ?_
              exact ⟨(decide (c.Tag.Count = d.Tag.Count)) && ((decide (c.Tag.Client = d.Tag.Client)) && true), trivial, Bp.of (Bp.band Bp.dec (Bp.band1 Bp.dec)) (by first | (simp only [h42, h45, h48, h51, iff_false, false_iff, iff_true, true_iff, Classical.not_not, and_true, true_and, and_false, false_and, or_true, true_or, or_false, false_or, not_true_eq_false, not_false_eq_true, and_self, or_self, iff_self]; done) | (simp [h42, h45, h48, h51]; done) | simp_all), by kernel_rfl, hp34⟩
            · refine OPS.batch 0 {} [] [2, 3, 66] [.pointer (some ⟨g3, 0, none⟩), .pointer (some ⟨g6, 0, none⟩), .bool (c.Open == d.Open)] .nil (by kernel_rfl) (fun b54 => ?_)
              refine OPS.re [.pointer (some ⟨g3, 0, none⟩), .pointer (some ⟨g6, 0, none⟩), .bool false] (by rw [show (c.Open == d.Open) = false from (Bp.beq Bp.var Bp.var).ff h51]) ?_
              refine OPS.batch 7 { wraps := [72] } [] [4] [.bool false] .nil (by kernel_rfl) (fun b55 => ?_)
              refine OPS.nil ?_
              refine thn_n ?_
              exact ⟨false, trivial, Bp.of Bp.f (by first | (simp only [h42, h45, h48, h51, iff_false, false_iff, iff_true, true_iff, Classical.not_not, and_true, true_and, and_false, false_and, or_true, true_or, or_false, false_or, not_true_eq_false, not_false_eq_true, and_self, or_self, iff_self]; done) | (simp [h42, h45, h48, h51]; done) | simp_all), by kernel_rfl, hp34⟩
          · refine OPS.batch 0 {} [] [2, 3, 59] [.pointer (some ⟨g3, 0, none⟩), .pointer (some ⟨g6, 0, none⟩), .bool (decide (c.To = d.To))] .nil (by kernel_rfl) (fun b56 => ?_)
            refine OPS.re [.pointer (some ⟨g3, 0, none⟩), .pointer (some ⟨g6, 0, none⟩), .bool false] (by rw [show (decide (c.To = d.To)) = false from Bp.dec.ff h48]) ?_
            refine OPS.batch 14 { wraps := [65, 72] } [] [4] [.bool false] .nil (by kernel_rfl) (fun b57 => ?_)
            refine OPS.nil ?_
            refine thn_n ?_
            exact ⟨false, trivial, Bp.of Bp.f (by first | (simp only [h42, h45, h48, iff_false, false_iff, iff_true, true_iff, Classical.not_not, and_true, true_and, and_false, false_and, or_true, true_or, or_false, false_or, not_true_eq_false, not_false_eq_true, and_self, or_self, iff_self]; done) | (simp [h42, h45, h48]; done) | simp_all), by kernel_rfl, hp34⟩
        · refine OPS.batch 0 {} [] [2, 3, 52] [.pointer (some ⟨g3, 0, none⟩), .pointer (some ⟨g6, 0, none⟩), .bool (decide (c.From = d.From))] .nil (by kernel_rfl) (fun b58 => ?_)
          refine OPS.re [.pointer (some ⟨g3, 0, none⟩), .pointer (some ⟨g6, 0, none⟩), .bool false] (by rw [show (decide (c.From = d.From)) = false from Bp.dec.ff h45]) ?_
          refine OPS.batch 21 { wraps := [58, 65, 72] } [] [4] [.bool false] .nil (by kernel_rfl) (fun b59 => ?_)
          refine OPS.nil ?_
          refine thn_n ?_
          exact ⟨false, trivial, Bp.of Bp.f (by first | (simp only [h42, h45, iff_false, false_iff, iff_true, true_iff, Classical.not_not, and_true, true_and, and_false, false_and, or_true, true_or, or_false, false_or, not_true_eq_false, not_false_eq_true, and_self, or_self, iff_self]; done) | (simp [h42, h45]; done) | simp_all), by kernel_rfl, hp34⟩
      · refine OPS.batch 0 {} [] [2, 3, 45] [.pointer (some ⟨g3, 0, none⟩), .pointer (some ⟨g6, 0, none⟩), .bool (decide (c.Status = d.Status))] .nil (by kernel_rfl) (fun b60 => ?_)
        refine OPS.re [.pointer (some ⟨g3, 0, none⟩), .pointer (some ⟨g6, 0, none⟩), .bool false] (by rw [show (decide (c.Status = d.Status)) = false from Bp.dec.ff h42]) ?_
        refine OPS.batch 28 { wraps := [51, 58, 65, 72] } [] [4] [.bool false] .nil (by kernel_rfl) (fun b61 => ?_)
        refine OPS.nil ?_
        refine thn_n ?_
        exact ⟨false, trivial, Bp.of Bp.f (by first | (simp only [h42, iff_false, false_iff, iff_true, true_iff, Classical.not_not, and_true, true_and, and_false, false_and, or_true, true_or, or_false, false_or, not_true_eq_false, not_false_eq_true, and_self, or_self, iff_self]; done) | (simp [h42]; done) | simp_all), by kernel_rfl, hp34⟩
    rintro e64 w65 ⟨x62, hd67, hb63, hE68, hp66⟩
    obtain ⟨b69, rfl⟩ := toMk hE68
    clear hE68
    clear hd67
    refine WP.ret ?_
    refine bodyQ.of _ rfl [.bool x62] ⟨rfl, trivial⟩ ?_
    exact ⟨_, rfl, Bp.of hb63 (by simp only [sameC]; simp_all), hp66.fr⟩

end Go.Proofs.Ythdkbbpiaeaojaa.K
