/- The walks of OrdI: what each function computes. -/
import Derived.Test.YtdahgdkadfdkeaaProg
import Derived.Test.YtdahgdkadfdkeaaCoreO
import Derived.Test.YtdahgdkadfdkeaaOrdH
import Derived.Test.YtdahgdkadfdkeaaCoreF
namespace Go.Proofs.Ytdahgdkadfdkeaa.K
open Go Go.Proofs Go.RowKit
set_option linter.unusedVariables false
set_option linter.unusedSimpArgs false
set_option maxRecDepth 20000
set_option maxHeartbeats 4000000

theorem VB.bs1 {w : World} {b c : Nat} (h : (Res.bs b (⟨#[97]⟩ : ByteArray)).holds w) : VB w ⟨some ⟨b, 0, none⟩, 1, c⟩ ∧ bytesAt w ⟨some ⟨b, 0, none⟩, 1, c⟩ = bytesI (⟨#[97]⟩ : ByteArray) :=
  ⟨(VB.bsr (c := c) h).1, bytesAt_of (s := ⟨some ⟨b, 0, none⟩, 1, c⟩) (SlR.bs h) (bytesI_len _)⟩
def mdI (k n : Int) : Int := if k.tmod n < 0 then k.tmod n + n else k.tmod n
theorem mdI_bd (k : Int) {n : Int} (h : 0 < n) : 0 ≤ mdI k n ∧ mdI k n < n := by
  have t1 := Int.tmod_lt_of_pos k h
  have t2 := Int.tmod_lt_of_pos (-k) h
  rw [Int.neg_tmod] at t2
  unfold mdI; split <;> omega
theorem tdiv_bd {k n : Int} (h : 0 < n) (h1 : -9223372036854775808 ≤ k) (h2 : k ≤ 9223372036854775807) : -9223372036854775808 ≤ k.tdiv n ∧ k.tdiv n ≤ 9223372036854775807 := by
  have a := Int.natAbs_tdiv k n
  have b : k.natAbs / n.natAbs ≤ k.natAbs := Nat.div_le_self _ _
  have c : (k.tdiv n).natAbs ≤ k.natAbs := by rw [a]; exact b
  rcases Int.le_total 0 k with hk | hk
  · have := Int.tdiv_nonneg hk (Int.le_of_lt h); omega
  · have d := Int.tdiv_nonneg (show 0 ≤ -k by omega) (Int.le_of_lt h)
    rw [Int.neg_tdiv] at d; omega
/-- The document's first example. -/
def oneP (b : Nat) : GCall := ⟨1, 1, true, ⟨#[107]⟩, ⟨some ⟨b, 0, none⟩, 1, 1⟩, 0, 0, 1, false, ⟨1, 1⟩⟩
def oneG (b : Nat) : GCall := ⟨2, 1, false, ⟨#[107]⟩, ⟨some ⟨b, 0, none⟩, 1, 1⟩, 0, 2, 3, false, ⟨1, 1⟩⟩

theorem l21_equal (l1 l2 : List Int) (a1 a2 : Option Addr) (n1 n2 c1 c2 : Nat) (w : World) (m1 : l1.length = n1) (m2 : l2.length = n2) (hb : l1.length ≤ 1152921504606846975) (h1 : SlR w a1 n1 (List.flatMap (fun (y : Int) => [Go.Value.int .i64 y]) l1)) (h2 : SlR w a2 n2 (List.flatMap (fun (y : Int) => [Go.Value.int .i64 y]) l2)) :
    Calls Try.prog 31 #[.slice a1 n1 c1, .slice a2 n2 c2] w (fun r_ w' => ∃ f_, r_ = .returned (.bool f_) ∧ Bp f_ (l1 = l2) ∧ Fram Non w w') := by
  refine calls_of Try.func31 rfl 26 rfl (by simp) ?_
  have hp0 := Hp.init w
  have he0 : List.map (env0 [.slice a1 n1 c1, .slice a2 n2 c2]) [0, 1] = [.slice a1 n1 c1, .slice a2 n2 c2] := by kernel_rfl
  obtain ⟨b0, he0⟩ := toMk he0
  rw [he0]
  clear he0
  refine WP.seq ?_
  refine WP.pure {} [] [0, 1] [.slice a1 n1 c1, .slice a2 n2 c2] .nil (by kernel_rfl) (fun b1 => ?_)
  refine thn_n ?_
  refine WP.seq ?_
  refine WP.seq ?_
  refine WP.pure {} [] [0, 1, 10] [.slice a1 n1 c1, .slice a2 n2 c2, .bool (decide (¬ (((n1 : Nat) : Int) = ((n2 : Nat) : Int))))] .nil (by kernel_rfl) (fun b2 => ?_)
  refine thn_n ?_
  refine WP.test (p := ¬ (((n1 : Nat) : Int) = ((n2 : Nat) : Int))) rfl Bp.dec (fun h3 => ?_) (fun h3 => ?_)
  · refine WP.seq ?_
    refine WP.pure {} [] [4] [.bool false] .nil (by kernel_rfl) (fun b4 => ?_)
    refine thn_n ?_
    refine WP.ret ?_
    refine thn_r ?_
    refine bodyQ.of _ rfl [.bool false] ⟨rfl, trivial⟩ ?_
    exact ⟨_, rfl, Bp.of Bp.f (by exact ⟨fun h => h.elim, fun h => h3 (by rw [h] at m1; omega)⟩), hp0.fr⟩
  · replace h3 := Classical.not_not.1 h3
    refine WP.skip ?_
    refine thn_n ?_
    refine WP.seq ?_
    refine WP.seq ?_
    refine WP.pure {} [] [0, 1, 5] [.slice a1 n1 c1, .slice a2 n2 c2, .int .i64 0] .nil (by kernel_rfl) (fun b5 => ?_)
    refine thn_n ?_
    refine WP.block ?_
    refine WP.loop (fun mz_ e6 w7 => ∃ (k : Nat), mz_ = l1.length - k ∧ (k ≤ l1.length ∧ l1.take k = l2.take k) ∧ List.map e6 [0, 1, 5] = [.slice a1 n1 c1, .slice a2 n2 c2, .int .i64 (k : Int)] ∧ Hp w Non [] w7) (l1.length - (0)) ⟨0, rfl, ⟨by omega, rfl⟩, by kernel_rfl, hp0⟩ ?_
    rintro _ e6 w7 ⟨k, rfl, hI9, hE10, hp8⟩
    obtain ⟨b11, rfl⟩ := toMk hE10
    clear hE10
    obtain ⟨q1, q2⟩ := hI9
    refine WP.seq ?_
    refine WP.seq ?_
    refine WP.pure {} [] [0, 1, 5, 14] [.slice a1 n1 c1, .slice a2 n2 c2, .int .i64 (k : Int), .bool (decide ((k : Int) < ((n1 : Nat) : Int)))] .nil (by kernel_rfl) (fun b12 => ?_)
    refine thn_n ?_
    refine WP.test (p := (k : Int) < ((n1 : Nat) : Int)) rfl Bp.dec (fun h13 => ?_) (fun h13 => ?_)
    · refine WP.skip ?_
      refine thn_n ?_
      refine WP.seq ?_
      refine WP.block ?_
      refine WP.seq ?_
      have hp16 := hp8.drew
      refine WP.quiet (fun w14 => Hp w Non [] w14) (by kernel_rfl) hp16 ?_
      have hnehp16 : ∃ wz_, (fun w14 => Hp w Non [] w14) wz_ := ⟨_, hp16⟩
      have hy20 : (l1)[k]? = some l1[k]! := get_bang (by first | (omega) | (simp only [List.length_append, List.length_cons, List.length_nil]; omega) | (simp only [List.length_take, List.length_append, List.length_cons, List.length_nil]; omega))
      have hy22 : (l2)[k]? = some l2[k]! := get_bang (by first | (omega) | (simp only [List.length_append, List.length_cons, List.length_nil]; omega) | (simp only [List.length_take, List.length_append, List.length_cons, List.length_nil]; omega))
      refine QOPS.batch 9 {} [.int .i64 (l1[k]!), .int .i64 (l2[k]!)] [0, 1, 5, 25] [.slice a1 n1 c1, .slice a2 n2 c2, .int .i64 (k : Int), .bool (decide (¬ ((l1[k]!) = (l2[k]!))))] hnehp16 (fun w17 hp18 => QB.mk (.cons (show InB ((k : Int)) (n1) from ⟨by omega, by omega⟩) (.cons ((h1.at hp18).some (by omega)) (.cons (Ld.add0 (Ld.el1 (P := Try.prog) (t := 3) (h1.at hp18).rd 1 (fun _ => rfl) hy20 (o := 0) (v := .int .i64 (l1[k]!)) (by kernel_rfl))) (.cons (show InB ((k : Int)) (n2) from ⟨by omega, by omega⟩) (.cons ((h2.at hp18).some (by omega)) (.cons (Ld.add0 (Ld.el1 (P := Try.prog) (t := 3) (h2.at hp18).rd 1 (fun _ => rfl) hy22 (o := 0) (v := .int .i64 (l2[k]!)) (by kernel_rfl))) .nil)))))) (by kernel_rfl)) (fun b23 => ?_)
      refine QOPS.nil (fun w24 hp25 => ?_)
      refine thn_n ?_
      refine WP.test (p := ¬ ((l1[k]!) = (l2[k]!))) rfl Bp.dec (fun h26 => ?_) (fun h26 => ?_)
      · refine WP.seq ?_
        refine WP.pure {} [] [4] [.bool false] .nil (by kernel_rfl) (fun b27 => ?_)
        refine thn_n ?_
        refine WP.ret ?_
        refine blk_r ?_
        refine thn_r ?_
        refine thn_r ?_
        refine blk_r ?_
        refine thn_r ?_
        refine bodyQ.of _ rfl [.bool false] ⟨rfl, trivial⟩ ?_
        exact ⟨_, rfl, Bp.of Bp.f (by exact ⟨fun h => h.elim, fun h => h26 (by rw [h])⟩), hp25.fr⟩
      · replace h26 := Classical.not_not.1 h26
        refine WP.skip ?_
        refine blk_n ?_
        refine thn_n ?_
        refine WP.pure {} [] [0, 1, 5] [.slice a1 n1 c1, .slice a2 n2 c2, .int .i64 ((k : Int) + 1)] (.cons (show Rng .i64 ((k : Int) + 1) from Rng.i64 (by omega)) .nil) (by kernel_rfl) (fun b28 => ?_)
        refine thn_n ?_
        exact ⟨l1.length - (k + 1), (by omega), k + 1, rfl, ⟨by omega, take_same (by omega) (by omega) q2 h26⟩, by kernel_rfl, hp25⟩
    · refine WP.exit ?_
      refine thn_x ?_
      refine thn_x ?_
      refine blk_hit ?_
      refine thn_n ?_
      refine WP.seq ?_
      refine WP.pure {} [] [4] [.bool true] .nil (by kernel_rfl) (fun b29 => ?_)
      refine thn_n ?_
      refine WP.ret ?_
      refine bodyQ.of _ rfl [.bool true] ⟨rfl, trivial⟩ ?_
      exact ⟨_, rfl, Bp.of Bp.t (by exact ⟨fun _ => by rw [List.take_of_length_le (by omega), List.take_of_length_le (by omega)] at q2; exact q2, fun _ => trivial⟩), hp8.fr⟩

theorem l21_mod (k n : Int) (w : World) (hn : 0 < n) (hn2 : n ≤ 1000000000000000) :
    Calls Try.prog 38 #[.int .i64 k, .int .i64 n] w (fun r_ w' => r_ = .returned (.int .i64 (mdI k n)) ∧ Fram Non w w') := by
  have t1 := Int.tmod_lt_of_pos k hn
  have t2 := Int.tmod_lt_of_pos (-k) hn
  rw [Int.neg_tmod] at t2
  refine calls_of Try.func38 rfl 15 rfl (by simp) ?_
  have hp0 := Hp.init w
  have he0 : List.map (env0 [.int .i64 k, .int .i64 n]) [0, 1] = [.int .i64 k, .int .i64 n] := by kernel_rfl
  obtain ⟨b0, he0⟩ := toMk he0
  rw [he0]
  clear he0
  refine WP.seq ?_
  refine WP.pure {} [] [0, 1] [.int .i64 k, .int .i64 n] .nil (by kernel_rfl) (fun b1 => ?_)
  refine thn_n ?_
  refine WP.seq ?_
  refine WP.pure {} [] [1, 5] [.int .i64 n, .int .i64 (k.tmod n)] (.cons (show (n : Int) ≠ 0 from by omega) .nil) (by kernel_rfl) (fun b2 => ?_)
  refine thn_n ?_
  refine WP.seq ?_
  refine WP.seq ?_
  refine WP.pure {} [] [1, 5, 10] [.int .i64 n, .int .i64 (k.tmod n), .bool (decide ((k.tmod n) < 0))] .nil (by kernel_rfl) (fun b3 => ?_)
  refine thn_n ?_
  refine WP.test (p := (k.tmod n) < 0) rfl Bp.dec (fun h4 => ?_) (fun h4 => ?_)
  · refine WP.pure {} [] [5] [.int .i64 ((k.tmod n) + n)] (.cons (show Rng .i64 ((k.tmod n) + n) from Rng.i64 (by omega)) .nil) (by kernel_rfl) (fun b5 => ?_)
    refine thn_n ?_
    refine WP.seq ?_
    refine WP.pure {} [] [4] [.int .i64 ((k.tmod n) + n)] .nil (by kernel_rfl) (fun b6 => ?_)
    refine thn_n ?_
    refine WP.ret ?_
    refine bodyQ.of _ rfl [.int .i64 ((k.tmod n) + n)] ⟨rfl, trivial⟩ ?_
    exact ⟨by simp only [pack, mdI]; first | rfl | (split <;> first | rfl | omega) | grind, hp0.fr⟩
  · refine WP.skip ?_
    refine thn_n ?_
    refine WP.seq ?_
    refine WP.pure {} [] [4] [.int .i64 (k.tmod n)] .nil (by kernel_rfl) (fun b7 => ?_)
    refine thn_n ?_
    refine WP.ret ?_
    refine bodyQ.of _ rfl [.int .i64 (k.tmod n)] ⟨rfl, trivial⟩ ?_
    exact ⟨by simp only [pack, mdI]; first | rfl | (split <;> first | rfl | omega) | grind, hp0.fr⟩

end Go.Proofs.Ytdahgdkadfdkeaa.K
