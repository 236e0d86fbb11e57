/- The walks of OrdK: what each function computes. -/
import Derived.Test.YtdahgdkadfdkeaaProg
import Derived.Test.YtdahgdkadfdkeaaCoreO
import Derived.Test.YtdahgdkadfdkeaaOrdJ
import Derived.Test.YtdahgdkadfdkeaaOrdT
namespace Go.Proofs.Ytdahgdkadfdkeaa.K
open Go Go.Proofs Go.RowKit
set_option linter.unusedVariables false
set_option linter.unusedSimpArgs false
set_option maxRecDepth 20000
set_option maxHeartbeats 4000000

structure Gsherdlaw21_Made where
  Who : SlH
  Values : SlH
  Reach : SlH
  Open : SlH
def Gsherdlaw21_Made.cells (x : Gsherdlaw21_Made) : List Go.Value := [x.Who.v, x.Values.v, x.Reach.v, x.Open.v]
def Gsherdlaw21_Made.val (x : Gsherdlaw21_Made) : Go.Value := .agg x.cells.toArray
instance : Inhabited Gsherdlaw21_Made := ⟨⟨⟨none, 0, 0⟩, ⟨none, 0, 0⟩, ⟨none, 0, 0⟩, ⟨none, 0, 0⟩⟩⟩
theorem Gsherdlaw21_Made.len (x : Gsherdlaw21_Made) : x.cells.length = 4 := rfl
theorem l21_history (m : Gsherdlaw21_Made) (who reach opn : List Int) (vals : List SlH) (w : World) (hw1 : who.length = m.Who.n) (hw2 : SlR w m.Who.a m.Who.n (List.flatMap (fun (y : Int) => [Go.Value.int .i64 y]) who)) (hr1 : reach.length = m.Reach.n) (hr2 : SlR w m.Reach.a m.Reach.n (List.flatMap (fun (y : Int) => [Go.Value.int .i64 y]) reach)) (ho1 : opn.length = m.Open.n) (ho2 : SlR w m.Open.a m.Open.n (List.flatMap (fun (y : Int) => [Go.Value.int .i64 y]) opn)) (hv1 : vals.length = m.Values.n) (hv2 : SlR w m.Values.a m.Values.n (vals.flatMap (fun (y : SlH) => [SlH.v y]))) (w0 : World) (hvb : ∀ y ∈ vals, vOk w0 y) (hrr : ∀ y ∈ reach, -9223372036854775808 ≤ y ∧ y ≤ 9223372036854775807) (hbn : who.length ≤ 1000000000000000 ∧ reach.length ≤ 1000000000000000 ∧ opn.length ≤ 1000000000000000 ∧ vals.length ≤ 1000000000000000) :
    Calls Try.prog 35 #[Gsherdlaw21_Made.val m] w (fun r_ w' => ∃ a c ao co l, r_ = .returned (.tuple #[.slice a l.length c, .slice ao l.length co]) ∧ (His l ∧ l.length ≤ 12 ∧ ∀ y ∈ l, vOk w0 y.Value) ∧ Hp w Non [Res.own 73 11 (.slice a l.length c) l.length (l.flatMap GCall.cells), Res.own 3 1 (.slice ao l.length co) l.length (List.flatMap (fun (y : Int) => [Go.Value.int .i64 y]) (idsI l.length))] w') := by
  refine calls_of Try.func35 rfl 133 rfl (by simp) ?_
  have hp0 := Hp.init w
  have he0 : List.map (env0 [Gsherdlaw21_Made.val m]) [0] = [Gsherdlaw21_Made.val m] := by kernel_rfl
  obtain ⟨b0, he0⟩ := toMk he0
  rw [he0]
  clear he0
  refine WP.seq ?_
  refine WP.region _ rfl (by kernel_rfl) ?_
  refine OPS.cons (opStep.box hp0 [.slice m.Who.a m.Who.n m.Who.c, .slice m.Values.a m.Values.n m.Values.c, .slice m.Reach.a m.Reach.n m.Reach.c, .slice m.Open.a m.Open.n m.Open.c] (by kernel_rfl) (fun g3 w1 hp2 => ?_))
  refine OPS.batch 2 {} [] [1] [.pointer (some ⟨g3, 0, none⟩)] .nil (by kernel_rfl) (fun b4 => ?_)
  refine OPS.nil ?_
  refine thn_n ?_
  refine WP.seq ?_
  refine WP.pure {} [] [1, 4] [.pointer (some ⟨g3, 0, none⟩), .slice none 0 0] .nil (by kernel_rfl) (fun b5 => ?_)
  refine thn_n ?_
  refine WP.seq ?_
  refine WP.pure {} [] [1, 4, 5] [.pointer (some ⟨g3, 0, none⟩), .slice none 0 0, .slice none 0 0] .nil (by kernel_rfl) (fun b6 => ?_)
  refine thn_n ?_
  refine WP.seq ?_
  refine WP.region _ rfl (by kernel_rfl) ?_
  refine OPS.cons (opStep.alloc hp2 [.int .i64 0, .int .i64 0, .bool false, .string ByteArray.empty, .slice none 0 0, .int .i64 0, .int .i64 0, .int .i64 0, .bool false, .int .i64 0, .int .i64 0] (by kernel_rfl) (fun g9 w7 hp8 => ?_))
  refine OPS.nil ?_
  refine thn_n ?_
  refine WP.seq ?_
  refine WP.pure {} [] [1, 4, 5, 6, 7] [.pointer (some ⟨g3, 0, none⟩), .slice none 0 0, .slice none 0 0, .pointer (some ⟨g9, 0, none⟩), .bool false] .nil (by kernel_rfl) (fun b10 => ?_)
  refine thn_n ?_
  refine WP.seq ?_
  refine WP.seq ?_
  refine WP.pure {} [] [1, 4, 5, 6, 7, 8] [.pointer (some ⟨g3, 0, none⟩), .slice none 0 0, .slice none 0 0, .pointer (some ⟨g9, 0, none⟩), .bool false, .int .i64 0] .nil (by kernel_rfl) (fun b11 => ?_)
  refine thn_n ?_
  refine WP.block ?_
  have hp12 := (show Hp w Non [Res.own 73 11 (.slice none 0 0) 0 (List.flatMap GCall.cells ([] : List GCall)), Res.row g9 [.int .i64 0, .int .i64 0, .bool false, .string ByteArray.empty, .slice none 0 0, .int .i64 0, .int .i64 0, .int .i64 0, .bool false, .int .i64 0, .int .i64 0] 73, Res.row g3 [.slice m.Who.a m.Who.n m.Who.c, .slice m.Values.a m.Values.n m.Values.c, .slice m.Reach.a m.Reach.n m.Reach.c, .slice m.Open.a m.Open.n m.Open.c] 66] w7 from hp8.nilOwn 73 11)
  have hp13 := (show Hp w Non [Res.own 3 1 (.slice none 0 0) 0 (List.flatMap (fun (y : Int) => [Go.Value.int .i64 y]) ([] : List Int)), Res.own 73 11 (.slice none 0 0) 0 (List.flatMap GCall.cells ([] : List GCall)), Res.row g9 [.int .i64 0, .int .i64 0, .bool false, .string ByteArray.empty, .slice none 0 0, .int .i64 0, .int .i64 0, .int .i64 0, .bool false, .int .i64 0, .int .i64 0] 73, Res.row g3 [.slice m.Who.a m.Who.n m.Who.c, .slice m.Values.a m.Values.n m.Values.c, .slice m.Reach.a m.Reach.n m.Reach.c, .slice m.Open.a m.Open.n m.Open.c] 66] w7 from hp12.nilOwn 3 1)
  refine WP.loop (fun mz_ e14 w15 => ∃ (k : Nat) (l : List GCall) (a : Option Addr) (n : Nat) (c : Nat) (o : List Int) (ao : Option Addr) (no : Nat) (co : Nat) (sm : Bool) (la : GCall), mz_ = 12 - k ∧ ((k ≤ 12 ∧ k ≤ who.length) ∧ HisW w0 l o sm la k) ∧ List.map e14 [1, 4, 5, 6, 7, 8] = [.pointer (some ⟨g3, 0, none⟩), .slice a n c, .slice ao no co, .pointer (some ⟨g9, 0, none⟩), .bool sm, .int .i64 (k : Int)] ∧ Hp w Non [Res.own 3 1 (.slice ao no co) no (List.flatMap (fun (y : Int) => [Go.Value.int .i64 y]) o), Res.own 73 11 (.slice a n c) n (List.flatMap GCall.cells l), Res.row g9 [.int .i64 la.Client, .int .i64 la.Op, .bool la.Put, .string la.Key, .slice la.Value.a la.Value.n la.Value.c, .int .i64 la.Status, .int .i64 la.From, .int .i64 la.To, .bool la.Open, .int .i64 la.Tag.Count, .int .i64 la.Tag.Client] 73, Res.row g3 [.slice m.Who.a m.Who.n m.Who.c, .slice m.Values.a m.Values.n m.Values.c, .slice m.Reach.a m.Reach.n m.Reach.c, .slice m.Open.a m.Open.n m.Open.c] 66] w15) (12 - (0)) ⟨0, [], none, 0, 0, [], none, 0, 0, false, default, rfl, ⟨⟨by omega, by omega⟩, HisW.start w0⟩, by kernel_rfl, hp13⟩ ?_
  rintro _ e14 w15 ⟨k, l, a, n, c, o, ao, no, co, sm, la, rfl, hI17, hE18, hp16⟩
  obtain ⟨b19, rfl⟩ := toMk hE18
  clear hE18
  obtain ⟨⟨pa, pa2⟩, ph⟩ := hI17
  have pe := own_flat (sz := 1) (fun _ => rfl) (by decide) hp16.get0
  have pe2 := own_flat (sz := 11) (fun _ => rfl) (by decide) hp16.get1
  have pl := ph.len
  have po : o.length = k := by rw [ph.ids, idsI_len]
  refine WP.seq ?_
  refine WP.cut (fun e29 w30 => ∃ (x27 : Bool), (True) ∧ Bp x27 (((k : Int) < ((m.Who.n : Nat) : Int)) ∧ ((k : Int) < 12)) ∧ List.map e29 [1, 4, 5, 6, 7, 8, 21] = [.pointer (some ⟨g3, 0, none⟩), .slice a n c, .slice ao no co, .pointer (some ⟨g9, 0, none⟩), .bool sm, .int .i64 (k : Int), .bool x27] ∧ Hp w Non [Res.own 3 1 (.slice ao no co) no (List.flatMap (fun (y : Int) => [Go.Value.int .i64 y]) o), Res.own 73 11 (.slice a n c) n (List.flatMap GCall.cells l), Res.row g9 [.int .i64 la.Client, .int .i64 la.Op, .bool la.Put, .string la.Key, .slice la.Value.a la.Value.n la.Value.c, .int .i64 la.Status, .int .i64 la.From, .int .i64 la.To, .bool la.Open, .int .i64 la.Tag.Count, .int .i64 la.Tag.Client] 73, Res.row g3 [.slice m.Who.a m.Who.n m.Who.c, .slice m.Values.a m.Values.n m.Values.c, .slice m.Reach.a m.Reach.n m.Reach.c, .slice m.Open.a m.Open.n m.Open.c] 66] w30) ?_ ?_
  · refine WP.region _ rfl (by kernel_rfl) ?_
    refine OPS.batch 6 {} [.slice m.Who.a m.Who.n m.Who.c] [1, 4, 5, 6, 7, 8, 18] [.pointer (some ⟨g3, 0, none⟩), .slice a n c, .slice ao no co, .pointer (some ⟨g9, 0, none⟩), .bool sm, .int .i64 (k : Int), .bool (decide ((k : Int) < ((m.Who.n : Nat) : Int)))] (.cons (Ld.row1 (P := Try.prog) (t := 24) (o := 0) (v := .slice m.Who.a m.Who.n m.Who.c) hp16.get3 (by kernel_rfl)) .nil) (by kernel_rfl) (fun b21 => ?_)
    by_cases h22 : (k : Int) < ((m.Who.n : Nat) : Int)
    · refine OPS.batch 0 {} [] [1, 4, 5, 6, 7, 8, 18] [.pointer (some ⟨g3, 0, none⟩), .slice a n c, .slice ao no co, .pointer (some ⟨g9, 0, none⟩), .bool sm, .int .i64 (k : Int), .bool (decide ((k : Int) < ((m.Who.n : Nat) : Int)))] .nil (by kernel_rfl) (fun b23 => ?_)
      refine OPS.re [.pointer (some ⟨g3, 0, none⟩), .slice a n c, .slice ao no co, .pointer (some ⟨g9, 0, none⟩), .bool sm, .int .i64 (k : Int), .bool true] (by rw [show (decide ((k : Int) < ((m.Who.n : Nat) : Int))) = true from Bp.dec.tt h22]) ?_
      refine OPS.batch 3 { wraps := [21] } [] [1, 4, 5, 6, 7, 8, 21] [.pointer (some ⟨g3, 0, none⟩), .slice a n c, .slice ao no co, .pointer (some ⟨g9, 0, none⟩), .bool sm, .int .i64 (k : Int), .bool (decide ((k : Int) < 12))] .nil (by kernel_rfl) (fun b24 => ?_)
      refine OPS.nil ?_
      refine thn_n ?_
      exact ⟨decide ((k : Int) < 12), trivial, Bp.of Bp.dec (by first | (simp only [h22, iff_false, false_iff, iff_true, true_iff, Classical.not_not, and_true, true_and, and_false, false_and, or_true, true_or, or_false, false_or, not_true_eq_false, not_false_eq_true, and_self, or_self, iff_self]; done) | (simp [h22]; done) | grind | (simp_all; done)), by kernel_rfl, hp16⟩
    · refine OPS.batch 0 {} [] [1, 4, 5, 6, 7, 8, 18] [.pointer (some ⟨g3, 0, none⟩), .slice a n c, .slice ao no co, .pointer (some ⟨g9, 0, none⟩), .bool sm, .int .i64 (k : Int), .bool (decide ((k : Int) < ((m.Who.n : Nat) : Int)))] .nil (by kernel_rfl) (fun b25 => ?_)
      refine OPS.re [.pointer (some ⟨g3, 0, none⟩), .slice a n c, .slice ao no co, .pointer (some ⟨g9, 0, none⟩), .bool sm, .int .i64 (k : Int), .bool false] (by rw [show (decide ((k : Int) < ((m.Who.n : Nat) : Int))) = false from Bp.dec.ff h22]) ?_
      refine OPS.batch 3 { wraps := [21] } [] [1, 4, 5, 6, 7, 8, 21] [.pointer (some ⟨g3, 0, none⟩), .slice a n c, .slice ao no co, .pointer (some ⟨g9, 0, none⟩), .bool sm, .int .i64 (k : Int), .bool false] .nil (by kernel_rfl) (fun b26 => ?_)
      refine OPS.nil ?_
      refine thn_n ?_
      exact ⟨false, trivial, Bp.of Bp.f (by first | (simp only [h22, iff_false, false_iff, iff_true, true_iff, Classical.not_not, and_true, true_and, and_false, false_and, or_true, true_or, or_false, false_or, not_true_eq_false, not_false_eq_true, and_self, or_self, iff_self]; done) | (simp [h22]; done) | grind | (simp_all; done)), by kernel_rfl, hp16⟩
  rintro e29 w30 ⟨x27, hd32, hb28, hE33, hp31⟩
  obtain ⟨b34, rfl⟩ := toMk hE33
  clear hE33
  clear hd32
  refine WP.test (p := ((k : Int) < ((m.Who.n : Nat) : Int)) ∧ ((k : Int) < 12)) rfl hb28 (fun h35 => ?_) (fun h35 => ?_)
  · refine WP.skip ?_
    refine thn_n ?_
    refine WP.seq ?_
    refine WP.block ?_
    refine WP.seq ?_
    refine WP.pure {} [] [1, 4, 5, 6, 7, 8, 9] [.pointer (some ⟨g3, 0, none⟩), .slice a n c, .slice ao no co, .pointer (some ⟨g9, 0, none⟩), .bool sm, .int .i64 (k : Int), .int .i64 ((100 * (k : Int)) + 1000)] (.cons (show Rng .i64 (100 * (k : Int)) from Rng.i64 (by omega)) (.cons (show Rng .i64 ((100 * (k : Int)) + 1000) from Rng.i64 (by omega)) .nil)) (by kernel_rfl) (fun b36 => ?_)
    refine thn_n ?_
    refine WP.seq ?_
    refine WP.pure {} [] [1, 4, 5, 6, 7, 8, 9, 10] [.pointer (some ⟨g3, 0, none⟩), .slice a n c, .slice ao no co, .pointer (some ⟨g9, 0, none⟩), .bool sm, .int .i64 (k : Int), .int .i64 ((100 * (k : Int)) + 1000), .int .i64 0] .nil (by kernel_rfl) (fun b37 => ?_)
    refine thn_n ?_
    refine WP.cut (fun e45 w46 => ∃ (x44 : Int), ((x44 = reach[k]! ∧ ((k : Int) < ((m.Reach.n : Nat) : Int)) ∧ True) ∨ (x44 = 0 ∧ (¬ ((k : Int) < ((m.Reach.n : Nat) : Int))) ∧ True)) ∧ List.map e45 [1, 4, 5, 6, 7, 8, 9, 10] = [.pointer (some ⟨g3, 0, none⟩), .slice a n c, .slice ao no co, .pointer (some ⟨g9, 0, none⟩), .bool sm, .int .i64 (k : Int), .int .i64 ((100 * (k : Int)) + 1000), .int .i64 x44] ∧ Hp w Non [Res.own 3 1 (.slice ao no co) no (List.flatMap (fun (y : Int) => [Go.Value.int .i64 y]) o), Res.own 73 11 (.slice a n c) n (List.flatMap GCall.cells l), Res.row g9 [.int .i64 la.Client, .int .i64 la.Op, .bool la.Put, .string la.Key, .slice la.Value.a la.Value.n la.Value.c, .int .i64 la.Status, .int .i64 la.From, .int .i64 la.To, .bool la.Open, .int .i64 la.Tag.Count, .int .i64 la.Tag.Client] 73, Res.row g3 [.slice m.Who.a m.Who.n m.Who.c, .slice m.Values.a m.Values.n m.Values.c, .slice m.Reach.a m.Reach.n m.Reach.c, .slice m.Open.a m.Open.n m.Open.c] 66] w46) ?_ ?_
    · refine WP.seq ?_
      refine WP.pure {} [.slice m.Reach.a m.Reach.n m.Reach.c] [1, 4, 5, 6, 7, 8, 9, 10, 31] [.pointer (some ⟨g3, 0, none⟩), .slice a n c, .slice ao no co, .pointer (some ⟨g9, 0, none⟩), .bool sm, .int .i64 (k : Int), .int .i64 ((100 * (k : Int)) + 1000), .int .i64 0, .bool (decide ((k : Int) < ((m.Reach.n : Nat) : Int)))] (.cons (Ld.row1 (P := Try.prog) (t := 24) (o := 2) (v := .slice m.Reach.a m.Reach.n m.Reach.c) hp31.get3 (by kernel_rfl)) .nil) (by kernel_rfl) (fun b39 => ?_)
      refine thn_n ?_
      refine WP.test (p := (k : Int) < ((m.Reach.n : Nat) : Int)) rfl Bp.dec (fun h40 => ?_) (fun h40 => ?_)
      · have hy42 : (reach)[k]? = some reach[k]! := get_bang (by first | (omega) | (simp only [List.length_append, List.length_cons, List.length_nil]; omega) | (simp only [List.length_take, List.length_append, List.length_cons, List.length_nil]; omega))
        refine WP.pure {} [.slice m.Reach.a m.Reach.n m.Reach.c, .int .i64 (reach[k]!)] [1, 4, 5, 6, 7, 8, 9, 10] [.pointer (some ⟨g3, 0, none⟩), .slice a n c, .slice ao no co, .pointer (some ⟨g9, 0, none⟩), .bool sm, .int .i64 (k : Int), .int .i64 ((100 * (k : Int)) + 1000), .int .i64 (reach[k]!)] (.cons (Ld.row1 (P := Try.prog) (t := 24) (o := 2) (v := .slice m.Reach.a m.Reach.n m.Reach.c) hp31.get3 (by kernel_rfl)) (.cons (show InB ((k : Int)) (m.Reach.n) from ⟨by omega, by omega⟩) (.cons ((hr2.at hp31).some (by omega)) (.cons (Ld.add0 (Ld.el1 (P := Try.prog) (t := 3) (hr2.at hp31).rd 1 (fun _ => rfl) hy42 (o := 0) (v := .int .i64 (reach[k]!)) (by kernel_rfl))) .nil)))) (by kernel_rfl) (fun b43 => ?_)
        refine thn_n ?_
        exact ⟨reach[k]!, Or.inl ⟨rfl, h40, trivial⟩, by kernel_rfl, hp31⟩
      · refine WP.skip ?_
        refine thn_n ?_
        exact ⟨0, Or.inr (⟨rfl, h40, trivial⟩), by kernel_rfl, hp31⟩
    rintro e45 w46 ⟨x44, hd48, hE49, hp47⟩
    obtain ⟨b50, rfl⟩ := toMk hE49
    clear hE49
    refine WP.seq ?_
    have hxr : -9223372036854775808 ≤ x44 ∧ x44 ≤ 9223372036854775807 := by rcases hd48 with ⟨q1, q2, _⟩ | ⟨q1, q2, _⟩; rw [q1]; exact hrr _ (List.mem_of_getElem? (get_bang (by omega))); omega
    have htd := tdiv_bd (k := x44) (n := 300) (by decide) hxr.1 hxr.2
    refine WP.region _ rfl (by kernel_rfl) ?_
    refine OPS.batch 5 {} [] [1, 4, 5, 6, 7, 8, 9, 10, 38, 40, 41] [.pointer (some ⟨g3, 0, none⟩), .slice a n c, .slice ao no co, .pointer (some ⟨g9, 0, none⟩), .bool sm, .int .i64 (k : Int), .int .i64 ((100 * (k : Int)) + 1000), .int .i64 x44, .int .i64 (100 + (k : Int)), .int .i64 (((100 * (k : Int)) + 1000) - 1), .int .i64 x44] (.cons (show Rng .i64 (100 + (k : Int)) from Rng.i64 (by omega)) (.cons (show Rng .i64 (((100 * (k : Int)) + 1000) - 1) from Rng.i64 (by omega)) .nil)) (by kernel_rfl) (fun b51 => ?_)
    refine OPS.cons (opStep.call (some 42) [.int .i64 x44, .int .i64 300] (by kernel_rfl) (l21_mod x44 300 _ (by omega) (by omega)) ?_)
    rintro _ w54 ⟨rfl, hf55⟩
    refine ⟨_, rfl, ?_⟩
    have hp56 := hp47.step hf55
    obtain ⟨i57, hm58⟩ : ∃ z : Nat, mdI x44 300 = (z : Int) := ⟨(mdI x44 300).toNat, by have := mdI_bd x44 (n := 300) (by omega); omega⟩
    have hm59 : (i57 : Int) < 300 := by have := mdI_bd x44 (n := 300) (by omega); omega
    rw [hm58]
    refine OPS.batch 5 {} [] [1, 4, 5, 6, 7, 8, 38, 43, 45, 47] [.pointer (some ⟨g3, 0, none⟩), .slice a n c, .slice ao no co, .pointer (some ⟨g9, 0, none⟩), .bool sm, .int .i64 (k : Int), .int .i64 (100 + (k : Int)), .int .i64 ((((100 * (k : Int)) + 1000) - 1) - ((i57 : Nat) : Int)), .int .i64 (((100 * (k : Int)) + 1000) + 1), .int .i64 (x44.tdiv 300)] (.cons (show Rng .i64 ((((100 * (k : Int)) + 1000) - 1) - ((i57 : Nat) : Int)) from Rng.i64 (by omega)) (.cons (show Rng .i64 (((100 * (k : Int)) + 1000) + 1) from Rng.i64 (by omega)) (.cons (show (300 : Int) ≠ 0 from by omega) (.cons (show Rng .i64 (x44.tdiv 300) from Rng.i64 (by omega)) .nil)))) (by kernel_rfl) (fun b60 => ?_)
    refine OPS.cons (opStep.call (some 48) [.int .i64 (x44.tdiv 300), .int .i64 300] (by kernel_rfl) (l21_mod (x44.tdiv 300) 300 _ (by omega) (by omega)) ?_)
    rintro _ w63 ⟨rfl, hf64⟩
    refine ⟨_, rfl, ?_⟩
    have hp65 := hp56.step hf64
    obtain ⟨i66, hm67⟩ : ∃ z : Nat, mdI (x44.tdiv 300) 300 = (z : Int) := ⟨(mdI (x44.tdiv 300) 300).toNat, by have := mdI_bd (x44.tdiv 300) (n := 300) (by omega); omega⟩
    have hm68 : (i66 : Int) < 300 := by have := mdI_bd (x44.tdiv 300) (n := 300) (by omega); omega
    rw [hm67]
    refine OPS.batch 2 {} [] [1, 4, 5, 6, 7, 8, 50] [.pointer (some ⟨g3, 0, none⟩), .slice a n c, .slice ao no co, .pointer (some ⟨g9, 0, none⟩), .bool sm, .int .i64 (k : Int), .agg #[.int .i64 (100 + (k : Int)), .int .i64 1, .bool false, .string ⟨#[107]⟩, .slice none 0 0, .int .i64 0, .int .i64 ((((100 * (k : Int)) + 1000) - 1) - ((i57 : Nat) : Int)), .int .i64 ((((100 * (k : Int)) + 1000) + 1) + ((i66 : Nat) : Int)), .bool false, .int .i64 0, .int .i64 0]] (.cons (show Rng .i64 ((((100 * (k : Int)) + 1000) + 1) + ((i66 : Nat) : Int)) from Rng.i64 (by omega)) .nil) (by kernel_rfl) (fun b69 => ?_)
    refine OPS.cons (opStep.alloc hp65 [.int .i64 0, .int .i64 0, .bool false, .string ByteArray.empty, .slice none 0 0, .int .i64 0, .int .i64 0, .int .i64 0, .bool false, .int .i64 0, .int .i64 0] (by kernel_rfl) (fun g72 w70 hp71 => ?_))
    refine OPS.cons (opStep.store0 hp71 rfl [.int .i64 (100 + (k : Int)), .int .i64 1, .bool false, .string ⟨#[107]⟩, .slice none 0 0, .int .i64 0, .int .i64 ((((100 * (k : Int)) + 1000) - 1) - ((i57 : Nat) : Int)), .int .i64 ((((100 * (k : Int)) + 1000) + 1) + ((i66 : Nat) : Int)), .bool false, .int .i64 0, .int .i64 0] [.int .i64 (100 + (k : Int)), .int .i64 1, .bool false, .string ⟨#[107]⟩, .slice none 0 0, .int .i64 0, .int .i64 ((((100 * (k : Int)) + 1000) - 1) - ((i57 : Nat) : Int)), .int .i64 ((((100 * (k : Int)) + 1000) + 1) + ((i66 : Nat) : Int)), .bool false, .int .i64 0, .int .i64 0] (by kernel_rfl) (fun w73 hp74 => ?_))
    refine OPS.nil ?_
    refine thn_n ?_
    refine WP.seq ?_
    refine WP.seq ?_
    have hy76 : (who)[k]? = some who[k]! := get_bang (by first | (omega) | (simp only [List.length_append, List.length_cons, List.length_nil]; omega) | (simp only [List.length_take, List.length_append, List.length_cons, List.length_nil]; omega))
    refine WP.pure {} [.slice m.Who.a m.Who.n m.Who.c, .int .i64 (who[k]!)] [1, 4, 5, 6, 7, 8, 11, 56] [.pointer (some ⟨g3, 0, none⟩), .slice a n c, .slice ao no co, .pointer (some ⟨g9, 0, none⟩), .bool sm, .int .i64 (k : Int), .pointer (some ⟨g72, 0, none⟩), .bool (decide (0 < (who[k]!)))] (.cons (Ld.row1 (P := Try.prog) (t := 24) (o := 0) (v := .slice m.Who.a m.Who.n m.Who.c) hp74.get4 (by kernel_rfl)) (.cons (show InB ((k : Int)) (m.Who.n) from ⟨by omega, by omega⟩) (.cons ((hw2.at hp74).some (by omega)) (.cons (Ld.add0 (Ld.el1 (P := Try.prog) (t := 3) (hw2.at hp74).rd 1 (fun _ => rfl) hy76 (o := 0) (v := .int .i64 (who[k]!)) (by kernel_rfl))) .nil)))) (by kernel_rfl) (fun b77 => ?_)
    refine thn_n ?_
    refine WP.test (p := 0 < (who[k]!)) rfl Bp.dec (fun h78 => ?_) (fun h78 => ?_)
    · refine WP.seq ?_
      refine WP.region _ rfl (by kernel_rfl) ?_
      refine OPS.batch 1 {} [] [1, 4, 5, 6, 8, 11, 57] [.pointer (some ⟨g3, 0, none⟩), .slice a n c, .slice ao no co, .pointer (some ⟨g9, 0, none⟩), .int .i64 (k : Int), .pointer (some ⟨g72, 0, none⟩), .pointer (some ⟨g72, 2, none⟩)] .nil (by kernel_rfl) (fun b79 => ?_)
      refine OPS.cons (opStep.store0 hp74 rfl [.bool true] [.int .i64 (100 + (k : Int)), .int .i64 1, .bool true, .string ⟨#[107]⟩, .slice none 0 0, .int .i64 0, .int .i64 ((((100 * (k : Int)) + 1000) - 1) - ((i57 : Nat) : Int)), .int .i64 ((((100 * (k : Int)) + 1000) + 1) + ((i66 : Nat) : Int)), .bool false, .int .i64 0, .int .i64 0] (by kernel_rfl) (fun w80 hp81 => ?_))
      refine OPS.nil ?_
      refine thn_n ?_
      refine WP.seq ?_
      refine WP.seq ?_
      refine WP.pure {} [.slice m.Values.a m.Values.n m.Values.c] [1, 4, 5, 6, 8, 11, 62] [.pointer (some ⟨g3, 0, none⟩), .slice a n c, .slice ao no co, .pointer (some ⟨g9, 0, none⟩), .int .i64 (k : Int), .pointer (some ⟨g72, 0, none⟩), .bool (decide ((k : Int) < ((m.Values.n : Nat) : Int)))] (.cons (Ld.row1 (P := Try.prog) (t := 64) (o := 1) (v := .slice m.Values.a m.Values.n m.Values.c) hp81.get4 (by kernel_rfl)) .nil) (by kernel_rfl) (fun b82 => ?_)
      refine thn_n ?_
      refine WP.test (p := (k : Int) < ((m.Values.n : Nat) : Int)) rfl Bp.dec (fun h83 => ?_) (fun h83 => ?_)
      · refine WP.region _ rfl (by kernel_rfl) ?_
        have hy87 : (vals)[k]? = some vals[k]! := get_bang (by first | (omega) | (simp only [List.length_append, List.length_cons, List.length_nil]; omega) | (simp only [List.length_take, List.length_append, List.length_cons, List.length_nil]; omega))
        refine OPS.batch 6 {} [.slice m.Values.a m.Values.n m.Values.c, .slice (vals[k]!.a) (vals[k]!.n) (vals[k]!.c)] [1, 4, 5, 6, 8, 11, 67, 68] [.pointer (some ⟨g3, 0, none⟩), .slice a n c, .slice ao no co, .pointer (some ⟨g9, 0, none⟩), .int .i64 (k : Int), .pointer (some ⟨g72, 0, none⟩), .slice (vals[k]!.a) (vals[k]!.n) (vals[k]!.c), .pointer (some ⟨g72, 4, none⟩)] (.cons (Ld.row1 (P := Try.prog) (t := 64) (o := 1) (v := .slice m.Values.a m.Values.n m.Values.c) hp81.get4 (by kernel_rfl)) (.cons (show InB ((k : Int)) (m.Values.n) from ⟨by omega, by omega⟩) (.cons ((hv2.at hp81).some (by omega)) (.cons (Ld.add0 (Ld.el1 (P := Try.prog) (t := 71) (hv2.at hp81).rd 1 (fun _ => rfl) hy87 (o := 0) (v := .slice (vals[k]!.a) (vals[k]!.n) (vals[k]!.c)) (by kernel_rfl))) .nil)))) (by kernel_rfl) (fun b88 => ?_)
        refine OPS.cons (opStep.store0 hp81 rfl [.slice (vals[k]!.a) (vals[k]!.n) (vals[k]!.c)] [.int .i64 (100 + (k : Int)), .int .i64 1, .bool true, .string ⟨#[107]⟩, .slice (vals[k]!.a) (vals[k]!.n) (vals[k]!.c), .int .i64 0, .int .i64 ((((100 * (k : Int)) + 1000) - 1) - ((i57 : Nat) : Int)), .int .i64 ((((100 * (k : Int)) + 1000) + 1) + ((i66 : Nat) : Int)), .bool false, .int .i64 0, .int .i64 0] (by kernel_rfl) (fun w89 hp90 => ?_))
        refine OPS.nil ?_
        refine thn_n ?_
        refine WP.seq ?_
        refine WP.region _ rfl (by kernel_rfl) ?_
        refine OPS.batch 6 {} [.int .i64 (100 + (k : Int))] [1, 4, 5, 6, 8, 11, 73, 74] [.pointer (some ⟨g3, 0, none⟩), .slice a n c, .slice ao no co, .pointer (some ⟨g9, 0, none⟩), .int .i64 (k : Int), .pointer (some ⟨g72, 0, none⟩), .agg #[.int .i64 ((k : Int) + 1), .int .i64 (100 + (k : Int))], .pointer (some ⟨g72, 9, none⟩)] (.cons (show Rng .i64 ((k : Int) + 1) from Rng.i64 (by omega)) (.cons (Ld.row1 (P := Try.prog) (t := 3) (o := 0) (v := .int .i64 (100 + (k : Int))) hp90.get0 (by kernel_rfl)) .nil)) (by kernel_rfl) (fun b91 => ?_)
        refine OPS.cons (opStep.store0 hp90 rfl [.int .i64 ((k : Int) + 1), .int .i64 (100 + (k : Int))] [.int .i64 (100 + (k : Int)), .int .i64 1, .bool true, .string ⟨#[107]⟩, .slice (vals[k]!.a) (vals[k]!.n) (vals[k]!.c), .int .i64 0, .int .i64 ((((100 * (k : Int)) + 1000) - 1) - ((i57 : Nat) : Int)), .int .i64 ((((100 * (k : Int)) + 1000) + 1) + ((i66 : Nat) : Int)), .bool false, .int .i64 ((k : Int) + 1), .int .i64 (100 + (k : Int))] (by kernel_rfl) (fun w92 hp93 => ?_))
        refine OPS.nil ?_
        refine thn_n ?_
        refine WP.seq ?_
        refine WP.region _ rfl (by kernel_rfl) ?_
        refine OPS.batch 1 {} [.agg #[.int .i64 (100 + (k : Int)), .int .i64 1, .bool true, .string ⟨#[107]⟩, .slice (vals[k]!.a) (vals[k]!.n) (vals[k]!.c), .int .i64 0, .int .i64 ((((100 * (k : Int)) + 1000) - 1) - ((i57 : Nat) : Int)), .int .i64 ((((100 * (k : Int)) + 1000) + 1) + ((i66 : Nat) : Int)), .bool false, .int .i64 ((k : Int) + 1), .int .i64 (100 + (k : Int))]] [1, 4, 5, 6, 8, 11, 75] [.pointer (some ⟨g3, 0, none⟩), .slice a n c, .slice ao no co, .pointer (some ⟨g9, 0, none⟩), .int .i64 (k : Int), .pointer (some ⟨g72, 0, none⟩), .agg #[.int .i64 (100 + (k : Int)), .int .i64 1, .bool true, .string ⟨#[107]⟩, .slice (vals[k]!.a) (vals[k]!.n) (vals[k]!.c), .int .i64 0, .int .i64 ((((100 * (k : Int)) + 1000) - 1) - ((i57 : Nat) : Int)), .int .i64 ((((100 * (k : Int)) + 1000) + 1) + ((i66 : Nat) : Int)), .bool false, .int .i64 ((k : Int) + 1), .int .i64 (100 + (k : Int))]] (.cons (show Ld Try.prog w92 73 ⟨g72, 0, none⟩ (.agg #[.int .i64 (100 + (k : Int)), .int .i64 1, .bool true, .string ⟨#[107]⟩, .slice (vals[k]!.a) (vals[k]!.n) (vals[k]!.c), .int .i64 0, .int .i64 ((((100 * (k : Int)) + 1000) - 1) - ((i57 : Nat) : Int)), .int .i64 ((((100 * (k : Int)) + 1000) + 1) + ((i66 : Nat) : Int)), .bool false, .int .i64 ((k : Int) + 1), .int .i64 (100 + (k : Int))]) from Ld.rowN (cs := [.int .i64 (100 + (k : Int)), .int .i64 1, .bool true, .string ⟨#[107]⟩, .slice (vals[k]!.a) (vals[k]!.n) (vals[k]!.c), .int .i64 0, .int .i64 ((((100 * (k : Int)) + 1000) - 1) - ((i57 : Nat) : Int)), .int .i64 ((((100 * (k : Int)) + 1000) + 1) + ((i66 : Nat) : Int)), .bool false, .int .i64 ((k : Int) + 1), .int .i64 (100 + (k : Int))]) hp93.get0 (by kernel_rfl)) .nil) (by kernel_rfl) (fun b94 => ?_)
        refine OPS.cons (opStep.store3 hp93 rfl [.int .i64 (100 + (k : Int)), .int .i64 1, .bool true, .string ⟨#[107]⟩, .slice (vals[k]!.a) (vals[k]!.n) (vals[k]!.c), .int .i64 0, .int .i64 ((((100 * (k : Int)) + 1000) - 1) - ((i57 : Nat) : Int)), .int .i64 ((((100 * (k : Int)) + 1000) + 1) + ((i66 : Nat) : Int)), .bool false, .int .i64 ((k : Int) + 1), .int .i64 (100 + (k : Int))] [.int .i64 (100 + (k : Int)), .int .i64 1, .bool true, .string ⟨#[107]⟩, .slice (vals[k]!.a) (vals[k]!.n) (vals[k]!.c), .int .i64 0, .int .i64 ((((100 * (k : Int)) + 1000) - 1) - ((i57 : Nat) : Int)), .int .i64 ((((100 * (k : Int)) + 1000) + 1) + ((i66 : Nat) : Int)), .bool false, .int .i64 ((k : Int) + 1), .int .i64 (100 + (k : Int))] (by kernel_rfl) (fun w95 hp96 => ?_))
        refine OPS.nil ?_
        refine thn_n ?_
        refine WP.seq ?_
        refine WP.pure {} [] [1, 4, 5, 6, 7, 8, 11] [.pointer (some ⟨g3, 0, none⟩), .slice a n c, .slice ao no co, .pointer (some ⟨g9, 0, none⟩), .bool true, .int .i64 (k : Int), .pointer (some ⟨g72, 0, none⟩)] .nil (by kernel_rfl) (fun b97 => ?_)
        refine thn_n ?_
        refine WP.seq ?_
        refine WP.pure {} [] [1, 4, 5, 6, 7, 8, 11, 12] [.pointer (some ⟨g3, 0, none⟩), .slice a n c, .slice ao no co, .pointer (some ⟨g9, 0, none⟩), .bool true, .int .i64 (k : Int), .pointer (some ⟨g72, 0, none⟩), .int .i64 0] .nil (by kernel_rfl) (fun b98 => ?_)
        refine thn_n ?_
        refine WP.block ?_
        refine WP.loop (fun mz_ e99 w100 => ∃ (j : Nat) (c2 : GCall), mz_ = opn.length - j ∧ (j ≤ opn.length ∧ opnV (⟨100 + (k : Int), 1, true, ⟨#[107]⟩, vals[k]!, 0, (((100 * (k : Int)) + 1000) - 1) - ((i57 : Nat) : Int), (((100 * (k : Int)) + 1000) + 1) + ((i66 : Nat) : Int), false, (⟨(k : Int) + 1, 100 + (k : Int)⟩ : GTag)⟩ : GCall) c2) ∧ List.map e99 [1, 4, 5, 6, 7, 8, 11, 12] = [.pointer (some ⟨g3, 0, none⟩), .slice a n c, .slice ao no co, .pointer (some ⟨g9, 0, none⟩), .bool true, .int .i64 (k : Int), .pointer (some ⟨g72, 0, none⟩), .int .i64 (j : Int)] ∧ Hp w Non [Res.row g72 [.int .i64 c2.Client, .int .i64 c2.Op, .bool c2.Put, .string c2.Key, .slice c2.Value.a c2.Value.n c2.Value.c, .int .i64 c2.Status, .int .i64 c2.From, .int .i64 c2.To, .bool c2.Open, .int .i64 c2.Tag.Count, .int .i64 c2.Tag.Client] 73, Res.own 3 1 (.slice ao no co) no (List.flatMap (fun (y : Int) => [Go.Value.int .i64 y]) o), Res.own 73 11 (.slice a n c) n (List.flatMap GCall.cells l), Res.row g9 [.int .i64 (100 + (k : Int)), .int .i64 1, .bool true, .string ⟨#[107]⟩, .slice (vals[k]!.a) (vals[k]!.n) (vals[k]!.c), .int .i64 0, .int .i64 ((((100 * (k : Int)) + 1000) - 1) - ((i57 : Nat) : Int)), .int .i64 ((((100 * (k : Int)) + 1000) + 1) + ((i66 : Nat) : Int)), .bool false, .int .i64 ((k : Int) + 1), .int .i64 (100 + (k : Int))] 73, Res.row g3 [.slice m.Who.a m.Who.n m.Who.c, .slice m.Values.a m.Values.n m.Values.c, .slice m.Reach.a m.Reach.n m.Reach.c, .slice m.Open.a m.Open.n m.Open.c] 66] w100) (opn.length - (0)) ⟨0, (⟨100 + (k : Int), 1, true, ⟨#[107]⟩, vals[k]!, 0, (((100 * (k : Int)) + 1000) - 1) - ((i57 : Nat) : Int), (((100 * (k : Int)) + 1000) + 1) + ((i66 : Nat) : Int), false, (⟨(k : Int) + 1, 100 + (k : Int)⟩ : GTag)⟩ : GCall), rfl, ⟨by omega, .inl rfl⟩, by kernel_rfl, hp96⟩ ?_
        rintro _ e99 w100 ⟨j, c2, rfl, hI102, hE103, hp101⟩
        obtain ⟨b104, rfl⟩ := toMk hE103
        clear hE103
        obtain ⟨pj, opv⟩ := hI102
        refine WP.seq ?_
        refine WP.seq ?_
        refine WP.pure {} [.slice m.Open.a m.Open.n m.Open.c] [1, 4, 5, 6, 7, 8, 11, 12, 80] [.pointer (some ⟨g3, 0, none⟩), .slice a n c, .slice ao no co, .pointer (some ⟨g9, 0, none⟩), .bool true, .int .i64 (k : Int), .pointer (some ⟨g72, 0, none⟩), .int .i64 (j : Int), .bool (decide ((j : Int) < ((m.Open.n : Nat) : Int)))] (.cons (Ld.row1 (P := Try.prog) (t := 24) (o := 3) (v := .slice m.Open.a m.Open.n m.Open.c) hp101.get4 (by kernel_rfl)) .nil) (by kernel_rfl) (fun b105 => ?_)
        refine thn_n ?_
        refine WP.test (p := (j : Int) < ((m.Open.n : Nat) : Int)) rfl Bp.dec (fun h106 => ?_) (fun h106 => ?_)
        · refine WP.skip ?_
          refine thn_n ?_
          refine WP.seq ?_
          refine WP.block ?_
          refine WP.seq ?_
          refine WP.region _ rfl (by kernel_rfl) ?_
          have hy110 : (opn)[j]? = some opn[j]! := get_bang (by first | (omega) | (simp only [List.length_append, List.length_cons, List.length_nil]; omega) | (simp only [List.length_take, List.length_append, List.length_cons, List.length_nil]; omega))
          refine OPS.batch 5 {} [.slice m.Open.a m.Open.n m.Open.c, .int .i64 (opn[j]!)] [1, 4, 5, 6, 7, 8, 11, 12, 87] [.pointer (some ⟨g3, 0, none⟩), .slice a n c, .slice ao no co, .pointer (some ⟨g9, 0, none⟩), .bool true, .int .i64 (k : Int), .pointer (some ⟨g72, 0, none⟩), .int .i64 (j : Int), .int .i64 (opn[j]!)] (.cons (Ld.row1 (P := Try.prog) (t := 24) (o := 3) (v := .slice m.Open.a m.Open.n m.Open.c) hp101.get4 (by kernel_rfl)) (.cons (show InB ((j : Int)) (m.Open.n) from ⟨by omega, by omega⟩) (.cons ((ho2.at hp101).some (by omega)) (.cons (Ld.add0 (Ld.el1 (P := Try.prog) (t := 3) (ho2.at hp101).rd 1 (fun _ => rfl) hy110 (o := 0) (v := .int .i64 (opn[j]!)) (by kernel_rfl))) .nil)))) (by kernel_rfl) (fun b111 => ?_)
          refine OPS.cons (opStep.call (some 88) [.int .i64 (opn[j]!), .int .i64 24] (by kernel_rfl) (l21_mod (opn[j]!) 24 _ (by omega) (by omega)) ?_)
          rintro _ w114 ⟨rfl, hf115⟩
          refine ⟨_, rfl, ?_⟩
          have hp116 := hp101.step hf115
          obtain ⟨i117, hm118⟩ : ∃ z : Nat, mdI (opn[j]!) 24 = (z : Int) := ⟨(mdI (opn[j]!) 24).toNat, by have := mdI_bd (opn[j]!) (n := 24) (by omega); omega⟩
          have hm119 : (i117 : Int) < 24 := by have := mdI_bd (opn[j]!) (n := 24) (by omega); omega
          rw [hm118]
          refine OPS.batch 3 {} [] [1, 4, 5, 6, 7, 8, 11, 12, 91] [.pointer (some ⟨g3, 0, none⟩), .slice a n c, .slice ao no co, .pointer (some ⟨g9, 0, none⟩), .bool true, .int .i64 (k : Int), .pointer (some ⟨g72, 0, none⟩), .int .i64 (j : Int), .bool (decide (((i117 : Nat) : Int) = (k : Int)))] .nil (by kernel_rfl) (fun b120 => ?_)
          by_cases h121 : ((i117 : Nat) : Int) = (k : Int)
          · refine OPS.batch 0 {} [] [1, 4, 5, 6, 7, 8, 11, 12, 91] [.pointer (some ⟨g3, 0, none⟩), .slice a n c, .slice ao no co, .pointer (some ⟨g9, 0, none⟩), .bool true, .int .i64 (k : Int), .pointer (some ⟨g72, 0, none⟩), .int .i64 (j : Int), .bool (decide (((i117 : Nat) : Int) = (k : Int)))] .nil (by kernel_rfl) (fun b122 => ?_)
            refine OPS.re [.pointer (some ⟨g3, 0, none⟩), .slice a n c, .slice ao no co, .pointer (some ⟨g9, 0, none⟩), .bool true, .int .i64 (k : Int), .pointer (some ⟨g72, 0, none⟩), .int .i64 (j : Int), .bool true] (by rw [show (decide (((i117 : Nat) : Int) = (k : Int))) = true from Bp.dec.tt h121]) ?_
            refine OPS.batch 10 { wraps := [101] } [] [1, 4, 5, 6, 7, 8, 11, 12, 101] [.pointer (some ⟨g3, 0, none⟩), .slice a n c, .slice ao no co, .pointer (some ⟨g9, 0, none⟩), .bool true, .int .i64 (k : Int), .pointer (some ⟨g72, 0, none⟩), .int .i64 (j : Int), .bool true] .nil (by kernel_rfl) (fun b123 => ?_)
            refine OPS.nil ?_
            refine thn_n ?_
            refine WP.condT rfl ?_
            refine WP.seq ?_
            refine WP.region _ rfl (by kernel_rfl) ?_
            refine OPS.batch 1 {} [] [1, 4, 5, 6, 7, 8, 11, 12, 102] [.pointer (some ⟨g3, 0, none⟩), .slice a n c, .slice ao no co, .pointer (some ⟨g9, 0, none⟩), .bool true, .int .i64 (k : Int), .pointer (some ⟨g72, 0, none⟩), .int .i64 (j : Int), .pointer (some ⟨g72, 8, none⟩)] .nil (by kernel_rfl) (fun b124 => ?_)
            refine OPS.cons (opStep.store0 hp116 rfl [.bool true] [.int .i64 c2.Client, .int .i64 c2.Op, .bool c2.Put, .string c2.Key, .slice c2.Value.a c2.Value.n c2.Value.c, .int .i64 c2.Status, .int .i64 c2.From, .int .i64 c2.To, .bool true, .int .i64 c2.Tag.Count, .int .i64 c2.Tag.Client] (by kernel_rfl) (fun w125 hp126 => ?_))
            refine OPS.nil ?_
            refine thn_n ?_
            refine WP.seq ?_
            refine WP.region _ rfl (by kernel_rfl) ?_
            refine OPS.batch 1 {} [] [1, 4, 5, 6, 7, 8, 11, 12, 103] [.pointer (some ⟨g3, 0, none⟩), .slice a n c, .slice ao no co, .pointer (some ⟨g9, 0, none⟩), .bool true, .int .i64 (k : Int), .pointer (some ⟨g72, 0, none⟩), .int .i64 (j : Int), .pointer (some ⟨g72, 7, none⟩)] .nil (by kernel_rfl) (fun b127 => ?_)
            refine OPS.cons (opStep.store0 hp126 rfl [.int .i64 (-1)] [.int .i64 c2.Client, .int .i64 c2.Op, .bool c2.Put, .string c2.Key, .slice c2.Value.a c2.Value.n c2.Value.c, .int .i64 c2.Status, .int .i64 c2.From, .int .i64 (-1), .bool true, .int .i64 c2.Tag.Count, .int .i64 c2.Tag.Client] (by kernel_rfl) (fun w128 hp129 => ?_))
            refine OPS.nil ?_
            refine thn_n ?_
            refine WP.seq ?_
            refine WP.region _ rfl (by kernel_rfl) ?_
            refine OPS.batch 5 {} [.slice m.Open.a m.Open.n m.Open.c, .int .i64 (opn[j]!)] [1, 4, 5, 6, 7, 8, 11, 12, 108] [.pointer (some ⟨g3, 0, none⟩), .slice a n c, .slice ao no co, .pointer (some ⟨g9, 0, none⟩), .bool true, .int .i64 (k : Int), .pointer (some ⟨g72, 0, none⟩), .int .i64 (j : Int), .int .i64 (opn[j]!)] (.cons (Ld.row1 (P := Try.prog) (t := 24) (o := 3) (v := .slice m.Open.a m.Open.n m.Open.c) hp129.get4 (by kernel_rfl)) (.cons (show InB ((j : Int)) (m.Open.n) from ⟨by omega, by omega⟩) (.cons ((ho2.at hp129).some (by omega)) (.cons (Ld.add0 (Ld.el1 (P := Try.prog) (t := 3) (ho2.at hp129).rd 1 (fun _ => rfl) hy110 (o := 0) (v := .int .i64 (opn[j]!)) (by kernel_rfl))) .nil)))) (by kernel_rfl) (fun b130 => ?_)
            refine OPS.cons (opStep.call (some 109) [.int .i64 (opn[j]!), .int .i64 24] (by kernel_rfl) (l21_mod (opn[j]!) 24 _ (by omega) (by omega)) ?_)
            rintro _ w133 ⟨rfl, hf134⟩
            refine ⟨_, rfl, ?_⟩
            have hp135 := hp129.step hf134
            obtain ⟨i136, hm137⟩ : ∃ z : Nat, mdI (opn[j]!) 24 = (z : Int) := ⟨(mdI (opn[j]!) 24).toNat, by have := mdI_bd (opn[j]!) (n := 24) (by omega); omega⟩
            have hm138 : (i136 : Int) < 24 := by have := mdI_bd (opn[j]!) (n := 24) (by omega); omega
            rw [hm137]
            refine OPS.batch 3 {} [] [1, 4, 5, 6, 7, 8, 11, 12, 112] [.pointer (some ⟨g3, 0, none⟩), .slice a n c, .slice ao no co, .pointer (some ⟨g9, 0, none⟩), .bool true, .int .i64 (k : Int), .pointer (some ⟨g72, 0, none⟩), .int .i64 (j : Int), .bool (decide (((i136 : Nat) : Int) = ((k : Int) + 12)))] (.cons (show Rng .i64 ((k : Int) + 12) from Rng.i64 (by omega)) .nil) (by kernel_rfl) (fun b139 => ?_)
            refine OPS.nil ?_
            refine thn_n ?_
            refine WP.test (p := ((i136 : Nat) : Int) = ((k : Int) + 12)) rfl Bp.dec (fun h140 => ?_) (fun h140 => ?_)
            · refine WP.region _ rfl (by kernel_rfl) ?_
              refine OPS.batch 2 {} [] [1, 4, 5, 6, 7, 8, 11, 12, 113, 114] [.pointer (some ⟨g3, 0, none⟩), .slice a n c, .slice ao no co, .pointer (some ⟨g9, 0, none⟩), .bool true, .int .i64 (k : Int), .pointer (some ⟨g72, 0, none⟩), .int .i64 (j : Int), .agg #[.int .i64 0, .int .i64 0], .pointer (some ⟨g72, 9, none⟩)] .nil (by kernel_rfl) (fun b141 => ?_)
              refine OPS.cons (opStep.store0 hp135 rfl [.int .i64 0, .int .i64 0] [.int .i64 c2.Client, .int .i64 c2.Op, .bool c2.Put, .string c2.Key, .slice c2.Value.a c2.Value.n c2.Value.c, .int .i64 c2.Status, .int .i64 c2.From, .int .i64 (-1), .bool true, .int .i64 0, .int .i64 0] (by kernel_rfl) (fun w142 hp143 => ?_))
              refine OPS.nil ?_
              refine blk_n ?_
              refine thn_n ?_
              refine WP.pure {} [] [1, 4, 5, 6, 7, 8, 11, 12] [.pointer (some ⟨g3, 0, none⟩), .slice a n c, .slice ao no co, .pointer (some ⟨g9, 0, none⟩), .bool true, .int .i64 (k : Int), .pointer (some ⟨g72, 0, none⟩), .int .i64 ((j : Int) + 1)] (.cons (show Rng .i64 ((j : Int) + 1) from Rng.i64 (by omega)) .nil) (by kernel_rfl) (fun b144 => ?_)
              refine thn_n ?_
              exact ⟨opn.length - (j + 1), (by omega), j + 1, (⟨c2.Client, c2.Op, c2.Put, c2.Key, c2.Value, c2.Status, c2.From, (-1), true, (⟨0, 0⟩ : GTag)⟩ : GCall), rfl, ⟨by omega, opv.two⟩, by kernel_rfl, hp143⟩
            · refine WP.skip ?_
              refine blk_n ?_
              refine thn_n ?_
              refine WP.pure {} [] [1, 4, 5, 6, 7, 8, 11, 12] [.pointer (some ⟨g3, 0, none⟩), .slice a n c, .slice ao no co, .pointer (some ⟨g9, 0, none⟩), .bool true, .int .i64 (k : Int), .pointer (some ⟨g72, 0, none⟩), .int .i64 ((j : Int) + 1)] (.cons (show Rng .i64 ((j : Int) + 1) from Rng.i64 (by omega)) .nil) (by kernel_rfl) (fun b145 => ?_)
              refine thn_n ?_
              exact ⟨opn.length - (j + 1), (by omega), j + 1, (⟨c2.Client, c2.Op, c2.Put, c2.Key, c2.Value, c2.Status, c2.From, (-1), true, c2.Tag⟩ : GCall), rfl, ⟨by omega, opv.one⟩, by kernel_rfl, hp135⟩
          · refine OPS.batch 0 {} [] [1, 4, 5, 6, 7, 8, 11, 12, 91] [.pointer (some ⟨g3, 0, none⟩), .slice a n c, .slice ao no co, .pointer (some ⟨g9, 0, none⟩), .bool true, .int .i64 (k : Int), .pointer (some ⟨g72, 0, none⟩), .int .i64 (j : Int), .bool (decide (((i117 : Nat) : Int) = (k : Int)))] .nil (by kernel_rfl) (fun b146 => ?_)
            refine OPS.re [.pointer (some ⟨g3, 0, none⟩), .slice a n c, .slice ao no co, .pointer (some ⟨g9, 0, none⟩), .bool true, .int .i64 (k : Int), .pointer (some ⟨g72, 0, none⟩), .int .i64 (j : Int), .bool false] (by rw [show (decide (((i117 : Nat) : Int) = (k : Int))) = false from Bp.dec.ff h121]) ?_
            refine OPS.batch 5 {} [.slice m.Open.a m.Open.n m.Open.c, .int .i64 (opn[j]!)] [1, 4, 5, 6, 7, 8, 11, 12, 91, 96] [.pointer (some ⟨g3, 0, none⟩), .slice a n c, .slice ao no co, .pointer (some ⟨g9, 0, none⟩), .bool true, .int .i64 (k : Int), .pointer (some ⟨g72, 0, none⟩), .int .i64 (j : Int), .bool false, .int .i64 (opn[j]!)] (.cons (Ld.row1 (P := Try.prog) (t := 24) (o := 3) (v := .slice m.Open.a m.Open.n m.Open.c) hp116.get4 (by kernel_rfl)) (.cons (show InB ((j : Int)) (m.Open.n) from ⟨by omega, by omega⟩) (.cons ((ho2.at hp116).some (by omega)) (.cons (Ld.add0 (Ld.el1 (P := Try.prog) (t := 3) (ho2.at hp116).rd 1 (fun _ => rfl) hy110 (o := 0) (v := .int .i64 (opn[j]!)) (by kernel_rfl))) .nil)))) (by kernel_rfl) (fun b147 => ?_)
            refine OPS.want (by kernel_rfl) ?_
            refine OPS.cons (opStep.call (some 97) [.int .i64 (opn[j]!), .int .i64 24] (by kernel_rfl) (l21_mod (opn[j]!) 24 _ (by omega) (by omega)) ?_)
            rintro _ w150 ⟨rfl, hf151⟩
            refine ⟨_, rfl, ?_⟩
            have hp152 := hp116.step hf151
            obtain ⟨i153, hm154⟩ : ∃ z : Nat, mdI (opn[j]!) 24 = (z : Int) := ⟨(mdI (opn[j]!) 24).toNat, by have := mdI_bd (opn[j]!) (n := 24) (by omega); omega⟩
            have hm155 : (i153 : Int) < 24 := by have := mdI_bd (opn[j]!) (n := 24) (by omega); omega
            rw [hm154]
            refine OPS.batch 4 { wraps := [101] } [] [1, 4, 5, 6, 7, 8, 11, 12, 101] [.pointer (some ⟨g3, 0, none⟩), .slice a n c, .slice ao no co, .pointer (some ⟨g9, 0, none⟩), .bool true, .int .i64 (k : Int), .pointer (some ⟨g72, 0, none⟩), .int .i64 (j : Int), .bool (decide (((i153 : Nat) : Int) = ((k : Int) + 12)))] (.cons (show Rng .i64 ((k : Int) + 12) from Rng.i64 (by omega)) .nil) (by kernel_rfl) (fun b156 => ?_)
            refine OPS.nil ?_
            refine thn_n ?_
            refine WP.test (p := ((i153 : Nat) : Int) = ((k : Int) + 12)) rfl Bp.dec (fun h157 => ?_) (fun h157 => ?_)
            · refine WP.seq ?_
              refine WP.region _ rfl (by kernel_rfl) ?_
              refine OPS.batch 1 {} [] [1, 4, 5, 6, 7, 8, 11, 12, 102] [.pointer (some ⟨g3, 0, none⟩), .slice a n c, .slice ao no co, .pointer (some ⟨g9, 0, none⟩), .bool true, .int .i64 (k : Int), .pointer (some ⟨g72, 0, none⟩), .int .i64 (j : Int), .pointer (some ⟨g72, 8, none⟩)] .nil (by kernel_rfl) (fun b158 => ?_)
              refine OPS.cons (opStep.store0 hp152 rfl [.bool true] [.int .i64 c2.Client, .int .i64 c2.Op, .bool c2.Put, .string c2.Key, .slice c2.Value.a c2.Value.n c2.Value.c, .int .i64 c2.Status, .int .i64 c2.From, .int .i64 c2.To, .bool true, .int .i64 c2.Tag.Count, .int .i64 c2.Tag.Client] (by kernel_rfl) (fun w159 hp160 => ?_))
              refine OPS.nil ?_
              refine thn_n ?_
              refine WP.seq ?_
              refine WP.region _ rfl (by kernel_rfl) ?_
              refine OPS.batch 1 {} [] [1, 4, 5, 6, 7, 8, 11, 12, 103] [.pointer (some ⟨g3, 0, none⟩), .slice a n c, .slice ao no co, .pointer (some ⟨g9, 0, none⟩), .bool true, .int .i64 (k : Int), .pointer (some ⟨g72, 0, none⟩), .int .i64 (j : Int), .pointer (some ⟨g72, 7, none⟩)] .nil (by kernel_rfl) (fun b161 => ?_)
              refine OPS.cons (opStep.store0 hp160 rfl [.int .i64 (-1)] [.int .i64 c2.Client, .int .i64 c2.Op, .bool c2.Put, .string c2.Key, .slice c2.Value.a c2.Value.n c2.Value.c, .int .i64 c2.Status, .int .i64 c2.From, .int .i64 (-1), .bool true, .int .i64 c2.Tag.Count, .int .i64 c2.Tag.Client] (by kernel_rfl) (fun w162 hp163 => ?_))
              refine OPS.nil ?_
              refine thn_n ?_
              refine WP.seq ?_
              refine WP.region _ rfl (by kernel_rfl) ?_
              refine OPS.batch 5 {} [.slice m.Open.a m.Open.n m.Open.c, .int .i64 (opn[j]!)] [1, 4, 5, 6, 7, 8, 11, 12, 108] [.pointer (some ⟨g3, 0, none⟩), .slice a n c, .slice ao no co, .pointer (some ⟨g9, 0, none⟩), .bool true, .int .i64 (k : Int), .pointer (some ⟨g72, 0, none⟩), .int .i64 (j : Int), .int .i64 (opn[j]!)] (.cons (Ld.row1 (P := Try.prog) (t := 24) (o := 3) (v := .slice m.Open.a m.Open.n m.Open.c) hp163.get4 (by kernel_rfl)) (.cons (show InB ((j : Int)) (m.Open.n) from ⟨by omega, by omega⟩) (.cons ((ho2.at hp163).some (by omega)) (.cons (Ld.add0 (Ld.el1 (P := Try.prog) (t := 3) (ho2.at hp163).rd 1 (fun _ => rfl) hy110 (o := 0) (v := .int .i64 (opn[j]!)) (by kernel_rfl))) .nil)))) (by kernel_rfl) (fun b164 => ?_)
              refine OPS.cons (opStep.call (some 109) [.int .i64 (opn[j]!), .int .i64 24] (by kernel_rfl) (l21_mod (opn[j]!) 24 _ (by omega) (by omega)) ?_)
              rintro _ w167 ⟨rfl, hf168⟩
              refine ⟨_, rfl, ?_⟩
              have hp169 := hp163.step hf168
              obtain ⟨i170, hm171⟩ : ∃ z : Nat, mdI (opn[j]!) 24 = (z : Int) := ⟨(mdI (opn[j]!) 24).toNat, by have := mdI_bd (opn[j]!) (n := 24) (by omega); omega⟩
              have hm172 : (i170 : Int) < 24 := by have := mdI_bd (opn[j]!) (n := 24) (by omega); omega
              rw [hm171]
              refine OPS.batch 3 {} [] [1, 4, 5, 6, 7, 8, 11, 12, 112] [.pointer (some ⟨g3, 0, none⟩), .slice a n c, .slice ao no co, .pointer (some ⟨g9, 0, none⟩), .bool true, .int .i64 (k : Int), .pointer (some ⟨g72, 0, none⟩), .int .i64 (j : Int), .bool (decide (((i170 : Nat) : Int) = ((k : Int) + 12)))] (.cons (show Rng .i64 ((k : Int) + 12) from Rng.i64 (by omega)) .nil) (by kernel_rfl) (fun b173 => ?_)
              refine OPS.nil ?_
              refine thn_n ?_
              refine WP.test (p := ((i170 : Nat) : Int) = ((k : Int) + 12)) rfl Bp.dec (fun h174 => ?_) (fun h174 => ?_)
              · refine WP.region _ rfl (by kernel_rfl) ?_
                refine OPS.batch 2 {} [] [1, 4, 5, 6, 7, 8, 11, 12, 113, 114] [.pointer (some ⟨g3, 0, none⟩), .slice a n c, .slice ao no co, .pointer (some ⟨g9, 0, none⟩), .bool true, .int .i64 (k : Int), .pointer (some ⟨g72, 0, none⟩), .int .i64 (j : Int), .agg #[.int .i64 0, .int .i64 0], .pointer (some ⟨g72, 9, none⟩)] .nil (by kernel_rfl) (fun b175 => ?_)
                refine OPS.cons (opStep.store0 hp169 rfl [.int .i64 0, .int .i64 0] [.int .i64 c2.Client, .int .i64 c2.Op, .bool c2.Put, .string c2.Key, .slice c2.Value.a c2.Value.n c2.Value.c, .int .i64 c2.Status, .int .i64 c2.From, .int .i64 (-1), .bool true, .int .i64 0, .int .i64 0] (by kernel_rfl) (fun w176 hp177 => ?_))
                refine OPS.nil ?_
                refine blk_n ?_
                refine thn_n ?_
                refine WP.pure {} [] [1, 4, 5, 6, 7, 8, 11, 12] [.pointer (some ⟨g3, 0, none⟩), .slice a n c, .slice ao no co, .pointer (some ⟨g9, 0, none⟩), .bool true, .int .i64 (k : Int), .pointer (some ⟨g72, 0, none⟩), .int .i64 ((j : Int) + 1)] (.cons (show Rng .i64 ((j : Int) + 1) from Rng.i64 (by omega)) .nil) (by kernel_rfl) (fun b178 => ?_)
                refine thn_n ?_
                exact ⟨opn.length - (j + 1), (by omega), j + 1, (⟨c2.Client, c2.Op, c2.Put, c2.Key, c2.Value, c2.Status, c2.From, (-1), true, (⟨0, 0⟩ : GTag)⟩ : GCall), rfl, ⟨by omega, opv.two⟩, by kernel_rfl, hp177⟩
              · refine WP.skip ?_
                refine blk_n ?_
                refine thn_n ?_
                refine WP.pure {} [] [1, 4, 5, 6, 7, 8, 11, 12] [.pointer (some ⟨g3, 0, none⟩), .slice a n c, .slice ao no co, .pointer (some ⟨g9, 0, none⟩), .bool true, .int .i64 (k : Int), .pointer (some ⟨g72, 0, none⟩), .int .i64 ((j : Int) + 1)] (.cons (show Rng .i64 ((j : Int) + 1) from Rng.i64 (by omega)) .nil) (by kernel_rfl) (fun b179 => ?_)
                refine thn_n ?_
                exact ⟨opn.length - (j + 1), (by omega), j + 1, (⟨c2.Client, c2.Op, c2.Put, c2.Key, c2.Value, c2.Status, c2.From, (-1), true, c2.Tag⟩ : GCall), rfl, ⟨by omega, opv.one⟩, by kernel_rfl, hp169⟩
            · refine WP.skip ?_
              refine blk_n ?_
              refine thn_n ?_
              refine WP.pure {} [] [1, 4, 5, 6, 7, 8, 11, 12] [.pointer (some ⟨g3, 0, none⟩), .slice a n c, .slice ao no co, .pointer (some ⟨g9, 0, none⟩), .bool true, .int .i64 (k : Int), .pointer (some ⟨g72, 0, none⟩), .int .i64 ((j : Int) + 1)] (.cons (show Rng .i64 ((j : Int) + 1) from Rng.i64 (by omega)) .nil) (by kernel_rfl) (fun b180 => ?_)
              refine thn_n ?_
              exact ⟨opn.length - (j + 1), (by omega), j + 1, c2, rfl, ⟨by omega, opv⟩, by kernel_rfl, hp152⟩
        · refine WP.exit ?_
          refine thn_x ?_
          refine thn_x ?_
          refine blk_hit ?_
          refine thn_n ?_
          refine WP.seq ?_
          refine WP.region _ rfl (by kernel_rfl) ?_
          refine OPS.batch 2 {} [GCall.val c2] [1, 5, 6, 7, 8, 123, 124] [.pointer (some ⟨g3, 0, none⟩), .slice ao no co, .pointer (some ⟨g9, 0, none⟩), .bool true, .int .i64 (k : Int), .slice a n c, GCall.val c2] (.cons (show Ld Try.prog w100 73 ⟨g72, 0, none⟩ (GCall.val c2) from Ld.rowN (cs := [.int .i64 c2.Client, .int .i64 c2.Op, .bool c2.Put, .string c2.Key, .slice c2.Value.a c2.Value.n c2.Value.c, .int .i64 c2.Status, .int .i64 c2.From, .int .i64 c2.To, .bool c2.Open, .int .i64 c2.Tag.Count, .int .i64 c2.Tag.Client]) hp101.get0 (by kernel_rfl)) .nil) (by kernel_rfl) (fun b181 => ?_)
          refine OPS.cons (opStep.buildSlice (E := 73) hp101 [.int .i64 c2.Client, .int .i64 c2.Op, .bool c2.Put, .string c2.Key, .slice c2.Value.a c2.Value.n c2.Value.c, .int .i64 c2.Status, .int .i64 c2.From, .int .i64 c2.To, .bool c2.Open, .int .i64 c2.Tag.Count, .int .i64 c2.Tag.Client] (by kernel_rfl) (fun g184 w182 hp183 => ?_))
          refine OPS.cons (opStep.append3 [.int .i64 c2.Client, .int .i64 c2.Op, .bool c2.Put, .string c2.Key, .slice c2.Value.a c2.Value.n c2.Value.c, .int .i64 c2.Status, .int .i64 c2.From, .int .i64 c2.To, .bool c2.Open, .int .i64 c2.Tag.Count, .int .i64 c2.Tag.Client] hp183 112 (by kernel_rfl) rfl rfl rfl (SlR.row (n := 1) hp183.get0 rfl).rd (List.all_eq_true.1 (by kernel_rfl)) (by decide) (by omega) (by omega) (fun a187 c188 w189 hp190 hn191 => ?_))
          rw [(show List.flatMap GCall.cells l ++ [.int .i64 c2.Client, .int .i64 c2.Op, .bool c2.Put, .string c2.Key, .slice c2.Value.a c2.Value.n c2.Value.c, .int .i64 c2.Status, .int .i64 c2.From, .int .i64 c2.To, .bool c2.Open, .int .i64 c2.Tag.Count, .int .i64 c2.Tag.Client] = List.flatMap GCall.cells (l ++ [c2]) from (List.flatMap_append (xs := l) (ys := [c2])).symm)] at hp190
          refine OPS.batch 1 {} [] [1, 4, 5, 6, 7, 8] [.pointer (some ⟨g3, 0, none⟩), .slice a187 (n + 1) c188, .slice ao no co, .pointer (some ⟨g9, 0, none⟩), .bool true, .int .i64 (k : Int)] .nil (by kernel_rfl) (fun b192 => ?_)
          refine OPS.nil ?_
          refine thn_n ?_
          refine WP.region _ rfl (by kernel_rfl) ?_
          refine OPS.batch 2 {} [] [1, 4, 6, 7, 8, 127, 128] [.pointer (some ⟨g3, 0, none⟩), .slice a187 (n + 1) c188, .pointer (some ⟨g9, 0, none⟩), .bool true, .int .i64 (k : Int), .slice ao no co, .int .i64 (k : Int)] .nil (by kernel_rfl) (fun b193 => ?_)
          refine OPS.cons (opStep.buildSlice (E := 3) hp190 [.int .i64 (k : Int)] (by kernel_rfl) (fun g196 w194 hp195 => ?_))
          refine OPS.cons (opStep.append3 [.int .i64 (k : Int)] hp195 8 (by kernel_rfl) rfl rfl rfl (SlR.row (n := 1) hp195.get0 rfl).rd (List.all_eq_true.1 (by kernel_rfl)) (by decide) (by omega) (by omega) (fun a199 c200 w201 hp202 hn203 => ?_))
          rw [(show List.flatMap (fun (y : Int) => [Go.Value.int .i64 y]) o ++ [.int .i64 (k : Int)] = List.flatMap (fun (y : Int) => [Go.Value.int .i64 y]) (o ++ [(k : Int)]) from (List.flatMap_append (xs := o) (ys := [(k : Int)])).symm)] at hp202
          refine OPS.batch 1 {} [] [1, 4, 5, 6, 7, 8] [.pointer (some ⟨g3, 0, none⟩), .slice a187 (n + 1) c188, .slice a199 (no + 1) c200, .pointer (some ⟨g9, 0, none⟩), .bool true, .int .i64 (k : Int)] .nil (by kernel_rfl) (fun b204 => ?_)
          refine OPS.nil ?_
          refine blk_n ?_
          refine thn_n ?_
          refine WP.pure {} [] [1, 4, 5, 6, 7, 8] [.pointer (some ⟨g3, 0, none⟩), .slice a187 (n + 1) c188, .slice a199 (no + 1) c200, .pointer (some ⟨g9, 0, none⟩), .bool true, .int .i64 ((k : Int) + 1)] (.cons (show Rng .i64 ((k : Int) + 1) from Rng.i64 (by omega)) .nil) (by kernel_rfl) (fun b205 => ?_)
          refine thn_n ?_
          exact ⟨12 - (k + 1), (by omega), k + 1, l ++ [c2], a187, n + 1, c188, o ++ [(k : Int)], a199, no + 1, c200, true, (⟨100 + (k : Int), 1, true, ⟨#[107]⟩, vals[k]!, 0, (((100 * (k : Int)) + 1000) - 1) - ((i57 : Nat) : Int), (((100 * (k : Int)) + 1000) + 1) + ((i66 : Nat) : Int), false, (⟨(k : Int) + 1, 100 + (k : Int)⟩ : GTag)⟩ : GCall), rfl, ⟨⟨by omega, by omega⟩, ph.put opv ⟨rfl, rfl, ⟨(by dsimp only; omega), (by dsimp only; omega)⟩, rfl, rfl, Bool.false_ne_true, (by dsimp only; omega), rfl⟩ (hvb _ (List.mem_of_getElem? (get_bang (by omega))))⟩, by kernel_rfl, (hp202.sub (.cons _ (.cons _ (.cons _ (.cons_cons _ (.cons_cons _ (.cons_cons _ (.cons_cons _ (.slnil)))))))))⟩
      · refine WP.skip ?_
        refine thn_n ?_
        refine WP.seq ?_
        refine WP.region _ rfl (by kernel_rfl) ?_
        refine OPS.batch 6 {} [.int .i64 (100 + (k : Int))] [1, 4, 5, 6, 8, 11, 73, 74] [.pointer (some ⟨g3, 0, none⟩), .slice a n c, .slice ao no co, .pointer (some ⟨g9, 0, none⟩), .int .i64 (k : Int), .pointer (some ⟨g72, 0, none⟩), .agg #[.int .i64 ((k : Int) + 1), .int .i64 (100 + (k : Int))], .pointer (some ⟨g72, 9, none⟩)] (.cons (show Rng .i64 ((k : Int) + 1) from Rng.i64 (by omega)) (.cons (Ld.row1 (P := Try.prog) (t := 3) (o := 0) (v := .int .i64 (100 + (k : Int))) hp81.get0 (by kernel_rfl)) .nil)) (by kernel_rfl) (fun b206 => ?_)
        refine OPS.cons (opStep.store0 hp81 rfl [.int .i64 ((k : Int) + 1), .int .i64 (100 + (k : Int))] [.int .i64 (100 + (k : Int)), .int .i64 1, .bool true, .string ⟨#[107]⟩, .slice none 0 0, .int .i64 0, .int .i64 ((((100 * (k : Int)) + 1000) - 1) - ((i57 : Nat) : Int)), .int .i64 ((((100 * (k : Int)) + 1000) + 1) + ((i66 : Nat) : Int)), .bool false, .int .i64 ((k : Int) + 1), .int .i64 (100 + (k : Int))] (by kernel_rfl) (fun w207 hp208 => ?_))
        refine OPS.nil ?_
        refine thn_n ?_
        refine WP.seq ?_
        refine WP.region _ rfl (by kernel_rfl) ?_
        refine OPS.batch 1 {} [.agg #[.int .i64 (100 + (k : Int)), .int .i64 1, .bool true, .string ⟨#[107]⟩, .slice none 0 0, .int .i64 0, .int .i64 ((((100 * (k : Int)) + 1000) - 1) - ((i57 : Nat) : Int)), .int .i64 ((((100 * (k : Int)) + 1000) + 1) + ((i66 : Nat) : Int)), .bool false, .int .i64 ((k : Int) + 1), .int .i64 (100 + (k : Int))]] [1, 4, 5, 6, 8, 11, 75] [.pointer (some ⟨g3, 0, none⟩), .slice a n c, .slice ao no co, .pointer (some ⟨g9, 0, none⟩), .int .i64 (k : Int), .pointer (some ⟨g72, 0, none⟩), .agg #[.int .i64 (100 + (k : Int)), .int .i64 1, .bool true, .string ⟨#[107]⟩, .slice none 0 0, .int .i64 0, .int .i64 ((((100 * (k : Int)) + 1000) - 1) - ((i57 : Nat) : Int)), .int .i64 ((((100 * (k : Int)) + 1000) + 1) + ((i66 : Nat) : Int)), .bool false, .int .i64 ((k : Int) + 1), .int .i64 (100 + (k : Int))]] (.cons (show Ld Try.prog w207 73 ⟨g72, 0, none⟩ (.agg #[.int .i64 (100 + (k : Int)), .int .i64 1, .bool true, .string ⟨#[107]⟩, .slice none 0 0, .int .i64 0, .int .i64 ((((100 * (k : Int)) + 1000) - 1) - ((i57 : Nat) : Int)), .int .i64 ((((100 * (k : Int)) + 1000) + 1) + ((i66 : Nat) : Int)), .bool false, .int .i64 ((k : Int) + 1), .int .i64 (100 + (k : Int))]) from Ld.rowN (cs := [.int .i64 (100 + (k : Int)), .int .i64 1, .bool true, .string ⟨#[107]⟩, .slice none 0 0, .int .i64 0, .int .i64 ((((100 * (k : Int)) + 1000) - 1) - ((i57 : Nat) : Int)), .int .i64 ((((100 * (k : Int)) + 1000) + 1) + ((i66 : Nat) : Int)), .bool false, .int .i64 ((k : Int) + 1), .int .i64 (100 + (k : Int))]) hp208.get0 (by kernel_rfl)) .nil) (by kernel_rfl) (fun b209 => ?_)
        refine OPS.cons (opStep.store3 hp208 rfl [.int .i64 (100 + (k : Int)), .int .i64 1, .bool true, .string ⟨#[107]⟩, .slice none 0 0, .int .i64 0, .int .i64 ((((100 * (k : Int)) + 1000) - 1) - ((i57 : Nat) : Int)), .int .i64 ((((100 * (k : Int)) + 1000) + 1) + ((i66 : Nat) : Int)), .bool false, .int .i64 ((k : Int) + 1), .int .i64 (100 + (k : Int))] [.int .i64 (100 + (k : Int)), .int .i64 1, .bool true, .string ⟨#[107]⟩, .slice none 0 0, .int .i64 0, .int .i64 ((((100 * (k : Int)) + 1000) - 1) - ((i57 : Nat) : Int)), .int .i64 ((((100 * (k : Int)) + 1000) + 1) + ((i66 : Nat) : Int)), .bool false, .int .i64 ((k : Int) + 1), .int .i64 (100 + (k : Int))] (by kernel_rfl) (fun w210 hp211 => ?_))
        refine OPS.nil ?_
        refine thn_n ?_
        refine WP.seq ?_
        refine WP.pure {} [] [1, 4, 5, 6, 7, 8, 11] [.pointer (some ⟨g3, 0, none⟩), .slice a n c, .slice ao no co, .pointer (some ⟨g9, 0, none⟩), .bool true, .int .i64 (k : Int), .pointer (some ⟨g72, 0, none⟩)] .nil (by kernel_rfl) (fun b212 => ?_)
        refine thn_n ?_
        refine WP.seq ?_
        refine WP.pure {} [] [1, 4, 5, 6, 7, 8, 11, 12] [.pointer (some ⟨g3, 0, none⟩), .slice a n c, .slice ao no co, .pointer (some ⟨g9, 0, none⟩), .bool true, .int .i64 (k : Int), .pointer (some ⟨g72, 0, none⟩), .int .i64 0] .nil (by kernel_rfl) (fun b213 => ?_)
        refine thn_n ?_
        refine WP.block ?_
        refine WP.loop (fun mz_ e214 w215 => ∃ (j : Nat) (c2 : GCall), mz_ = opn.length - j ∧ (j ≤ opn.length ∧ opnV (⟨100 + (k : Int), 1, true, ⟨#[107]⟩, ⟨none, 0, 0⟩, 0, (((100 * (k : Int)) + 1000) - 1) - ((i57 : Nat) : Int), (((100 * (k : Int)) + 1000) + 1) + ((i66 : Nat) : Int), false, (⟨(k : Int) + 1, 100 + (k : Int)⟩ : GTag)⟩ : GCall) c2) ∧ List.map e214 [1, 4, 5, 6, 7, 8, 11, 12] = [.pointer (some ⟨g3, 0, none⟩), .slice a n c, .slice ao no co, .pointer (some ⟨g9, 0, none⟩), .bool true, .int .i64 (k : Int), .pointer (some ⟨g72, 0, none⟩), .int .i64 (j : Int)] ∧ Hp w Non [Res.row g72 [.int .i64 c2.Client, .int .i64 c2.Op, .bool c2.Put, .string c2.Key, .slice c2.Value.a c2.Value.n c2.Value.c, .int .i64 c2.Status, .int .i64 c2.From, .int .i64 c2.To, .bool c2.Open, .int .i64 c2.Tag.Count, .int .i64 c2.Tag.Client] 73, Res.own 3 1 (.slice ao no co) no (List.flatMap (fun (y : Int) => [Go.Value.int .i64 y]) o), Res.own 73 11 (.slice a n c) n (List.flatMap GCall.cells l), Res.row g9 [.int .i64 (100 + (k : Int)), .int .i64 1, .bool true, .string ⟨#[107]⟩, .slice none 0 0, .int .i64 0, .int .i64 ((((100 * (k : Int)) + 1000) - 1) - ((i57 : Nat) : Int)), .int .i64 ((((100 * (k : Int)) + 1000) + 1) + ((i66 : Nat) : Int)), .bool false, .int .i64 ((k : Int) + 1), .int .i64 (100 + (k : Int))] 73, Res.row g3 [.slice m.Who.a m.Who.n m.Who.c, .slice m.Values.a m.Values.n m.Values.c, .slice m.Reach.a m.Reach.n m.Reach.c, .slice m.Open.a m.Open.n m.Open.c] 66] w215) (opn.length - (0)) ⟨0, (⟨100 + (k : Int), 1, true, ⟨#[107]⟩, ⟨none, 0, 0⟩, 0, (((100 * (k : Int)) + 1000) - 1) - ((i57 : Nat) : Int), (((100 * (k : Int)) + 1000) + 1) + ((i66 : Nat) : Int), false, (⟨(k : Int) + 1, 100 + (k : Int)⟩ : GTag)⟩ : GCall), rfl, ⟨by omega, .inl rfl⟩, by kernel_rfl, hp211⟩ ?_
        rintro _ e214 w215 ⟨j, c2, rfl, hI217, hE218, hp216⟩
        obtain ⟨b219, rfl⟩ := toMk hE218
        clear hE218
        obtain ⟨pj, opv⟩ := hI217
        refine WP.seq ?_
        refine WP.seq ?_
        refine WP.pure {} [.slice m.Open.a m.Open.n m.Open.c] [1, 4, 5, 6, 7, 8, 11, 12, 80] [.pointer (some ⟨g3, 0, none⟩), .slice a n c, .slice ao no co, .pointer (some ⟨g9, 0, none⟩), .bool true, .int .i64 (k : Int), .pointer (some ⟨g72, 0, none⟩), .int .i64 (j : Int), .bool (decide ((j : Int) < ((m.Open.n : Nat) : Int)))] (.cons (Ld.row1 (P := Try.prog) (t := 24) (o := 3) (v := .slice m.Open.a m.Open.n m.Open.c) hp216.get4 (by kernel_rfl)) .nil) (by kernel_rfl) (fun b220 => ?_)
        refine thn_n ?_
        refine WP.test (p := (j : Int) < ((m.Open.n : Nat) : Int)) rfl Bp.dec (fun h221 => ?_) (fun h221 => ?_)
        · refine WP.skip ?_
          refine thn_n ?_
          refine WP.seq ?_
          refine WP.block ?_
          refine WP.seq ?_
          refine WP.region _ rfl (by kernel_rfl) ?_
          have hy225 : (opn)[j]? = some opn[j]! := get_bang (by first | (omega) | (simp only [List.length_append, List.length_cons, List.length_nil]; omega) | (simp only [List.length_take, List.length_append, List.length_cons, List.length_nil]; omega))
          refine OPS.batch 5 {} [.slice m.Open.a m.Open.n m.Open.c, .int .i64 (opn[j]!)] [1, 4, 5, 6, 7, 8, 11, 12, 87] [.pointer (some ⟨g3, 0, none⟩), .slice a n c, .slice ao no co, .pointer (some ⟨g9, 0, none⟩), .bool true, .int .i64 (k : Int), .pointer (some ⟨g72, 0, none⟩), .int .i64 (j : Int), .int .i64 (opn[j]!)] (.cons (Ld.row1 (P := Try.prog) (t := 24) (o := 3) (v := .slice m.Open.a m.Open.n m.Open.c) hp216.get4 (by kernel_rfl)) (.cons (show InB ((j : Int)) (m.Open.n) from ⟨by omega, by omega⟩) (.cons ((ho2.at hp216).some (by omega)) (.cons (Ld.add0 (Ld.el1 (P := Try.prog) (t := 3) (ho2.at hp216).rd 1 (fun _ => rfl) hy225 (o := 0) (v := .int .i64 (opn[j]!)) (by kernel_rfl))) .nil)))) (by kernel_rfl) (fun b226 => ?_)
          refine OPS.cons (opStep.call (some 88) [.int .i64 (opn[j]!), .int .i64 24] (by kernel_rfl) (l21_mod (opn[j]!) 24 _ (by omega) (by omega)) ?_)
          rintro _ w229 ⟨rfl, hf230⟩
          refine ⟨_, rfl, ?_⟩
          have hp231 := hp216.step hf230
          obtain ⟨i232, hm233⟩ : ∃ z : Nat, mdI (opn[j]!) 24 = (z : Int) := ⟨(mdI (opn[j]!) 24).toNat, by have := mdI_bd (opn[j]!) (n := 24) (by omega); omega⟩
          have hm234 : (i232 : Int) < 24 := by have := mdI_bd (opn[j]!) (n := 24) (by omega); omega
          rw [hm233]
          refine OPS.batch 3 {} [] [1, 4, 5, 6, 7, 8, 11, 12, 91] [.pointer (some ⟨g3, 0, none⟩), .slice a n c, .slice ao no co, .pointer (some ⟨g9, 0, none⟩), .bool true, .int .i64 (k : Int), .pointer (some ⟨g72, 0, none⟩), .int .i64 (j : Int), .bool (decide (((i232 : Nat) : Int) = (k : Int)))] .nil (by kernel_rfl) (fun b235 => ?_)
          by_cases h236 : ((i232 : Nat) : Int) = (k : Int)
          · refine OPS.batch 0 {} [] [1, 4, 5, 6, 7, 8, 11, 12, 91] [.pointer (some ⟨g3, 0, none⟩), .slice a n c, .slice ao no co, .pointer (some ⟨g9, 0, none⟩), .bool true, .int .i64 (k : Int), .pointer (some ⟨g72, 0, none⟩), .int .i64 (j : Int), .bool (decide (((i232 : Nat) : Int) = (k : Int)))] .nil (by kernel_rfl) (fun b237 => ?_)
            refine OPS.re [.pointer (some ⟨g3, 0, none⟩), .slice a n c, .slice ao no co, .pointer (some ⟨g9, 0, none⟩), .bool true, .int .i64 (k : Int), .pointer (some ⟨g72, 0, none⟩), .int .i64 (j : Int), .bool true] (by rw [show (decide (((i232 : Nat) : Int) = (k : Int))) = true from Bp.dec.tt h236]) ?_
            refine OPS.batch 10 { wraps := [101] } [] [1, 4, 5, 6, 7, 8, 11, 12, 101] [.pointer (some ⟨g3, 0, none⟩), .slice a n c, .slice ao no co, .pointer (some ⟨g9, 0, none⟩), .bool true, .int .i64 (k : Int), .pointer (some ⟨g72, 0, none⟩), .int .i64 (j : Int), .bool true] .nil (by kernel_rfl) (fun b238 => ?_)
            refine OPS.nil ?_
            refine thn_n ?_
            refine WP.condT rfl ?_
            refine WP.seq ?_
            refine WP.region _ rfl (by kernel_rfl) ?_
            refine OPS.batch 1 {} [] [1, 4, 5, 6, 7, 8, 11, 12, 102] [.pointer (some ⟨g3, 0, none⟩), .slice a n c, .slice ao no co, .pointer (some ⟨g9, 0, none⟩), .bool true, .int .i64 (k : Int), .pointer (some ⟨g72, 0, none⟩), .int .i64 (j : Int), .pointer (some ⟨g72, 8, none⟩)] .nil (by kernel_rfl) (fun b239 => ?_)
            refine OPS.cons (opStep.store0 hp231 rfl [.bool true] [.int .i64 c2.Client, .int .i64 c2.Op, .bool c2.Put, .string c2.Key, .slice c2.Value.a c2.Value.n c2.Value.c, .int .i64 c2.Status, .int .i64 c2.From, .int .i64 c2.To, .bool true, .int .i64 c2.Tag.Count, .int .i64 c2.Tag.Client] (by kernel_rfl) (fun w240 hp241 => ?_))
            refine OPS.nil ?_
            refine thn_n ?_
            refine WP.seq ?_
            refine WP.region _ rfl (by kernel_rfl) ?_
            refine OPS.batch 1 {} [] [1, 4, 5, 6, 7, 8, 11, 12, 103] [.pointer (some ⟨g3, 0, none⟩), .slice a n c, .slice ao no co, .pointer (some ⟨g9, 0, none⟩), .bool true, .int .i64 (k : Int), .pointer (some ⟨g72, 0, none⟩), .int .i64 (j : Int), .pointer (some ⟨g72, 7, none⟩)] .nil (by kernel_rfl) (fun b242 => ?_)
            refine OPS.cons (opStep.store0 hp241 rfl [.int .i64 (-1)] [.int .i64 c2.Client, .int .i64 c2.Op, .bool c2.Put, .string c2.Key, .slice c2.Value.a c2.Value.n c2.Value.c, .int .i64 c2.Status, .int .i64 c2.From, .int .i64 (-1), .bool true, .int .i64 c2.Tag.Count, .int .i64 c2.Tag.Client] (by kernel_rfl) (fun w243 hp244 => ?_))
            refine OPS.nil ?_
            refine thn_n ?_
            refine WP.seq ?_
            refine WP.region _ rfl (by kernel_rfl) ?_
            refine OPS.batch 5 {} [.slice m.Open.a m.Open.n m.Open.c, .int .i64 (opn[j]!)] [1, 4, 5, 6, 7, 8, 11, 12, 108] [.pointer (some ⟨g3, 0, none⟩), .slice a n c, .slice ao no co, .pointer (some ⟨g9, 0, none⟩), .bool true, .int .i64 (k : Int), .pointer (some ⟨g72, 0, none⟩), .int .i64 (j : Int), .int .i64 (opn[j]!)] (.cons (Ld.row1 (P := Try.prog) (t := 24) (o := 3) (v := .slice m.Open.a m.Open.n m.Open.c) hp244.get4 (by kernel_rfl)) (.cons (show InB ((j : Int)) (m.Open.n) from ⟨by omega, by omega⟩) (.cons ((ho2.at hp244).some (by omega)) (.cons (Ld.add0 (Ld.el1 (P := Try.prog) (t := 3) (ho2.at hp244).rd 1 (fun _ => rfl) hy225 (o := 0) (v := .int .i64 (opn[j]!)) (by kernel_rfl))) .nil)))) (by kernel_rfl) (fun b245 => ?_)
            refine OPS.cons (opStep.call (some 109) [.int .i64 (opn[j]!), .int .i64 24] (by kernel_rfl) (l21_mod (opn[j]!) 24 _ (by omega) (by omega)) ?_)
            rintro _ w248 ⟨rfl, hf249⟩
            refine ⟨_, rfl, ?_⟩
            have hp250 := hp244.step hf249
            obtain ⟨i251, hm252⟩ : ∃ z : Nat, mdI (opn[j]!) 24 = (z : Int) := ⟨(mdI (opn[j]!) 24).toNat, by have := mdI_bd (opn[j]!) (n := 24) (by omega); omega⟩
            have hm253 : (i251 : Int) < 24 := by have := mdI_bd (opn[j]!) (n := 24) (by omega); omega
            rw [hm252]
            refine OPS.batch 3 {} [] [1, 4, 5, 6, 7, 8, 11, 12, 112] [.pointer (some ⟨g3, 0, none⟩), .slice a n c, .slice ao no co, .pointer (some ⟨g9, 0, none⟩), .bool true, .int .i64 (k : Int), .pointer (some ⟨g72, 0, none⟩), .int .i64 (j : Int), .bool (decide (((i251 : Nat) : Int) = ((k : Int) + 12)))] (.cons (show Rng .i64 ((k : Int) + 12) from Rng.i64 (by omega)) .nil) (by kernel_rfl) (fun b254 => ?_)
            refine OPS.nil ?_
            refine thn_n ?_
            refine WP.test (p := ((i251 : Nat) : Int) = ((k : Int) + 12)) rfl Bp.dec (fun h255 => ?_) (fun h255 => ?_)
            · refine WP.region _ rfl (by kernel_rfl) ?_
              refine OPS.batch 2 {} [] [1, 4, 5, 6, 7, 8, 11, 12, 113, 114] [.pointer (some ⟨g3, 0, none⟩), .slice a n c, .slice ao no co, .pointer (some ⟨g9, 0, none⟩), .bool true, .int .i64 (k : Int), .pointer (some ⟨g72, 0, none⟩), .int .i64 (j : Int), .agg #[.int .i64 0, .int .i64 0], .pointer (some ⟨g72, 9, none⟩)] .nil (by kernel_rfl) (fun b256 => ?_)
              refine OPS.cons (opStep.store0 hp250 rfl [.int .i64 0, .int .i64 0] [.int .i64 c2.Client, .int .i64 c2.Op, .bool c2.Put, .string c2.Key, .slice c2.Value.a c2.Value.n c2.Value.c, .int .i64 c2.Status, .int .i64 c2.From, .int .i64 (-1), .bool true, .int .i64 0, .int .i64 0] (by kernel_rfl) (fun w257 hp258 => ?_))
              refine OPS.nil ?_
              refine blk_n ?_
              refine thn_n ?_
              refine WP.pure {} [] [1, 4, 5, 6, 7, 8, 11, 12] [.pointer (some ⟨g3, 0, none⟩), .slice a n c, .slice ao no co, .pointer (some ⟨g9, 0, none⟩), .bool true, .int .i64 (k : Int), .pointer (some ⟨g72, 0, none⟩), .int .i64 ((j : Int) + 1)] (.cons (show Rng .i64 ((j : Int) + 1) from Rng.i64 (by omega)) .nil) (by kernel_rfl) (fun b259 => ?_)
              refine thn_n ?_
              exact ⟨opn.length - (j + 1), (by omega), j + 1, (⟨c2.Client, c2.Op, c2.Put, c2.Key, c2.Value, c2.Status, c2.From, (-1), true, (⟨0, 0⟩ : GTag)⟩ : GCall), rfl, ⟨by omega, opv.two⟩, by kernel_rfl, hp258⟩
            · refine WP.skip ?_
              refine blk_n ?_
              refine thn_n ?_
              refine WP.pure {} [] [1, 4, 5, 6, 7, 8, 11, 12] [.pointer (some ⟨g3, 0, none⟩), .slice a n c, .slice ao no co, .pointer (some ⟨g9, 0, none⟩), .bool true, .int .i64 (k : Int), .pointer (some ⟨g72, 0, none⟩), .int .i64 ((j : Int) + 1)] (.cons (show Rng .i64 ((j : Int) + 1) from Rng.i64 (by omega)) .nil) (by kernel_rfl) (fun b260 => ?_)
              refine thn_n ?_
              exact ⟨opn.length - (j + 1), (by omega), j + 1, (⟨c2.Client, c2.Op, c2.Put, c2.Key, c2.Value, c2.Status, c2.From, (-1), true, c2.Tag⟩ : GCall), rfl, ⟨by omega, opv.one⟩, by kernel_rfl, hp250⟩
          · refine OPS.batch 0 {} [] [1, 4, 5, 6, 7, 8, 11, 12, 91] [.pointer (some ⟨g3, 0, none⟩), .slice a n c, .slice ao no co, .pointer (some ⟨g9, 0, none⟩), .bool true, .int .i64 (k : Int), .pointer (some ⟨g72, 0, none⟩), .int .i64 (j : Int), .bool (decide (((i232 : Nat) : Int) = (k : Int)))] .nil (by kernel_rfl) (fun b261 => ?_)
            refine OPS.re [.pointer (some ⟨g3, 0, none⟩), .slice a n c, .slice ao no co, .pointer (some ⟨g9, 0, none⟩), .bool true, .int .i64 (k : Int), .pointer (some ⟨g72, 0, none⟩), .int .i64 (j : Int), .bool false] (by rw [show (decide (((i232 : Nat) : Int) = (k : Int))) = false from Bp.dec.ff h236]) ?_
            refine OPS.batch 5 {} [.slice m.Open.a m.Open.n m.Open.c, .int .i64 (opn[j]!)] [1, 4, 5, 6, 7, 8, 11, 12, 91, 96] [.pointer (some ⟨g3, 0, none⟩), .slice a n c, .slice ao no co, .pointer (some ⟨g9, 0, none⟩), .bool true, .int .i64 (k : Int), .pointer (some ⟨g72, 0, none⟩), .int .i64 (j : Int), .bool false, .int .i64 (opn[j]!)] (.cons (Ld.row1 (P := Try.prog) (t := 24) (o := 3) (v := .slice m.Open.a m.Open.n m.Open.c) hp231.get4 (by kernel_rfl)) (.cons (show InB ((j : Int)) (m.Open.n) from ⟨by omega, by omega⟩) (.cons ((ho2.at hp231).some (by omega)) (.cons (Ld.add0 (Ld.el1 (P := Try.prog) (t := 3) (ho2.at hp231).rd 1 (fun _ => rfl) hy225 (o := 0) (v := .int .i64 (opn[j]!)) (by kernel_rfl))) .nil)))) (by kernel_rfl) (fun b262 => ?_)
            refine OPS.want (by kernel_rfl) ?_
            refine OPS.cons (opStep.call (some 97) [.int .i64 (opn[j]!), .int .i64 24] (by kernel_rfl) (l21_mod (opn[j]!) 24 _ (by omega) (by omega)) ?_)
            rintro _ w265 ⟨rfl, hf266⟩
            refine ⟨_, rfl, ?_⟩
            have hp267 := hp231.step hf266
            obtain ⟨i268, hm269⟩ : ∃ z : Nat, mdI (opn[j]!) 24 = (z : Int) := ⟨(mdI (opn[j]!) 24).toNat, by have := mdI_bd (opn[j]!) (n := 24) (by omega); omega⟩
            have hm270 : (i268 : Int) < 24 := by have := mdI_bd (opn[j]!) (n := 24) (by omega); omega
            rw [hm269]
            refine OPS.batch 4 { wraps := [101] } [] [1, 4, 5, 6, 7, 8, 11, 12, 101] [.pointer (some ⟨g3, 0, none⟩), .slice a n c, .slice ao no co, .pointer (some ⟨g9, 0, none⟩), .bool true, .int .i64 (k : Int), .pointer (some ⟨g72, 0, none⟩), .int .i64 (j : Int), .bool (decide (((i268 : Nat) : Int) = ((k : Int) + 12)))] (.cons (show Rng .i64 ((k : Int) + 12) from Rng.i64 (by omega)) .nil) (by kernel_rfl) (fun b271 => ?_)
            refine OPS.nil ?_
            refine thn_n ?_
            refine WP.test (p := ((i268 : Nat) : Int) = ((k : Int) + 12)) rfl Bp.dec (fun h272 => ?_) (fun h272 => ?_)
            · refine WP.seq ?_
              refine WP.region _ rfl (by kernel_rfl) ?_
              refine OPS.batch 1 {} [] [1, 4, 5, 6, 7, 8, 11, 12, 102] [.pointer (some ⟨g3, 0, none⟩), .slice a n c, .slice ao no co, .pointer (some ⟨g9, 0, none⟩), .bool true, .int .i64 (k : Int), .pointer (some ⟨g72, 0, none⟩), .int .i64 (j : Int), .pointer (some ⟨g72, 8, none⟩)] .nil (by kernel_rfl) (fun b273 => ?_)
              refine OPS.cons (opStep.store0 hp267 rfl [.bool true] [.int .i64 c2.Client, .int .i64 c2.Op, .bool c2.Put, .string c2.Key, .slice c2.Value.a c2.Value.n c2.Value.c, .int .i64 c2.Status, .int .i64 c2.From, .int .i64 c2.To, .bool true, .int .i64 c2.Tag.Count, .int .i64 c2.Tag.Client] (by kernel_rfl) (fun w274 hp275 => ?_))
              refine OPS.nil ?_
              refine thn_n ?_
              refine WP.seq ?_
              refine WP.region _ rfl (by kernel_rfl) ?_
              refine OPS.batch 1 {} [] [1, 4, 5, 6, 7, 8, 11, 12, 103] [.pointer (some ⟨g3, 0, none⟩), .slice a n c, .slice ao no co, .pointer (some ⟨g9, 0, none⟩), .bool true, .int .i64 (k : Int), .pointer (some ⟨g72, 0, none⟩), .int .i64 (j : Int), .pointer (some ⟨g72, 7, none⟩)] .nil (by kernel_rfl) (fun b276 => ?_)
              refine OPS.cons (opStep.store0 hp275 rfl [.int .i64 (-1)] [.int .i64 c2.Client, .int .i64 c2.Op, .bool c2.Put, .string c2.Key, .slice c2.Value.a c2.Value.n c2.Value.c, .int .i64 c2.Status, .int .i64 c2.From, .int .i64 (-1), .bool true, .int .i64 c2.Tag.Count, .int .i64 c2.Tag.Client] (by kernel_rfl) (fun w277 hp278 => ?_))
              refine OPS.nil ?_
              refine thn_n ?_
              refine WP.seq ?_
              refine WP.region _ rfl (by kernel_rfl) ?_
              refine OPS.batch 5 {} [.slice m.Open.a m.Open.n m.Open.c, .int .i64 (opn[j]!)] [1, 4, 5, 6, 7, 8, 11, 12, 108] [.pointer (some ⟨g3, 0, none⟩), .slice a n c, .slice ao no co, .pointer (some ⟨g9, 0, none⟩), .bool true, .int .i64 (k : Int), .pointer (some ⟨g72, 0, none⟩), .int .i64 (j : Int), .int .i64 (opn[j]!)] (.cons (Ld.row1 (P := Try.prog) (t := 24) (o := 3) (v := .slice m.Open.a m.Open.n m.Open.c) hp278.get4 (by kernel_rfl)) (.cons (show InB ((j : Int)) (m.Open.n) from ⟨by omega, by omega⟩) (.cons ((ho2.at hp278).some (by omega)) (.cons (Ld.add0 (Ld.el1 (P := Try.prog) (t := 3) (ho2.at hp278).rd 1 (fun _ => rfl) hy225 (o := 0) (v := .int .i64 (opn[j]!)) (by kernel_rfl))) .nil)))) (by kernel_rfl) (fun b279 => ?_)
              refine OPS.cons (opStep.call (some 109) [.int .i64 (opn[j]!), .int .i64 24] (by kernel_rfl) (l21_mod (opn[j]!) 24 _ (by omega) (by omega)) ?_)
              rintro _ w282 ⟨rfl, hf283⟩
              refine ⟨_, rfl, ?_⟩
              have hp284 := hp278.step hf283
              obtain ⟨i285, hm286⟩ : ∃ z : Nat, mdI (opn[j]!) 24 = (z : Int) := ⟨(mdI (opn[j]!) 24).toNat, by have := mdI_bd (opn[j]!) (n := 24) (by omega); omega⟩
              have hm287 : (i285 : Int) < 24 := by have := mdI_bd (opn[j]!) (n := 24) (by omega); omega
              rw [hm286]
              refine OPS.batch 3 {} [] [1, 4, 5, 6, 7, 8, 11, 12, 112] [.pointer (some ⟨g3, 0, none⟩), .slice a n c, .slice ao no co, .pointer (some ⟨g9, 0, none⟩), .bool true, .int .i64 (k : Int), .pointer (some ⟨g72, 0, none⟩), .int .i64 (j : Int), .bool (decide (((i285 : Nat) : Int) = ((k : Int) + 12)))] (.cons (show Rng .i64 ((k : Int) + 12) from Rng.i64 (by omega)) .nil) (by kernel_rfl) (fun b288 => ?_)
              refine OPS.nil ?_
              refine thn_n ?_
              refine WP.test (p := ((i285 : Nat) : Int) = ((k : Int) + 12)) rfl Bp.dec (fun h289 => ?_) (fun h289 => ?_)
              · refine WP.region _ rfl (by kernel_rfl) ?_
                refine OPS.batch 2 {} [] [1, 4, 5, 6, 7, 8, 11, 12, 113, 114] [.pointer (some ⟨g3, 0, none⟩), .slice a n c, .slice ao no co, .pointer (some ⟨g9, 0, none⟩), .bool true, .int .i64 (k : Int), .pointer (some ⟨g72, 0, none⟩), .int .i64 (j : Int), .agg #[.int .i64 0, .int .i64 0], .pointer (some ⟨g72, 9, none⟩)] .nil (by kernel_rfl) (fun b290 => ?_)
                refine OPS.cons (opStep.store0 hp284 rfl [.int .i64 0, .int .i64 0] [.int .i64 c2.Client, .int .i64 c2.Op, .bool c2.Put, .string c2.Key, .slice c2.Value.a c2.Value.n c2.Value.c, .int .i64 c2.Status, .int .i64 c2.From, .int .i64 (-1), .bool true, .int .i64 0, .int .i64 0] (by kernel_rfl) (fun w291 hp292 => ?_))
                refine OPS.nil ?_
                refine blk_n ?_
                refine thn_n ?_
                refine WP.pure {} [] [1, 4, 5, 6, 7, 8, 11, 12] [.pointer (some ⟨g3, 0, none⟩), .slice a n c, .slice ao no co, .pointer (some ⟨g9, 0, none⟩), .bool true, .int .i64 (k : Int), .pointer (some ⟨g72, 0, none⟩), .int .i64 ((j : Int) + 1)] (.cons (show Rng .i64 ((j : Int) + 1) from Rng.i64 (by omega)) .nil) (by kernel_rfl) (fun b293 => ?_)
                refine thn_n ?_
                exact ⟨opn.length - (j + 1), (by omega), j + 1, (⟨c2.Client, c2.Op, c2.Put, c2.Key, c2.Value, c2.Status, c2.From, (-1), true, (⟨0, 0⟩ : GTag)⟩ : GCall), rfl, ⟨by omega, opv.two⟩, by kernel_rfl, hp292⟩
              · refine WP.skip ?_
                refine blk_n ?_
                refine thn_n ?_
                refine WP.pure {} [] [1, 4, 5, 6, 7, 8, 11, 12] [.pointer (some ⟨g3, 0, none⟩), .slice a n c, .slice ao no co, .pointer (some ⟨g9, 0, none⟩), .bool true, .int .i64 (k : Int), .pointer (some ⟨g72, 0, none⟩), .int .i64 ((j : Int) + 1)] (.cons (show Rng .i64 ((j : Int) + 1) from Rng.i64 (by omega)) .nil) (by kernel_rfl) (fun b294 => ?_)
                refine thn_n ?_
                exact ⟨opn.length - (j + 1), (by omega), j + 1, (⟨c2.Client, c2.Op, c2.Put, c2.Key, c2.Value, c2.Status, c2.From, (-1), true, c2.Tag⟩ : GCall), rfl, ⟨by omega, opv.one⟩, by kernel_rfl, hp284⟩
            · refine WP.skip ?_
              refine blk_n ?_
              refine thn_n ?_
              refine WP.pure {} [] [1, 4, 5, 6, 7, 8, 11, 12] [.pointer (some ⟨g3, 0, none⟩), .slice a n c, .slice ao no co, .pointer (some ⟨g9, 0, none⟩), .bool true, .int .i64 (k : Int), .pointer (some ⟨g72, 0, none⟩), .int .i64 ((j : Int) + 1)] (.cons (show Rng .i64 ((j : Int) + 1) from Rng.i64 (by omega)) .nil) (by kernel_rfl) (fun b295 => ?_)
              refine thn_n ?_
              exact ⟨opn.length - (j + 1), (by omega), j + 1, c2, rfl, ⟨by omega, opv⟩, by kernel_rfl, hp267⟩
        · refine WP.exit ?_
          refine thn_x ?_
          refine thn_x ?_
          refine blk_hit ?_
          refine thn_n ?_
          refine WP.seq ?_
          refine WP.region _ rfl (by kernel_rfl) ?_
          refine OPS.batch 2 {} [GCall.val c2] [1, 5, 6, 7, 8, 123, 124] [.pointer (some ⟨g3, 0, none⟩), .slice ao no co, .pointer (some ⟨g9, 0, none⟩), .bool true, .int .i64 (k : Int), .slice a n c, GCall.val c2] (.cons (show Ld Try.prog w215 73 ⟨g72, 0, none⟩ (GCall.val c2) from Ld.rowN (cs := [.int .i64 c2.Client, .int .i64 c2.Op, .bool c2.Put, .string c2.Key, .slice c2.Value.a c2.Value.n c2.Value.c, .int .i64 c2.Status, .int .i64 c2.From, .int .i64 c2.To, .bool c2.Open, .int .i64 c2.Tag.Count, .int .i64 c2.Tag.Client]) hp216.get0 (by kernel_rfl)) .nil) (by kernel_rfl) (fun b296 => ?_)
          refine OPS.cons (opStep.buildSlice (E := 73) hp216 [.int .i64 c2.Client, .int .i64 c2.Op, .bool c2.Put, .string c2.Key, .slice c2.Value.a c2.Value.n c2.Value.c, .int .i64 c2.Status, .int .i64 c2.From, .int .i64 c2.To, .bool c2.Open, .int .i64 c2.Tag.Count, .int .i64 c2.Tag.Client] (by kernel_rfl) (fun g299 w297 hp298 => ?_))
          refine OPS.cons (opStep.append3 [.int .i64 c2.Client, .int .i64 c2.Op, .bool c2.Put, .string c2.Key, .slice c2.Value.a c2.Value.n c2.Value.c, .int .i64 c2.Status, .int .i64 c2.From, .int .i64 c2.To, .bool c2.Open, .int .i64 c2.Tag.Count, .int .i64 c2.Tag.Client] hp298 112 (by kernel_rfl) rfl rfl rfl (SlR.row (n := 1) hp298.get0 rfl).rd (List.all_eq_true.1 (by kernel_rfl)) (by decide) (by omega) (by omega) (fun a302 c303 w304 hp305 hn306 => ?_))
          rw [(show List.flatMap GCall.cells l ++ [.int .i64 c2.Client, .int .i64 c2.Op, .bool c2.Put, .string c2.Key, .slice c2.Value.a c2.Value.n c2.Value.c, .int .i64 c2.Status, .int .i64 c2.From, .int .i64 c2.To, .bool c2.Open, .int .i64 c2.Tag.Count, .int .i64 c2.Tag.Client] = List.flatMap GCall.cells (l ++ [c2]) from (List.flatMap_append (xs := l) (ys := [c2])).symm)] at hp305
          refine OPS.batch 1 {} [] [1, 4, 5, 6, 7, 8] [.pointer (some ⟨g3, 0, none⟩), .slice a302 (n + 1) c303, .slice ao no co, .pointer (some ⟨g9, 0, none⟩), .bool true, .int .i64 (k : Int)] .nil (by kernel_rfl) (fun b307 => ?_)
          refine OPS.nil ?_
          refine thn_n ?_
          refine WP.region _ rfl (by kernel_rfl) ?_
          refine OPS.batch 2 {} [] [1, 4, 6, 7, 8, 127, 128] [.pointer (some ⟨g3, 0, none⟩), .slice a302 (n + 1) c303, .pointer (some ⟨g9, 0, none⟩), .bool true, .int .i64 (k : Int), .slice ao no co, .int .i64 (k : Int)] .nil (by kernel_rfl) (fun b308 => ?_)
          refine OPS.cons (opStep.buildSlice (E := 3) hp305 [.int .i64 (k : Int)] (by kernel_rfl) (fun g311 w309 hp310 => ?_))
          refine OPS.cons (opStep.append3 [.int .i64 (k : Int)] hp310 8 (by kernel_rfl) rfl rfl rfl (SlR.row (n := 1) hp310.get0 rfl).rd (List.all_eq_true.1 (by kernel_rfl)) (by decide) (by omega) (by omega) (fun a314 c315 w316 hp317 hn318 => ?_))
          rw [(show List.flatMap (fun (y : Int) => [Go.Value.int .i64 y]) o ++ [.int .i64 (k : Int)] = List.flatMap (fun (y : Int) => [Go.Value.int .i64 y]) (o ++ [(k : Int)]) from (List.flatMap_append (xs := o) (ys := [(k : Int)])).symm)] at hp317
          refine OPS.batch 1 {} [] [1, 4, 5, 6, 7, 8] [.pointer (some ⟨g3, 0, none⟩), .slice a302 (n + 1) c303, .slice a314 (no + 1) c315, .pointer (some ⟨g9, 0, none⟩), .bool true, .int .i64 (k : Int)] .nil (by kernel_rfl) (fun b319 => ?_)
          refine OPS.nil ?_
          refine blk_n ?_
          refine thn_n ?_
          refine WP.pure {} [] [1, 4, 5, 6, 7, 8] [.pointer (some ⟨g3, 0, none⟩), .slice a302 (n + 1) c303, .slice a314 (no + 1) c315, .pointer (some ⟨g9, 0, none⟩), .bool true, .int .i64 ((k : Int) + 1)] (.cons (show Rng .i64 ((k : Int) + 1) from Rng.i64 (by omega)) .nil) (by kernel_rfl) (fun b320 => ?_)
          refine thn_n ?_
          exact ⟨12 - (k + 1), (by omega), k + 1, l ++ [c2], a302, n + 1, c303, o ++ [(k : Int)], a314, no + 1, c315, true, (⟨100 + (k : Int), 1, true, ⟨#[107]⟩, ⟨none, 0, 0⟩, 0, (((100 * (k : Int)) + 1000) - 1) - ((i57 : Nat) : Int), (((100 * (k : Int)) + 1000) + 1) + ((i66 : Nat) : Int), false, (⟨(k : Int) + 1, 100 + (k : Int)⟩ : GTag)⟩ : GCall), rfl, ⟨⟨by omega, by omega⟩, ph.put opv ⟨rfl, rfl, ⟨(by dsimp only; omega), (by dsimp only; omega)⟩, rfl, rfl, Bool.false_ne_true, (by dsimp only; omega), rfl⟩ (vOk_nil w0)⟩, by kernel_rfl, (hp317.sub (.cons _ (.cons _ (.cons _ (.cons_cons _ (.cons_cons _ (.cons_cons _ (.cons_cons _ (.slnil)))))))))⟩
    · refine WP.seq ?_
      refine WP.pure {} [] [1, 4, 5, 6, 7, 8, 11, 115] [.pointer (some ⟨g3, 0, none⟩), .slice a n c, .slice ao no co, .pointer (some ⟨g9, 0, none⟩), .bool sm, .int .i64 (k : Int), .pointer (some ⟨g72, 0, none⟩), .bool sm] .nil (by kernel_rfl) (fun b321 => ?_)
      refine thn_n ?_
      refine WP.test (p := sm = true) rfl Bp.var (fun h322 => ?_) (fun h322 => ?_)
      · refine WP.seq ?_
        refine WP.region _ rfl (by kernel_rfl) ?_
        refine OPS.batch 3 {} [.slice la.Value.a la.Value.n la.Value.c] [1, 4, 5, 6, 7, 8, 11, 117, 118] [.pointer (some ⟨g3, 0, none⟩), .slice a n c, .slice ao no co, .pointer (some ⟨g9, 0, none⟩), .bool sm, .int .i64 (k : Int), .pointer (some ⟨g72, 0, none⟩), .slice la.Value.a la.Value.n la.Value.c, .pointer (some ⟨g72, 4, none⟩)] (.cons (Ld.row1 (P := Try.prog) (t := 71) (o := 4) (v := .slice la.Value.a la.Value.n la.Value.c) hp74.get3 (by kernel_rfl)) .nil) (by kernel_rfl) (fun b323 => ?_)
        refine OPS.cons (opStep.store0 hp74 rfl [.slice la.Value.a la.Value.n la.Value.c] [.int .i64 (100 + (k : Int)), .int .i64 1, .bool false, .string ⟨#[107]⟩, .slice la.Value.a la.Value.n la.Value.c, .int .i64 0, .int .i64 ((((100 * (k : Int)) + 1000) - 1) - ((i57 : Nat) : Int)), .int .i64 ((((100 * (k : Int)) + 1000) + 1) + ((i66 : Nat) : Int)), .bool false, .int .i64 0, .int .i64 0] (by kernel_rfl) (fun w324 hp325 => ?_))
        refine OPS.nil ?_
        refine thn_n ?_
        refine WP.region _ rfl (by kernel_rfl) ?_
        refine OPS.batch 3 {} [.agg #[.int .i64 la.Tag.Count, .int .i64 la.Tag.Client]] [1, 4, 5, 6, 7, 8, 11, 120, 121] [.pointer (some ⟨g3, 0, none⟩), .slice a n c, .slice ao no co, .pointer (some ⟨g9, 0, none⟩), .bool sm, .int .i64 (k : Int), .pointer (some ⟨g72, 0, none⟩), .agg #[.int .i64 la.Tag.Count, .int .i64 la.Tag.Client], .pointer (some ⟨g72, 9, none⟩)] (.cons (show Ld Try.prog w324 70 ⟨g9, 9, none⟩ (.agg #[.int .i64 la.Tag.Count, .int .i64 la.Tag.Client]) from Ld.rowN (cs := [.int .i64 la.Tag.Count, .int .i64 la.Tag.Client]) hp325.get3 (by kernel_rfl)) .nil) (by kernel_rfl) (fun b326 => ?_)
        refine OPS.cons (opStep.store0 hp325 rfl [.int .i64 la.Tag.Count, .int .i64 la.Tag.Client] [.int .i64 (100 + (k : Int)), .int .i64 1, .bool false, .string ⟨#[107]⟩, .slice la.Value.a la.Value.n la.Value.c, .int .i64 0, .int .i64 ((((100 * (k : Int)) + 1000) - 1) - ((i57 : Nat) : Int)), .int .i64 ((((100 * (k : Int)) + 1000) + 1) + ((i66 : Nat) : Int)), .bool false, .int .i64 la.Tag.Count, .int .i64 la.Tag.Client] (by kernel_rfl) (fun w327 hp328 => ?_))
        refine OPS.nil ?_
        refine thn_n ?_
        refine WP.seq ?_
        refine WP.region _ rfl (by kernel_rfl) ?_
        refine OPS.batch 2 {} [.agg #[.int .i64 (100 + (k : Int)), .int .i64 1, .bool false, .string ⟨#[107]⟩, .slice la.Value.a la.Value.n la.Value.c, .int .i64 0, .int .i64 ((((100 * (k : Int)) + 1000) - 1) - ((i57 : Nat) : Int)), .int .i64 ((((100 * (k : Int)) + 1000) + 1) + ((i66 : Nat) : Int)), .bool false, .int .i64 la.Tag.Count, .int .i64 la.Tag.Client]] [1, 5, 6, 7, 8, 123, 124] [.pointer (some ⟨g3, 0, none⟩), .slice ao no co, .pointer (some ⟨g9, 0, none⟩), .bool sm, .int .i64 (k : Int), .slice a n c, .agg #[.int .i64 (100 + (k : Int)), .int .i64 1, .bool false, .string ⟨#[107]⟩, .slice la.Value.a la.Value.n la.Value.c, .int .i64 0, .int .i64 ((((100 * (k : Int)) + 1000) - 1) - ((i57 : Nat) : Int)), .int .i64 ((((100 * (k : Int)) + 1000) + 1) + ((i66 : Nat) : Int)), .bool false, .int .i64 la.Tag.Count, .int .i64 la.Tag.Client]] (.cons (show Ld Try.prog w327 73 ⟨g72, 0, none⟩ (.agg #[.int .i64 (100 + (k : Int)), .int .i64 1, .bool false, .string ⟨#[107]⟩, .slice la.Value.a la.Value.n la.Value.c, .int .i64 0, .int .i64 ((((100 * (k : Int)) + 1000) - 1) - ((i57 : Nat) : Int)), .int .i64 ((((100 * (k : Int)) + 1000) + 1) + ((i66 : Nat) : Int)), .bool false, .int .i64 la.Tag.Count, .int .i64 la.Tag.Client]) from Ld.rowN (cs := [.int .i64 (100 + (k : Int)), .int .i64 1, .bool false, .string ⟨#[107]⟩, .slice la.Value.a la.Value.n la.Value.c, .int .i64 0, .int .i64 ((((100 * (k : Int)) + 1000) - 1) - ((i57 : Nat) : Int)), .int .i64 ((((100 * (k : Int)) + 1000) + 1) + ((i66 : Nat) : Int)), .bool false, .int .i64 la.Tag.Count, .int .i64 la.Tag.Client]) hp328.get0 (by kernel_rfl)) .nil) (by kernel_rfl) (fun b329 => ?_)
        refine OPS.cons (opStep.buildSlice (E := 73) hp328 [.int .i64 (100 + (k : Int)), .int .i64 1, .bool false, .string ⟨#[107]⟩, .slice la.Value.a la.Value.n la.Value.c, .int .i64 0, .int .i64 ((((100 * (k : Int)) + 1000) - 1) - ((i57 : Nat) : Int)), .int .i64 ((((100 * (k : Int)) + 1000) + 1) + ((i66 : Nat) : Int)), .bool false, .int .i64 la.Tag.Count, .int .i64 la.Tag.Client] (by kernel_rfl) (fun g332 w330 hp331 => ?_))
        refine OPS.cons (opStep.append3 [.int .i64 (100 + (k : Int)), .int .i64 1, .bool false, .string ⟨#[107]⟩, .slice la.Value.a la.Value.n la.Value.c, .int .i64 0, .int .i64 ((((100 * (k : Int)) + 1000) - 1) - ((i57 : Nat) : Int)), .int .i64 ((((100 * (k : Int)) + 1000) + 1) + ((i66 : Nat) : Int)), .bool false, .int .i64 la.Tag.Count, .int .i64 la.Tag.Client] hp331 112 (by kernel_rfl) rfl rfl rfl (SlR.row (n := 1) hp331.get0 rfl).rd (List.all_eq_true.1 (by kernel_rfl)) (by decide) (by omega) (by omega) (fun a335 c336 w337 hp338 hn339 => ?_))
        rw [(show List.flatMap GCall.cells l ++ [.int .i64 (100 + (k : Int)), .int .i64 1, .bool false, .string ⟨#[107]⟩, .slice la.Value.a la.Value.n la.Value.c, .int .i64 0, .int .i64 ((((100 * (k : Int)) + 1000) - 1) - ((i57 : Nat) : Int)), .int .i64 ((((100 * (k : Int)) + 1000) + 1) + ((i66 : Nat) : Int)), .bool false, .int .i64 la.Tag.Count, .int .i64 la.Tag.Client] = List.flatMap GCall.cells (l ++ [(⟨100 + (k : Int), 1, false, ⟨#[107]⟩, la.Value, 0, (((100 * (k : Int)) + 1000) - 1) - ((i57 : Nat) : Int), (((100 * (k : Int)) + 1000) + 1) + ((i66 : Nat) : Int), false, la.Tag⟩ : GCall)]) from (List.flatMap_append (xs := l) (ys := [(⟨100 + (k : Int), 1, false, ⟨#[107]⟩, la.Value, 0, (((100 * (k : Int)) + 1000) - 1) - ((i57 : Nat) : Int), (((100 * (k : Int)) + 1000) + 1) + ((i66 : Nat) : Int), false, la.Tag⟩ : GCall)])).symm)] at hp338
        refine OPS.batch 1 {} [] [1, 4, 5, 6, 7, 8] [.pointer (some ⟨g3, 0, none⟩), .slice a335 (n + 1) c336, .slice ao no co, .pointer (some ⟨g9, 0, none⟩), .bool sm, .int .i64 (k : Int)] .nil (by kernel_rfl) (fun b340 => ?_)
        refine OPS.nil ?_
        refine thn_n ?_
        refine WP.region _ rfl (by kernel_rfl) ?_
        refine OPS.batch 2 {} [] [1, 4, 6, 7, 8, 127, 128] [.pointer (some ⟨g3, 0, none⟩), .slice a335 (n + 1) c336, .pointer (some ⟨g9, 0, none⟩), .bool sm, .int .i64 (k : Int), .slice ao no co, .int .i64 (k : Int)] .nil (by kernel_rfl) (fun b341 => ?_)
        refine OPS.cons (opStep.buildSlice (E := 3) hp338 [.int .i64 (k : Int)] (by kernel_rfl) (fun g344 w342 hp343 => ?_))
        refine OPS.cons (opStep.append3 [.int .i64 (k : Int)] hp343 8 (by kernel_rfl) rfl rfl rfl (SlR.row (n := 1) hp343.get0 rfl).rd (List.all_eq_true.1 (by kernel_rfl)) (by decide) (by omega) (by omega) (fun a347 c348 w349 hp350 hn351 => ?_))
        rw [(show List.flatMap (fun (y : Int) => [Go.Value.int .i64 y]) o ++ [.int .i64 (k : Int)] = List.flatMap (fun (y : Int) => [Go.Value.int .i64 y]) (o ++ [(k : Int)]) from (List.flatMap_append (xs := o) (ys := [(k : Int)])).symm)] at hp350
        refine OPS.batch 1 {} [] [1, 4, 5, 6, 7, 8] [.pointer (some ⟨g3, 0, none⟩), .slice a335 (n + 1) c336, .slice a347 (no + 1) c348, .pointer (some ⟨g9, 0, none⟩), .bool sm, .int .i64 (k : Int)] .nil (by kernel_rfl) (fun b352 => ?_)
        refine OPS.nil ?_
        refine blk_n ?_
        refine thn_n ?_
        refine WP.pure {} [] [1, 4, 5, 6, 7, 8] [.pointer (some ⟨g3, 0, none⟩), .slice a335 (n + 1) c336, .slice a347 (no + 1) c348, .pointer (some ⟨g9, 0, none⟩), .bool sm, .int .i64 ((k : Int) + 1)] (.cons (show Rng .i64 ((k : Int) + 1) from Rng.i64 (by omega)) .nil) (by kernel_rfl) (fun b353 => ?_)
        refine thn_n ?_
        exact ⟨12 - (k + 1), (by omega), k + 1, l ++ [(⟨100 + (k : Int), 1, false, ⟨#[107]⟩, la.Value, 0, (((100 * (k : Int)) + 1000) - 1) - ((i57 : Nat) : Int), (((100 * (k : Int)) + 1000) + 1) + ((i66 : Nat) : Int), false, la.Tag⟩ : GCall)], a335, n + 1, c336, o ++ [(k : Int)], a347, no + 1, c348, sm, la, rfl, ⟨⟨by omega, by omega⟩, ph.get ⟨rfl, rfl, ⟨(by dsimp only; omega), (by dsimp only; omega)⟩, Bool.false_ne_true, Bool.false_ne_true, (by dsimp only; omega)⟩ (.inl ⟨h322, rfl, rfl, rfl⟩)⟩, by kernel_rfl, (hp350.sub (.cons _ (.cons _ (.cons _ (.cons_cons _ (.cons_cons _ (.cons_cons _ (.cons_cons _ (.slnil)))))))))⟩
      · refine WP.region _ rfl (by kernel_rfl) ?_
        refine OPS.batch 1 {} [] [1, 4, 5, 6, 7, 8, 11, 122] [.pointer (some ⟨g3, 0, none⟩), .slice a n c, .slice ao no co, .pointer (some ⟨g9, 0, none⟩), .bool sm, .int .i64 (k : Int), .pointer (some ⟨g72, 0, none⟩), .pointer (some ⟨g72, 5, none⟩)] .nil (by kernel_rfl) (fun b354 => ?_)
        refine OPS.cons (opStep.store0 hp74 rfl [.int .i64 76] [.int .i64 (100 + (k : Int)), .int .i64 1, .bool false, .string ⟨#[107]⟩, .slice none 0 0, .int .i64 76, .int .i64 ((((100 * (k : Int)) + 1000) - 1) - ((i57 : Nat) : Int)), .int .i64 ((((100 * (k : Int)) + 1000) + 1) + ((i66 : Nat) : Int)), .bool false, .int .i64 0, .int .i64 0] (by kernel_rfl) (fun w355 hp356 => ?_))
        refine OPS.nil ?_
        refine thn_n ?_
        refine WP.seq ?_
        refine WP.region _ rfl (by kernel_rfl) ?_
        refine OPS.batch 2 {} [.agg #[.int .i64 (100 + (k : Int)), .int .i64 1, .bool false, .string ⟨#[107]⟩, .slice none 0 0, .int .i64 76, .int .i64 ((((100 * (k : Int)) + 1000) - 1) - ((i57 : Nat) : Int)), .int .i64 ((((100 * (k : Int)) + 1000) + 1) + ((i66 : Nat) : Int)), .bool false, .int .i64 0, .int .i64 0]] [1, 5, 6, 7, 8, 123, 124] [.pointer (some ⟨g3, 0, none⟩), .slice ao no co, .pointer (some ⟨g9, 0, none⟩), .bool sm, .int .i64 (k : Int), .slice a n c, .agg #[.int .i64 (100 + (k : Int)), .int .i64 1, .bool false, .string ⟨#[107]⟩, .slice none 0 0, .int .i64 76, .int .i64 ((((100 * (k : Int)) + 1000) - 1) - ((i57 : Nat) : Int)), .int .i64 ((((100 * (k : Int)) + 1000) + 1) + ((i66 : Nat) : Int)), .bool false, .int .i64 0, .int .i64 0]] (.cons (show Ld Try.prog w355 73 ⟨g72, 0, none⟩ (.agg #[.int .i64 (100 + (k : Int)), .int .i64 1, .bool false, .string ⟨#[107]⟩, .slice none 0 0, .int .i64 76, .int .i64 ((((100 * (k : Int)) + 1000) - 1) - ((i57 : Nat) : Int)), .int .i64 ((((100 * (k : Int)) + 1000) + 1) + ((i66 : Nat) : Int)), .bool false, .int .i64 0, .int .i64 0]) from Ld.rowN (cs := [.int .i64 (100 + (k : Int)), .int .i64 1, .bool false, .string ⟨#[107]⟩, .slice none 0 0, .int .i64 76, .int .i64 ((((100 * (k : Int)) + 1000) - 1) - ((i57 : Nat) : Int)), .int .i64 ((((100 * (k : Int)) + 1000) + 1) + ((i66 : Nat) : Int)), .bool false, .int .i64 0, .int .i64 0]) hp356.get0 (by kernel_rfl)) .nil) (by kernel_rfl) (fun b357 => ?_)
        refine OPS.cons (opStep.buildSlice (E := 73) hp356 [.int .i64 (100 + (k : Int)), .int .i64 1, .bool false, .string ⟨#[107]⟩, .slice none 0 0, .int .i64 76, .int .i64 ((((100 * (k : Int)) + 1000) - 1) - ((i57 : Nat) : Int)), .int .i64 ((((100 * (k : Int)) + 1000) + 1) + ((i66 : Nat) : Int)), .bool false, .int .i64 0, .int .i64 0] (by kernel_rfl) (fun g360 w358 hp359 => ?_))
        refine OPS.cons (opStep.append3 [.int .i64 (100 + (k : Int)), .int .i64 1, .bool false, .string ⟨#[107]⟩, .slice none 0 0, .int .i64 76, .int .i64 ((((100 * (k : Int)) + 1000) - 1) - ((i57 : Nat) : Int)), .int .i64 ((((100 * (k : Int)) + 1000) + 1) + ((i66 : Nat) : Int)), .bool false, .int .i64 0, .int .i64 0] hp359 112 (by kernel_rfl) rfl rfl rfl (SlR.row (n := 1) hp359.get0 rfl).rd (List.all_eq_true.1 (by kernel_rfl)) (by decide) (by omega) (by omega) (fun a363 c364 w365 hp366 hn367 => ?_))
        rw [(show List.flatMap GCall.cells l ++ [.int .i64 (100 + (k : Int)), .int .i64 1, .bool false, .string ⟨#[107]⟩, .slice none 0 0, .int .i64 76, .int .i64 ((((100 * (k : Int)) + 1000) - 1) - ((i57 : Nat) : Int)), .int .i64 ((((100 * (k : Int)) + 1000) + 1) + ((i66 : Nat) : Int)), .bool false, .int .i64 0, .int .i64 0] = List.flatMap GCall.cells (l ++ [(⟨100 + (k : Int), 1, false, ⟨#[107]⟩, ⟨none, 0, 0⟩, 76, (((100 * (k : Int)) + 1000) - 1) - ((i57 : Nat) : Int), (((100 * (k : Int)) + 1000) + 1) + ((i66 : Nat) : Int), false, (⟨0, 0⟩ : GTag)⟩ : GCall)]) from (List.flatMap_append (xs := l) (ys := [(⟨100 + (k : Int), 1, false, ⟨#[107]⟩, ⟨none, 0, 0⟩, 76, (((100 * (k : Int)) + 1000) - 1) - ((i57 : Nat) : Int), (((100 * (k : Int)) + 1000) + 1) + ((i66 : Nat) : Int), false, (⟨0, 0⟩ : GTag)⟩ : GCall)])).symm)] at hp366
        refine OPS.batch 1 {} [] [1, 4, 5, 6, 7, 8] [.pointer (some ⟨g3, 0, none⟩), .slice a363 (n + 1) c364, .slice ao no co, .pointer (some ⟨g9, 0, none⟩), .bool sm, .int .i64 (k : Int)] .nil (by kernel_rfl) (fun b368 => ?_)
        refine OPS.nil ?_
        refine thn_n ?_
        refine WP.region _ rfl (by kernel_rfl) ?_
        refine OPS.batch 2 {} [] [1, 4, 6, 7, 8, 127, 128] [.pointer (some ⟨g3, 0, none⟩), .slice a363 (n + 1) c364, .pointer (some ⟨g9, 0, none⟩), .bool sm, .int .i64 (k : Int), .slice ao no co, .int .i64 (k : Int)] .nil (by kernel_rfl) (fun b369 => ?_)
        refine OPS.cons (opStep.buildSlice (E := 3) hp366 [.int .i64 (k : Int)] (by kernel_rfl) (fun g372 w370 hp371 => ?_))
        refine OPS.cons (opStep.append3 [.int .i64 (k : Int)] hp371 8 (by kernel_rfl) rfl rfl rfl (SlR.row (n := 1) hp371.get0 rfl).rd (List.all_eq_true.1 (by kernel_rfl)) (by decide) (by omega) (by omega) (fun a375 c376 w377 hp378 hn379 => ?_))
        rw [(show List.flatMap (fun (y : Int) => [Go.Value.int .i64 y]) o ++ [.int .i64 (k : Int)] = List.flatMap (fun (y : Int) => [Go.Value.int .i64 y]) (o ++ [(k : Int)]) from (List.flatMap_append (xs := o) (ys := [(k : Int)])).symm)] at hp378
        refine OPS.batch 1 {} [] [1, 4, 5, 6, 7, 8] [.pointer (some ⟨g3, 0, none⟩), .slice a363 (n + 1) c364, .slice a375 (no + 1) c376, .pointer (some ⟨g9, 0, none⟩), .bool sm, .int .i64 (k : Int)] .nil (by kernel_rfl) (fun b380 => ?_)
        refine OPS.nil ?_
        refine blk_n ?_
        refine thn_n ?_
        refine WP.pure {} [] [1, 4, 5, 6, 7, 8] [.pointer (some ⟨g3, 0, none⟩), .slice a363 (n + 1) c364, .slice a375 (no + 1) c376, .pointer (some ⟨g9, 0, none⟩), .bool sm, .int .i64 ((k : Int) + 1)] (.cons (show Rng .i64 ((k : Int) + 1) from Rng.i64 (by omega)) .nil) (by kernel_rfl) (fun b381 => ?_)
        refine thn_n ?_
        exact ⟨12 - (k + 1), (by omega), k + 1, l ++ [(⟨100 + (k : Int), 1, false, ⟨#[107]⟩, ⟨none, 0, 0⟩, 76, (((100 * (k : Int)) + 1000) - 1) - ((i57 : Nat) : Int), (((100 * (k : Int)) + 1000) + 1) + ((i66 : Nat) : Int), false, (⟨0, 0⟩ : GTag)⟩ : GCall)], a363, n + 1, c364, o ++ [(k : Int)], a375, no + 1, c376, sm, la, rfl, ⟨⟨by omega, by omega⟩, ph.get ⟨rfl, rfl, ⟨(by dsimp only; omega), (by dsimp only; omega)⟩, Bool.false_ne_true, Bool.false_ne_true, (by dsimp only; omega)⟩ (.inr ⟨h322, rfl, rfl, rfl⟩)⟩, by kernel_rfl, (hp378.sub (.cons _ (.cons _ (.cons _ (.cons_cons _ (.cons_cons _ (.cons_cons _ (.cons_cons _ (.slnil)))))))))⟩
  · refine WP.exit ?_
    refine thn_x ?_
    refine thn_x ?_
    refine blk_hit ?_
    refine thn_n ?_
    refine WP.seq ?_
    refine WP.pure {} [] [2, 3] [.slice a n c, .slice ao no co] .nil (by kernel_rfl) (fun b382 => ?_)
    refine thn_n ?_
    refine WP.ret ?_
    refine bodyQ.of _ rfl [.slice a n c, .slice ao no co] ⟨rfl, rfl, trivial⟩ ?_
    obtain rfl : n = l.length := by omega
    obtain rfl : no = l.length := by omega
    obtain rfl : o = idsI l.length := by rw [ph.ids, pl]
    exact ⟨_, _, _, _, l, rfl, ⟨ph.his, by omega, ph.vals⟩, (((hp31.pull0).pull1).sub (.cons_cons _ (.cons_cons _ (.cons _ (.cons _ (.slnil))))))⟩

end Go.Proofs.Ytdahgdkadfdkeaa.K
