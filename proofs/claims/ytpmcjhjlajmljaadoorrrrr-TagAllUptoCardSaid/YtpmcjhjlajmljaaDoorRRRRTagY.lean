/- The walks of TagY: what each function computes. -/
import Derived.Test.YtpmcjhjlajmljaaDoorRRRRProg
import Derived.Test.YtpmcjhjlajmljaaDoorRRRRCoreO
import Derived.Test.YtpmcjhjlajmljaaDoorRRRRTagX
import Derived.Test.YtpmcjhjlajmljaaDoorRRRRTagU
import Derived.Test.YtpmcjhjlajmljaaDoorRRRRTagQ
namespace Go.Proofs.YtpmcjhjlajmljaaDoorRRRR.K
open Go Go.Proofs Go.RowKit
set_option linter.unusedVariables false
set_option linter.unusedSimpArgs false
set_option maxRecDepth 20000
set_option maxHeartbeats 4000000

theorem r8_digits (n : Int) (h0 : 0 ≤ n) (h1 : n ≤ 9223372036854775807) (w : World) :
    Calls Tryd.prog 43 #[.int .i64 n] w (fun r_ w' => r_ = .returned (.string (decS n)) ∧ Fram Non w w') := by
  refine calls_of Tryd.func43 rfl 21 rfl (by simp) ?_
  have hp0 := Hp.init w
  have he0 : List.map (env0 [.int .i64 n]) [0] = [.int .i64 n] := by kernel_rfl
  obtain ⟨b0, he0⟩ := toMk he0
  rw [he0]
  clear he0
  refine WP.seq ?_
  refine WP.pure {} [] [0] [.int .i64 n] .nil (by kernel_rfl) (fun b1 => ?_)
  refine thn_n ?_
  refine WP.seq ?_
  refine WP.pure {} [] [0, 3] [.int .i64 n, .string ⟨#[]⟩] .nil (by kernel_rfl) (fun b2 => ?_)
  refine thn_n ?_
  refine WP.seq ?_
  refine WP.block ?_
  refine WP.loop (fun mz_ e3 w4 => ∃ (m : Int) (s : ByteArray), mz_ = m.toNat + (if s = (⟨#[]⟩ : ByteArray) then 1 else 0) ∧ (0 ≤ m ∧ m ≤ 9223372036854775807 ∧ digI n m s) ∧ List.map e3 [0, 3] = [.int .i64 m, .string s] ∧ Hp w Non [] w4) ((n).toNat + (if ((⟨#[]⟩ : ByteArray)) = (⟨#[]⟩ : ByteArray) then 1 else 0)) ⟨n, (⟨#[]⟩ : ByteArray), rfl, ⟨h0, h1, .inl ⟨rfl, rfl⟩⟩, by kernel_rfl, hp0⟩ ?_
  rintro _ e3 w4 ⟨m, s, rfl, hI6, hE7, hp5⟩
  obtain ⟨b8, rfl⟩ := toMk hE7
  clear hE7
  obtain ⟨pa, pb, pc⟩ := hI6
  have hsz := dig_size h0 h1 pc
  have tm1 := Int.tmod_nonneg (a := m) 10 pa
  have tm2 := Int.tmod_lt_of_pos m (show (0 : Int) < 10 by omega)
  have td : m.tdiv 10 = m / 10 := Int.tdiv_eq_ediv_of_nonneg pa
  have hso : (strOf [48 + (m.tmod 10)]).size = 1 := rfl
  refine WP.seq ?_
  refine WP.cut (fun e18 w19 => ∃ (x16 : Bool), (True) ∧ Bp x16 (((0 < m)) ∨ ((¬ (0 < m)) ∧ (s = ⟨#[]⟩))) ∧ List.map e18 [0, 3, 9] = [.int .i64 m, .string s, .bool x16] ∧ Hp w Non [] w19) ?_ ?_
  · refine WP.region _ rfl (by kernel_rfl) ?_
    refine OPS.batch 3 {} [] [0, 3, 6] [.int .i64 m, .string s, .bool (decide (0 < m))] .nil (by kernel_rfl) (fun b10 => ?_)
    by_cases h11 : 0 < m
    · refine OPS.batch 0 {} [] [0, 3, 6] [.int .i64 m, .string s, .bool (decide (0 < m))] .nil (by kernel_rfl) (fun b12 => ?_)
      refine OPS.re [.int .i64 m, .string s, .bool true] (by rw [show (decide (0 < m)) = true from Bp.dec.tt h11]) ?_
      refine OPS.batch 3 { wraps := [9] } [] [0, 3, 9] [.int .i64 m, .string s, .bool true] .nil (by kernel_rfl) (fun b13 => ?_)
      refine OPS.nil ?_
      refine thn_n ?_
      exact ⟨true, trivial, Bp.of Bp.t (by first | (simp only [h11, iff_false, false_iff, iff_true, true_iff, Classical.not_not, and_true, true_and, and_false, false_and, or_true, true_or, or_false, false_or, not_true_eq_false, not_false_eq_true, and_self, or_self, iff_self]; done) | (simp [h11]; done) | simp_all), by kernel_rfl, hp5⟩
    · refine OPS.batch 0 {} [] [0, 3, 6] [.int .i64 m, .string s, .bool (decide (0 < m))] .nil (by kernel_rfl) (fun b14 => ?_)
      refine OPS.re [.int .i64 m, .string s, .bool false] (by rw [show (decide (0 < m)) = false from Bp.dec.ff h11]) ?_
      refine OPS.batch 3 { wraps := [9] } [] [0, 3, 9] [.int .i64 m, .string s, .bool (decide (s = ⟨#[]⟩))] .nil (by kernel_rfl) (fun b15 => ?_)
      refine OPS.nil ?_
      refine thn_n ?_
      exact ⟨decide (s = ⟨#[]⟩), trivial, Bp.of Bp.dec (by first | (simp only [h11, iff_false, false_iff, iff_true, true_iff, Classical.not_not, and_true, true_and, and_false, false_and, or_true, true_or, or_false, false_or, not_true_eq_false, not_false_eq_true, and_self, or_self, iff_self]; done) | (simp [h11]; done) | simp_all), by kernel_rfl, hp5⟩
  rintro e18 w19 ⟨x16, hd21, hb17, hE22, hp20⟩
  obtain ⟨b23, rfl⟩ := toMk hE22
  clear hE22
  clear hd21
  refine WP.test (p := ((0 < m)) ∨ ((¬ (0 < m)) ∧ (s = ⟨#[]⟩))) rfl hb17 (fun h24 => ?_) (fun h24 => ?_)
  · refine WP.skip ?_
    refine thn_n ?_
    refine WP.block ?_
    refine WP.seq ?_
    refine WP.region _ rfl (by kernel_rfl) ?_
    refine OPS.batch 4 {} [] [0, 3, 13] [.int .i64 m, .string s, .int .u8 (48 + (m.tmod 10))] (.cons (show (10 : Int) ≠ 0 from by omega) (.cons (show Rng .i64 (48 + (m.tmod 10)) from Rng.i64 (by omega)) (.cons (show Rng .u8 (48 + (m.tmod 10)) from Rng.u8 (by omega)) .nil))) (by kernel_rfl) (fun b25 => ?_)
    refine OPS.cons (opStep.buildSlice (E := 5) hp20 [.int .u8 (48 + (m.tmod 10))] (by kernel_rfl) (fun g28 w26 hp27 => ?_))
    refine OPS.batch 4 {} [.string (strOf [48 + (m.tmod 10)])] [0, 3] [.int .i64 m, .string ((strOf [48 + (m.tmod 10)]) ++ s)] (.cons (show Bs Tryd.prog w26 (.slice (some ⟨g28, 0, none⟩) 1 1) (.string (strOf [48 + (m.tmod 10)])) from Bs.of (show SlR w26 (some ⟨g28, 0, none⟩) 1 (List.flatMap u8c [48 + (m.tmod 10)]) from SlR.row (n := 1) hp27.get0 rfl) rfl) (.cons (show (strOf [48 + (m.tmod 10)]).size + s.size ≤ 9223372036854775807 from by omega) .nil)) (by kernel_rfl) (fun b29 => ?_)
    refine OPS.nil ?_
    refine thn_n ?_
    refine WP.pure {} [] [0, 3] [.int .i64 (m.tdiv 10), .string ((strOf [48 + (m.tmod 10)]) ++ s)] (.cons (show (10 : Int) ≠ 0 from by omega) (.cons (show Rng .i64 (m.tdiv 10) from Rng.i64 (by omega)) .nil)) (by kernel_rfl) (fun b30 => ?_)
    refine blk_n ?_
    refine thn_n ?_
    exact ⟨(m.tdiv 10).toNat + (if ((strOf [48 + (m.tmod 10)]) ++ s) = (⟨#[]⟩ : ByteArray) then 1 else 0), (dig_dec pa (by assumption) (by rw [str_one]; simp)), m.tdiv 10, (strOf [48 + (m.tmod 10)]) ++ s, rfl, ⟨by omega, by omega, dig_step pa h24 pc⟩, by kernel_rfl, (hp27.sub (.cons _ (.slnil)))⟩
  · refine WP.exit ?_
    refine thn_x ?_
    refine thn_x ?_
    refine blk_hit ?_
    refine thn_n ?_
    refine WP.seq ?_
    refine WP.pure {} [] [2] [.string s] .nil (by kernel_rfl) (fun b31 => ?_)
    refine thn_n ?_
    refine WP.ret ?_
    refine bodyQ.of _ rfl [.string s] ⟨rfl, trivial⟩ ?_
    exact ⟨by simp only [pack]; rw [← dig_end pa h24 pc], hp20.fr⟩

theorem r8_Text (t : GTag) (w : World) :
    Calls Tryd.prog 22 #[GTag.val t] w (fun r_ w' => r_ = .returned (.string (textT t)) ∧ Fram Non w w') := by
  refine calls_of Tryd.func22 rfl 14 rfl (by simp) ?_
  have hp0 := Hp.init w
  have he0 : List.map (env0 [GTag.val t]) [0] = [GTag.val t] := by kernel_rfl
  obtain ⟨b0, he0⟩ := toMk he0
  rw [he0]
  clear he0
  refine WP.seq ?_
  refine WP.region _ rfl (by kernel_rfl) ?_
  refine OPS.cons (opStep.box hp0 [.int .i64 t.Count, .int .i64 t.Client] (by kernel_rfl) (fun g3 w1 hp2 => ?_))
  refine OPS.batch 1 {} [] [1] [.pointer (some ⟨g3, 0, none⟩)] .nil (by kernel_rfl) (fun b4 => ?_)
  refine OPS.nil ?_
  refine thn_n ?_
  refine WP.seq ?_
  refine WP.seq ?_
  refine WP.region _ rfl (by kernel_rfl) ?_
  refine OPS.batch 1 {} [GTag.val t] [1, 3] [.pointer (some ⟨g3, 0, none⟩), GTag.val t] (.cons (show Ld Tryd.prog w1 23 ⟨g3, 0, none⟩ (GTag.val t) from Ld.rowN (cs := [.int .i64 t.Count, .int .i64 t.Client]) hp2.get0 (by kernel_rfl)) .nil) (by kernel_rfl) (fun b5 => ?_)
  refine OPS.cons (opStep.call (some 4) [GTag.val t] (by kernel_rfl) (r8_Valid t _) ?_)
  rintro _ w8 ⟨b11, rfl, hb12, hf9⟩
  refine ⟨_, rfl, ?_⟩
  have hp10 := hp2.step hf9
  refine OPS.batch 1 {} [] [1, 5] [.pointer (some ⟨g3, 0, none⟩), .bool (!b11)] .nil (by kernel_rfl) (fun b13 => ?_)
  refine OPS.nil ?_
  refine thn_n ?_
  refine WP.test (p := ¬ (tagValid t)) rfl (Bp.not hb12) (fun h14 => ?_) (fun h14 => ?_)
  · refine WP.seq ?_
    refine WP.pure {} [] [2] [.string ⟨#[]⟩] .nil (by kernel_rfl) (fun b15 => ?_)
    refine thn_n ?_
    refine WP.ret ?_
    refine thn_r ?_
    refine bodyQ.of _ rfl [.string ⟨#[]⟩] ⟨rfl, trivial⟩ ?_
    exact ⟨by simp only [pack]; rw [text_no h14], hp10.fr⟩
  · replace h14 := Classical.not_not.1 h14
    refine WP.skip ?_
    refine thn_n ?_
    refine WP.seq ?_
    obtain ⟨v1, v2, v3, v4⟩ := valid_nn h14
    have z1 : (decS t.Count).size ≤ 21 := by rw [← itoa_dec v1]; exact itoaT_size (by omega) (by omega)
    have z2 : (decS t.Client).size ≤ 21 := by rw [← itoa_dec v3]; exact itoaT_size (by omega) (by omega)
    have z3 : (⟨#[46]⟩ : ByteArray).size = 1 := rfl
    have z4 : (decS t.Count ++ ⟨#[46]⟩).size = (decS t.Count).size + 1 := by rw [ByteArray.size_append]; rfl
    have hp18 := hp10.drew
    refine WP.quiet (fun w16 => Hp w Non [Res.row g3 [.int .i64 t.Count, .int .i64 t.Client] 23] w16) (by kernel_rfl) hp18 ?_
    have hnehp18 : ∃ wz_, (fun w16 => Hp w Non [Res.row g3 [.int .i64 t.Count, .int .i64 t.Client] 23] w16) wz_ := ⟨_, hp18⟩
    refine QOPS.batch 2 {} [.int .i64 t.Count] [1, 7] [.pointer (some ⟨g3, 0, none⟩), .int .i64 t.Count] hnehp18 (fun w19 hp20 => QB.mk (.cons (Ld.row1 (P := Tryd.prog) (t := 2) (o := 0) (v := .int .i64 t.Count) hp20.get0 (by kernel_rfl)) .nil) (by kernel_rfl)) (fun b21 => ?_)
    refine QOPS.call (some 8) [.int .i64 t.Count] (by kernel_rfl) (fun w22 hp23 => (r8_digits t.Count (by omega) (by omega) _).mono fun _ _ h => ⟨h.1, hp23.step h.2⟩) ?_
    refine QOPS.batch 3 {} [.int .i64 t.Client] [9, 11] [.string ((decS t.Count) ++ ⟨#[46]⟩), .int .i64 t.Client] hnehp18 (fun w24 hp25 => QB.mk (.cons (show (decS t.Count).size + (⟨#[46]⟩ : ByteArray).size ≤ 9223372036854775807 from by omega) (.cons (Ld.row1 (P := Tryd.prog) (t := 3) (o := 1) (v := .int .i64 t.Client) hp25.get0 (by kernel_rfl)) .nil)) (by kernel_rfl)) (fun b26 => ?_)
    refine QOPS.call (some 12) [.int .i64 t.Client] (by kernel_rfl) (fun w27 hp28 => (r8_digits t.Client (by omega) (by omega) _).mono fun _ _ h => ⟨h.1, hp28.step h.2⟩) ?_
    refine QOPS.batch 2 {} [] [2] [.string (((decS t.Count) ++ ⟨#[46]⟩) ++ (decS t.Client))] hnehp18 (fun w29 hp30 => QB.mk (.cons (show ((decS t.Count) ++ ⟨#[46]⟩).size + (decS t.Client).size ≤ 9223372036854775807 from by omega) .nil) (by kernel_rfl)) (fun b31 => ?_)
    refine QOPS.nil (fun w32 hp33 => ?_)
    refine thn_n ?_
    refine WP.ret ?_
    refine bodyQ.of _ rfl [.string (((decS t.Count) ++ ⟨#[46]⟩) ++ (decS t.Client))] ⟨rfl, trivial⟩ ?_
    exact ⟨by simp only [pack]; unfold textT; rw [if_pos h14, itoa_dec (by have := valid_nn h14; omega), itoa_dec (by have := valid_nn h14; omega)], hp33.fr⟩

theorem byte_rng (s : ByteArray) (k : Nat) : 0 ≤ byteAt s k ∧ byteAt s k ≤ 255 := by
  unfold byteAt
  have := ((s.data.toList[((k : Nat) : Int).toNat]?).getD 0).toNat_lt
  omega
theorem r8_Parse (s : ByteArray) (hs : s.size ≤ 4294967280) (w : World) :
    Calls Tryd.prog 23 #[.string s] w (fun r_ w' => r_ = .returned (.tuple #[GTag.val (parseT s).1, .int .i64 (parseT s).2]) ∧ Fram Non w w') := by
  refine calls_of Tryd.func23 rfl 63 rfl (by simp) ?_
  have hp0 := Hp.init w
  have he0 : List.map (env0 [.string s]) [0] = [.string s] := by kernel_rfl
  obtain ⟨b0, he0⟩ := toMk he0
  rw [he0]
  clear he0
  refine WP.seq ?_
  refine WP.region _ rfl (by kernel_rfl) ?_
  refine OPS.cons (opStep.alloc hp0 [.int .i64 0, .int .i64 0] (by kernel_rfl) (fun g3 w1 hp2 => ?_))
  refine OPS.batch 1 {} [] [0, 2] [.string s, .pointer (some ⟨g3, 0, none⟩)] .nil (by kernel_rfl) (fun b4 => ?_)
  refine OPS.nil ?_
  refine thn_n ?_
  refine WP.seq ?_
  refine WP.seq ?_
  refine WP.pure {} [] [0, 2, 10] [.string s, .pointer (some ⟨g3, 0, none⟩), .bool (decide (40 < (s.size : Int)))] .nil (by kernel_rfl) (fun b5 => ?_)
  refine thn_n ?_
  refine WP.test (p := 40 < (s.size : Int)) rfl Bp.dec (fun h6 => ?_) (fun h6 => ?_)
  · refine WP.seq ?_
    refine WP.region _ rfl (by kernel_rfl) ?_
    refine OPS.batch 1 {} [] [2, 11] [.pointer (some ⟨g3, 0, none⟩), .agg #[.int .i64 0, .int .i64 0]] .nil (by kernel_rfl) (fun b7 => ?_)
    refine OPS.cons (opStep.store0 hp2 rfl [.int .i64 0, .int .i64 0] [.int .i64 0, .int .i64 0] (by kernel_rfl) (fun w8 hp9 => ?_))
    refine OPS.batch 1 {} [] [2, 3] [.pointer (some ⟨g3, 0, none⟩), .int .i64 31] .nil (by kernel_rfl) (fun b10 => ?_)
    refine OPS.nil ?_
    refine thn_n ?_
    refine WP.ret ?_
    refine thn_r ?_
    refine bodyQ.of _ rfl [.agg #[.int .i64 0, .int .i64 0], .int .i64 31] ⟨⟨_, rfl, (show Ld Tryd.prog w8 23 ⟨g3, 0, none⟩ (.agg #[.int .i64 0, .int .i64 0]) from Ld.rowN (cs := [.int .i64 0, .int .i64 0]) hp9.get0 (by kernel_rfl))⟩, rfl, trivial⟩ ?_
    have hpar := ref_long (s := s) (by omega)
    exact ⟨by simp only [pack]; rw [hpar]; rfl, hp9.fr⟩
  · refine WP.skip ?_
    refine thn_n ?_
    refine WP.seq ?_
    refine WP.region _ rfl (by kernel_rfl) ?_
    refine OPS.cons (opStep.alloc hp2 [.int .i64 0, .int .i64 0] (by kernel_rfl) (fun g13 w11 hp12 => ?_))
    refine OPS.nil ?_
    refine thn_n ?_
    refine WP.seq ?_
    refine WP.pure {} [] [0, 2, 4, 5] [.string s, .pointer (some ⟨g3, 0, none⟩), .pointer (some ⟨g13, 0, none⟩), .int .i64 0] .nil (by kernel_rfl) (fun b14 => ?_)
    refine thn_n ?_
    refine WP.seq ?_
    refine WP.seq ?_
    refine WP.pure {} [] [0, 2, 4, 5, 6] [.string s, .pointer (some ⟨g3, 0, none⟩), .pointer (some ⟨g13, 0, none⟩), .int .i64 0, .int .i64 0] .nil (by kernel_rfl) (fun b15 => ?_)
    refine thn_n ?_
    refine WP.block ?_
    refine WP.loop (fun mz_ e16 w17 => ∃ (k : Nat) (d : Int) (a : Int) (b : Int), mz_ = s.size - k ∧ (k ≤ s.size ∧ 0 ≤ d ∧ d ≤ k ∧ refL (s.data.toList.take k) = some (d, a, b)) ∧ List.map e16 [0, 2, 4, 5, 6] = [.string s, .pointer (some ⟨g3, 0, none⟩), .pointer (some ⟨g13, 0, none⟩), .int .i64 d, .int .i64 (k : Int)] ∧ Hp w Non [Res.row g13 [.int .i64 a, .int .i64 b] 23, Res.row g3 [.int .i64 0, .int .i64 0] 23] w17) (s.size - (0)) ⟨0, 0, 0, 0, rfl, ⟨by omega, by omega, by omega, rfl⟩, by kernel_rfl, hp12⟩ ?_
    rintro _ e16 w17 ⟨k, d, a, b, rfl, hI19, hE20, hp18⟩
    obtain ⟨b21, rfl⟩ := toMk hE20
    clear hE20
    obtain ⟨pa, pb, pb2, pc⟩ := hI19
    have hby := byte_rng s k
    refine WP.seq ?_
    refine WP.seq ?_
    refine WP.pure {} [] [0, 2, 4, 5, 6, 15] [.string s, .pointer (some ⟨g3, 0, none⟩), .pointer (some ⟨g13, 0, none⟩), .int .i64 d, .int .i64 (k : Int), .bool (decide ((k : Int) < (s.size : Int)))] .nil (by kernel_rfl) (fun b22 => ?_)
    refine thn_n ?_
    refine WP.test (p := (k : Int) < (s.size : Int)) rfl Bp.dec (fun h23 => ?_) (fun h23 => ?_)
    · refine WP.skip ?_
      refine thn_n ?_
      refine WP.seq ?_
      refine WP.block ?_
      refine WP.seq ?_
      refine WP.pure {} [] [0, 2, 4, 5, 6, 7] [.string s, .pointer (some ⟨g3, 0, none⟩), .pointer (some ⟨g13, 0, none⟩), .int .i64 d, .int .i64 (k : Int), .int .u8 (byteAt s ((k : Int)))] (.cons (show InB ((k : Int)) s.size from ⟨by omega, by omega⟩) .nil) (by kernel_rfl) (fun b24 => ?_)
      refine thn_n ?_
      refine WP.block ?_
      refine WP.seq ?_
      refine WP.pure {} [] [0, 2, 4, 5, 6, 7, 29] [.string s, .pointer (some ⟨g3, 0, none⟩), .pointer (some ⟨g13, 0, none⟩), .int .i64 d, .int .i64 (k : Int), .int .u8 (byteAt s ((k : Int))), .bool (decide ((byteAt s ((k : Int))) = 46))] .nil (by kernel_rfl) (fun b25 => ?_)
      refine thn_n ?_
      refine WP.test (p := (byteAt s ((k : Int))) = 46) rfl Bp.dec (fun h26 => ?_) (fun h26 => ?_)
      · refine WP.pure {} [] [0, 2, 4, 5, 6] [.string s, .pointer (some ⟨g3, 0, none⟩), .pointer (some ⟨g13, 0, none⟩), .int .i64 (d + 1), .int .i64 (k : Int)] (.cons (show Rng .i64 (d + 1) from Rng.i64 (by omega)) .nil) (by kernel_rfl) (fun b27 => ?_)
        refine blk_n ?_
        refine blk_n ?_
        refine thn_n ?_
        refine WP.pure {} [] [0, 2, 4, 5, 6] [.string s, .pointer (some ⟨g3, 0, none⟩), .pointer (some ⟨g13, 0, none⟩), .int .i64 (d + 1), .int .i64 ((k : Int) + 1)] (.cons (show Rng .i64 ((k : Int) + 1) from Rng.i64 (by omega)) .nil) (by kernel_rfl) (fun b28 => ?_)
        refine thn_n ?_
        exact ⟨s.size - (k + 1), (by omega), k + 1, d + 1, a, b, rfl, ⟨by omega, by omega, by omega, (ref_step (by omega) pc).1 (by omega)⟩, by kernel_rfl, hp18⟩
      · refine WP.cut (fun e38 w39 => ∃ (x36 : Bool), (True) ∧ Bp x36 ((((byteAt s ((k : Int))) < 48)) ∨ ((¬ ((byteAt s ((k : Int))) < 48)) ∧ (57 < (byteAt s ((k : Int)))))) ∧ List.map e38 [0, 2, 4, 5, 6, 7, 34] = [.string s, .pointer (some ⟨g3, 0, none⟩), .pointer (some ⟨g13, 0, none⟩), .int .i64 d, .int .i64 (k : Int), .int .u8 (byteAt s ((k : Int))), .bool x36] ∧ Hp w Non [Res.row g13 [.int .i64 a, .int .i64 b] 23, Res.row g3 [.int .i64 0, .int .i64 0] 23] w39) ?_ ?_
        · refine WP.region _ rfl (by kernel_rfl) ?_
          refine OPS.batch 3 {} [] [0, 2, 4, 5, 6, 7, 37] [.string s, .pointer (some ⟨g3, 0, none⟩), .pointer (some ⟨g13, 0, none⟩), .int .i64 d, .int .i64 (k : Int), .int .u8 (byteAt s ((k : Int))), .bool (decide ((byteAt s ((k : Int))) < 48))] .nil (by kernel_rfl) (fun b30 => ?_)
          by_cases h31 : (byteAt s ((k : Int))) < 48
          · refine OPS.batch 0 {} [] [0, 2, 4, 5, 6, 7, 37] [.string s, .pointer (some ⟨g3, 0, none⟩), .pointer (some ⟨g13, 0, none⟩), .int .i64 d, .int .i64 (k : Int), .int .u8 (byteAt s ((k : Int))), .bool (decide ((byteAt s ((k : Int))) < 48))] .nil (by kernel_rfl) (fun b32 => ?_)
            refine OPS.re [.string s, .pointer (some ⟨g3, 0, none⟩), .pointer (some ⟨g13, 0, none⟩), .int .i64 d, .int .i64 (k : Int), .int .u8 (byteAt s ((k : Int))), .bool true] (by rw [show (decide ((byteAt s ((k : Int))) < 48)) = true from Bp.dec.tt h31]) ?_
            refine OPS.batch 4 { wraps := [40] } [] [0, 2, 4, 5, 6, 7, 34] [.string s, .pointer (some ⟨g3, 0, none⟩), .pointer (some ⟨g13, 0, none⟩), .int .i64 d, .int .i64 (k : Int), .int .u8 (byteAt s ((k : Int))), .bool true] .nil (by kernel_rfl) (fun b33 => ?_)
            refine OPS.nil ?_
            refine thn_n ?_
            exact ⟨true, trivial, Bp.of Bp.t (by first | (simp only [h31, iff_false, false_iff, iff_true, true_iff, Classical.not_not, and_true, true_and, and_false, false_and, or_true, true_or, or_false, false_or, not_true_eq_false, not_false_eq_true, and_self, or_self, iff_self]; done) | (simp [h31]; done) | simp_all), by kernel_rfl, hp18⟩
          · refine OPS.batch 0 {} [] [0, 2, 4, 5, 6, 7, 37] [.string s, .pointer (some ⟨g3, 0, none⟩), .pointer (some ⟨g13, 0, none⟩), .int .i64 d, .int .i64 (k : Int), .int .u8 (byteAt s ((k : Int))), .bool (decide ((byteAt s ((k : Int))) < 48))] .nil (by kernel_rfl) (fun b34 => ?_)
            refine OPS.re [.string s, .pointer (some ⟨g3, 0, none⟩), .pointer (some ⟨g13, 0, none⟩), .int .i64 d, .int .i64 (k : Int), .int .u8 (byteAt s ((k : Int))), .bool false] (by rw [show (decide ((byteAt s ((k : Int))) < 48)) = false from Bp.dec.ff h31]) ?_
            refine OPS.batch 4 { wraps := [40] } [] [0, 2, 4, 5, 6, 7, 34] [.string s, .pointer (some ⟨g3, 0, none⟩), .pointer (some ⟨g13, 0, none⟩), .int .i64 d, .int .i64 (k : Int), .int .u8 (byteAt s ((k : Int))), .bool (decide (57 < (byteAt s ((k : Int)))))] .nil (by kernel_rfl) (fun b35 => ?_)
            refine OPS.nil ?_
            refine thn_n ?_
            exact ⟨decide (57 < (byteAt s ((k : Int)))), trivial, Bp.of Bp.dec (by first | (simp only [h31, iff_false, false_iff, iff_true, true_iff, Classical.not_not, and_true, true_and, and_false, false_and, or_true, true_or, or_false, false_or, not_true_eq_false, not_false_eq_true, and_self, or_self, iff_self]; done) | (simp [h31]; done) | simp_all), by kernel_rfl, hp18⟩
        rintro e38 w39 ⟨x36, hd41, hb37, hE42, hp40⟩
        obtain ⟨b43, rfl⟩ := toMk hE42
        clear hE42
        clear hd41
        refine WP.test (p := (((byteAt s ((k : Int))) < 48)) ∨ ((¬ ((byteAt s ((k : Int))) < 48)) ∧ (57 < (byteAt s ((k : Int)))))) rfl hb37 (fun h44 => ?_) (fun h44 => ?_)
        · refine WP.seq ?_
          refine WP.region _ rfl (by kernel_rfl) ?_
          refine OPS.batch 1 {} [] [2, 41] [.pointer (some ⟨g3, 0, none⟩), .agg #[.int .i64 0, .int .i64 0]] .nil (by kernel_rfl) (fun b45 => ?_)
          refine OPS.cons (opStep.store1 hp40 rfl [.int .i64 0, .int .i64 0] [.int .i64 0, .int .i64 0] (by kernel_rfl) (fun w46 hp47 => ?_))
          refine OPS.batch 1 {} [] [2, 3] [.pointer (some ⟨g3, 0, none⟩), .int .i64 31] .nil (by kernel_rfl) (fun b48 => ?_)
          refine OPS.nil ?_
          refine thn_n ?_
          refine WP.ret ?_
          refine blk_r ?_
          refine blk_r ?_
          refine thn_r ?_
          refine thn_r ?_
          refine blk_r ?_
          refine thn_r ?_
          refine bodyQ.of _ rfl [.agg #[.int .i64 0, .int .i64 0], .int .i64 31] ⟨⟨_, rfl, (show Ld Tryd.prog w46 23 ⟨g3, 0, none⟩ (.agg #[.int .i64 0, .int .i64 0]) from Ld.rowN (cs := [.int .i64 0, .int .i64 0]) hp47.get1 (by kernel_rfl))⟩, rfl, trivial⟩ ?_
          have hpar := ref_bad (by omega) pc ⟨by omega, by omega⟩
          exact ⟨by simp only [pack]; rw [hpar]; rfl, hp47.fr⟩
        · refine WP.seq ?_
          refine WP.pure {} [] [0, 2, 4, 5, 6, 7, 42] [.string s, .pointer (some ⟨g3, 0, none⟩), .pointer (some ⟨g13, 0, none⟩), .int .i64 d, .int .i64 (k : Int), .int .u8 (byteAt s ((k : Int))), .bool (decide (d = 0))] .nil (by kernel_rfl) (fun b49 => ?_)
          refine thn_n ?_
          refine WP.test (p := d = 0) rfl Bp.dec (fun h50 => ?_) (fun h50 => ?_)
          · refine WP.region _ rfl (by kernel_rfl) ?_
            refine OPS.batch 8 { wraps := [47, 51] } [.int .i64 a] [0, 2, 4, 5, 6, 51, 52] [.string s, .pointer (some ⟨g3, 0, none⟩), .pointer (some ⟨g13, 0, none⟩), .int .i64 d, .int .i64 (k : Int), .int .i64 (IntKind.i64.wrap ((IntKind.i64.wrap (a * 10)) + ((byteAt s ((k : Int))) - 48))), .pointer (some ⟨g13, 0, none⟩)] (.cons (Ld.row1 (P := Tryd.prog) (t := 2) (o := 0) (v := .int .i64 a) hp40.get0 (by kernel_rfl)) (.cons (show Rng .u8 ((byteAt s ((k : Int))) - 48) from Rng.u8 (by omega)) (.cons (show Rng .i64 ((byteAt s ((k : Int))) - 48) from Rng.i64 (by omega)) .nil))) (by kernel_rfl) (fun b51 => ?_)
            refine OPS.cons (opStep.store0 hp40 rfl [.int .i64 (IntKind.i64.wrap ((IntKind.i64.wrap (a * 10)) + ((byteAt s ((k : Int))) - 48)))] [.int .i64 (IntKind.i64.wrap ((IntKind.i64.wrap (a * 10)) + ((byteAt s ((k : Int))) - 48))), .int .i64 b] (by kernel_rfl) (fun w52 hp53 => ?_))
            refine OPS.nil ?_
            refine blk_n ?_
            refine blk_n ?_
            refine thn_n ?_
            refine WP.pure {} [] [0, 2, 4, 5, 6] [.string s, .pointer (some ⟨g3, 0, none⟩), .pointer (some ⟨g13, 0, none⟩), .int .i64 d, .int .i64 ((k : Int) + 1)] (.cons (show Rng .i64 ((k : Int) + 1) from Rng.i64 (by omega)) .nil) (by kernel_rfl) (fun b54 => ?_)
            refine thn_n ?_
            exact ⟨s.size - (k + 1), (by omega), k + 1, d, IntKind.i64.wrap ((IntKind.i64.wrap (a * 10)) + ((byteAt s ((k : Int))) - 48)), b, rfl, ⟨by omega, by omega, by omega, ((ref_step (by omega) pc).2 (by omega) (by omega)).1 (by omega)⟩, by kernel_rfl, hp53⟩
          · refine WP.region _ rfl (by kernel_rfl) ?_
            refine OPS.batch 8 { wraps := [23, 27] } [.int .i64 b] [0, 2, 4, 5, 6, 27, 28] [.string s, .pointer (some ⟨g3, 0, none⟩), .pointer (some ⟨g13, 0, none⟩), .int .i64 d, .int .i64 (k : Int), .int .i64 (IntKind.i64.wrap ((IntKind.i64.wrap (b * 10)) + ((byteAt s ((k : Int))) - 48))), .pointer (some ⟨g13, 1, none⟩)] (.cons (Ld.row1 (P := Tryd.prog) (t := 3) (o := 1) (v := .int .i64 b) hp40.get0 (by kernel_rfl)) (.cons (show Rng .u8 ((byteAt s ((k : Int))) - 48) from Rng.u8 (by omega)) (.cons (show Rng .i64 ((byteAt s ((k : Int))) - 48) from Rng.i64 (by omega)) .nil))) (by kernel_rfl) (fun b55 => ?_)
            refine OPS.cons (opStep.store0 hp40 rfl [.int .i64 (IntKind.i64.wrap ((IntKind.i64.wrap (b * 10)) + ((byteAt s ((k : Int))) - 48)))] [.int .i64 a, .int .i64 (IntKind.i64.wrap ((IntKind.i64.wrap (b * 10)) + ((byteAt s ((k : Int))) - 48)))] (by kernel_rfl) (fun w56 hp57 => ?_))
            refine OPS.nil ?_
            refine blk_n ?_
            refine blk_n ?_
            refine thn_n ?_
            refine WP.pure {} [] [0, 2, 4, 5, 6] [.string s, .pointer (some ⟨g3, 0, none⟩), .pointer (some ⟨g13, 0, none⟩), .int .i64 d, .int .i64 ((k : Int) + 1)] (.cons (show Rng .i64 ((k : Int) + 1) from Rng.i64 (by omega)) .nil) (by kernel_rfl) (fun b58 => ?_)
            refine thn_n ?_
            exact ⟨s.size - (k + 1), (by omega), k + 1, d, a, IntKind.i64.wrap ((IntKind.i64.wrap (b * 10)) + ((byteAt s ((k : Int))) - 48)), rfl, ⟨by omega, by omega, by omega, ((ref_step (by omega) pc).2 (by omega) (by omega)).2 (by omega)⟩, by kernel_rfl, hp57⟩
    · refine WP.exit ?_
      refine thn_x ?_
      refine thn_x ?_
      refine blk_hit ?_
      refine thn_n ?_
      refine WP.seq ?_
      refine WP.cut (fun e74 w75 => ∃ (x72 : Bool), (True) ∧ Bp x72 (((¬ ((textT (⟨a, b⟩ : GTag)) = s))) ∨ (((textT (⟨a, b⟩ : GTag)) = s) ∧ (s = ⟨#[]⟩))) ∧ List.map e74 [2, 4, 60] = [.pointer (some ⟨g3, 0, none⟩), .pointer (some ⟨g13, 0, none⟩), .bool x72] ∧ Hp w Non [Res.row g13 [.int .i64 a, .int .i64 b] 23, Res.row g3 [.int .i64 0, .int .i64 0] 23] w75) ?_ ?_
      · refine WP.region _ rfl (by kernel_rfl) ?_
        refine OPS.batch 1 {} [.agg #[.int .i64 a, .int .i64 b]] [0, 2, 4, 53] [.string s, .pointer (some ⟨g3, 0, none⟩), .pointer (some ⟨g13, 0, none⟩), .agg #[.int .i64 a, .int .i64 b]] (.cons (show Ld Tryd.prog w17 23 ⟨g13, 0, none⟩ (.agg #[.int .i64 a, .int .i64 b]) from Ld.rowN (cs := [.int .i64 a, .int .i64 b]) hp18.get0 (by kernel_rfl)) .nil) (by kernel_rfl) (fun b60 => ?_)
        refine OPS.cons (opStep.call (some 54) [.agg #[.int .i64 a, .int .i64 b]] (by kernel_rfl) (r8_Text (⟨a, b⟩ : GTag) _) ?_)
        rintro _ w63 ⟨rfl, hf64⟩
        refine ⟨_, rfl, ?_⟩
        have hp65 := hp18.step hf64
        refine OPS.batch 3 {} [] [0, 2, 4, 57] [.string s, .pointer (some ⟨g3, 0, none⟩), .pointer (some ⟨g13, 0, none⟩), .bool (decide (¬ ((textT (⟨a, b⟩ : GTag)) = s)))] .nil (by kernel_rfl) (fun b66 => ?_)
        by_cases h67 : (textT (⟨a, b⟩ : GTag)) = s
        · refine OPS.batch 0 {} [] [0, 2, 4, 57] [.string s, .pointer (some ⟨g3, 0, none⟩), .pointer (some ⟨g13, 0, none⟩), .bool (decide (¬ ((textT (⟨a, b⟩ : GTag)) = s)))] .nil (by kernel_rfl) (fun b70 => ?_)
          refine OPS.re [.string s, .pointer (some ⟨g3, 0, none⟩), .pointer (some ⟨g13, 0, none⟩), .bool false] (by rw [show (decide (¬ ((textT (⟨a, b⟩ : GTag)) = s))) = false from Bp.dec.ff (fun k => k h67)]) ?_
          refine OPS.batch 3 { wraps := [60] } [] [2, 4, 60] [.pointer (some ⟨g3, 0, none⟩), .pointer (some ⟨g13, 0, none⟩), .bool (decide (s = ⟨#[]⟩))] .nil (by kernel_rfl) (fun b71 => ?_)
          refine OPS.nil ?_
          refine thn_n ?_
          exact ⟨decide (s = ⟨#[]⟩), trivial, Bp.of Bp.dec (by first | (simp only [h67, iff_false, false_iff, iff_true, true_iff, Classical.not_not, and_true, true_and, and_false, false_and, or_true, true_or, or_false, false_or, not_true_eq_false, not_false_eq_true, and_self, or_self, iff_self]; done) | (simp [h67]; done) | simp_all), by kernel_rfl, hp65⟩
        · refine OPS.batch 0 {} [] [0, 2, 4, 57] [.string s, .pointer (some ⟨g3, 0, none⟩), .pointer (some ⟨g13, 0, none⟩), .bool (decide (¬ ((textT (⟨a, b⟩ : GTag)) = s)))] .nil (by kernel_rfl) (fun b68 => ?_)
          refine OPS.re [.string s, .pointer (some ⟨g3, 0, none⟩), .pointer (some ⟨g13, 0, none⟩), .bool true] (by rw [show (decide (¬ ((textT (⟨a, b⟩ : GTag)) = s))) = true from Bp.dec.tt h67]) ?_
          refine OPS.batch 3 { wraps := [60] } [] [2, 4, 60] [.pointer (some ⟨g3, 0, none⟩), .pointer (some ⟨g13, 0, none⟩), .bool true] .nil (by kernel_rfl) (fun b69 => ?_)
          refine OPS.nil ?_
          refine thn_n ?_
          exact ⟨true, trivial, Bp.of Bp.t (by first | (simp only [h67, iff_false, false_iff, iff_true, true_iff, Classical.not_not, and_true, true_and, and_false, false_and, or_true, true_or, or_false, false_or, not_true_eq_false, not_false_eq_true, and_self, or_self, iff_self]; done) | (simp [h67]; done) | simp_all), by kernel_rfl, hp65⟩
      rintro e74 w75 ⟨x72, hd77, hb73, hE78, hp76⟩
      obtain ⟨b79, rfl⟩ := toMk hE78
      clear hE78
      clear hd77
      refine WP.test (p := ((¬ ((textT (⟨a, b⟩ : GTag)) = s))) ∨ (((textT (⟨a, b⟩ : GTag)) = s) ∧ (s = ⟨#[]⟩))) rfl hb73 (fun h80 => ?_) (fun h80 => ?_)
      · refine WP.seq ?_
        refine WP.region _ rfl (by kernel_rfl) ?_
        refine OPS.batch 1 {} [] [2, 61] [.pointer (some ⟨g3, 0, none⟩), .agg #[.int .i64 0, .int .i64 0]] .nil (by kernel_rfl) (fun b81 => ?_)
        refine OPS.cons (opStep.store1 hp76 rfl [.int .i64 0, .int .i64 0] [.int .i64 0, .int .i64 0] (by kernel_rfl) (fun w82 hp83 => ?_))
        refine OPS.batch 1 {} [] [2, 3] [.pointer (some ⟨g3, 0, none⟩), .int .i64 31] .nil (by kernel_rfl) (fun b84 => ?_)
        refine OPS.nil ?_
        refine thn_n ?_
        refine WP.ret ?_
        refine thn_r ?_
        refine bodyQ.of _ rfl [.agg #[.int .i64 0, .int .i64 0], .int .i64 31] ⟨⟨_, rfl, (show Ld Tryd.prog w82 23 ⟨g3, 0, none⟩ (.agg #[.int .i64 0, .int .i64 0]) from Ld.rowN (cs := [.int .i64 0, .int .i64 0]) hp83.get1 (by kernel_rfl))⟩, rfl, trivial⟩ ?_
        have hkk : k = s.size := by omega
        rw [hkk, List.take_of_length_le (by simp)] at pc
        have hpar := (ref_end pc).2 h80
        exact ⟨by simp only [pack]; rw [hpar]; rfl, hp83.fr⟩
      · refine WP.skip ?_
        refine thn_n ?_
        refine WP.seq ?_
        refine WP.region _ rfl (by kernel_rfl) ?_
        refine OPS.batch 1 {} [.agg #[.int .i64 a, .int .i64 b]] [2, 62] [.pointer (some ⟨g3, 0, none⟩), .agg #[.int .i64 a, .int .i64 b]] (.cons (show Ld Tryd.prog w75 23 ⟨g13, 0, none⟩ (.agg #[.int .i64 a, .int .i64 b]) from Ld.rowN (cs := [.int .i64 a, .int .i64 b]) hp76.get0 (by kernel_rfl)) .nil) (by kernel_rfl) (fun b85 => ?_)
        refine OPS.cons (opStep.store1 hp76 rfl [.int .i64 a, .int .i64 b] [.int .i64 a, .int .i64 b] (by kernel_rfl) (fun w86 hp87 => ?_))
        refine OPS.batch 1 {} [] [2, 3] [.pointer (some ⟨g3, 0, none⟩), .int .i64 0] .nil (by kernel_rfl) (fun b88 => ?_)
        refine OPS.nil ?_
        refine thn_n ?_
        refine WP.ret ?_
        refine bodyQ.of _ rfl [.agg #[.int .i64 a, .int .i64 b], .int .i64 0] ⟨⟨_, rfl, (show Ld Tryd.prog w86 23 ⟨g3, 0, none⟩ (.agg #[.int .i64 a, .int .i64 b]) from Ld.rowN (cs := [.int .i64 a, .int .i64 b]) hp87.get1 (by kernel_rfl))⟩, rfl, trivial⟩ ?_
        have hkk : k = s.size := by omega
        rw [hkk, List.take_of_length_le (by simp)] at pc
        have hpar := (ref_end pc).1 h80
        exact ⟨by simp only [pack]; rw [hpar]; rfl, hp87.fr⟩

end Go.Proofs.YtpmcjhjlajmljaaDoorRRRR.K
