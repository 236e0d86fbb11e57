/- Texts of this claim, merged: what the program's functions compute, and the rules that the walks use. -/
import Derived.Test.YtbpedjefoajegaaDoorProg
import Derived.Test.YtbpedjefoajegaaDoorZ1
import Derived.Test.YtbpedjefoajegaaDoorZ5
import Derived.Test.YtbpedjefoajegaaDoorZ9
import Derived.Test.YtbpedjefoajegaaDoorZ11
namespace Go.Proofs.YtbpedjefoajegaaDoor.K
open Go Go.Proofs Go.RowKit
set_option linter.unusedVariables false
set_option linter.unusedSimpArgs false
set_option maxRecDepth 20000
set_option maxHeartbeats 4000000

theorem rf_parts (d : UInt8) (s : ByteArray) (hs : s.size ≤ 8796093022200) (w : World) :
  Calls Tryd.prog 37 #[.string s, .int .u8 ((d.toNat : Nat) : Int)] w (fun r_ w' => ∃ a n c, r_ = .returned (.slice a n c) ∧ Hp w Non [Res.own 9 1 (.slice a n c) n (List.flatMap strc (partsB d s))] w') := by
 refine calls_of Tryd.func37 rfl 34 rfl (by simp) ?_
 have hp0 := Hp.init w
 have he0 : List.map (env0 [.string s, .int .u8 ((d.toNat : Nat) : Int)]) [0, 1] = [.string s, .int .u8 ((d.toNat : Nat) : Int)] := by kernel_rfl
 obtain ⟨b0, he0⟩ := toMk he0
 rw [he0]
 clear he0
 refine WP.seq (wP [0, 1] [.string s, .int .u8 ((d.toNat : Nat) : Int)] fun b1 => ?_)
 refine thn_n (WP.seq (wP [0, 1, 5] [.string s, .int .u8 ((d.toNat : Nat) : Int), nS] fun b2 => ?_))
 refine thn_n (WP.seq (wP [0, 1, 5, 6] [.string s, .int .u8 ((d.toNat : Nat) : Int), nS, iI 0] fun b3 => ?_))
 refine thn_n (WP.seq (WP.seq (wP [0, 1, 5, 6, 7] [.string s, .int .u8 ((d.toNat : Nat) : Int), nS, iI 0, iI 0] fun b4 => ?_)))
 refine thn_n (WP.block ?_)
 have hp5 := (show Hp w Non [Res.own 9 1 (nS) 0 (List.flatMap strc ([] : List ByteArray))] w from hp0.nilOwn 9 1)
 refine WP.loop (fun mz_ e6 w7 => ∃ (p : Nat) (a : Nat) (xs : List ByteArray) (ao : Option Addr) (no : Nat) (co : Nat), mz_ = s.size - p ∧ (PtI d s xs a p ∧ xs.length ≤ p) ∧ List.map e6 [0, 1, 5, 6, 7] = [.string s, .int .u8 ((d.toNat : Nat) : Int), .slice ao no co, iI ((a : Nat) : Int), iI ((p : Nat) : Int)] ∧ Hp w Non [Res.own 9 1 (.slice ao no co) no (List.flatMap strc xs)] w7) (s.size - (0)) ⟨0, 0, [], none, 0, 0, rfl, ⟨PtI.start d s, by simp⟩, by kernel_rfl, hp5⟩ ?_
 rintro _ e6 w7 ⟨p, a, xs, ao, no, co, rfl, hI9, hE10, hp8⟩
 obtain ⟨b11, rfl⟩ := toMk hE10
 clear hE10
 obtain ⟨pa, pz⟩ := hI9
 have pe := own_flat (sz := 1) (fun _ => rfl) (by decide) hp8.get0
 have pb := pa.1
 have pc := pa.2.1
 refine WP.seq (WP.seq (wP [0, 1, 5, 6, 7, 11] [.string s, .int .u8 ((d.toNat : Nat) : Int), .slice ao no co, iI ((a : Nat) : Int), iI ((p : Nat) : Int), .bool (decide (((p : Nat) : Int) < (s.size : Int)))] fun b12 => ?_))
 refine thn_n ?_
 refine WP.test (p := ((p : Nat) : Int) < (s.size : Int)) rfl Bp.dec (fun h13 => ?_) (fun h13 => ?_)
 ·refine WP.skip (thn_n (WP.seq (WP.block (WP.seq (wQ {} [] [0, 1, 5, 6, 7, 18] [.string s, .int .u8 ((d.toNat : Nat) : Int), .slice ao no co, iI ((a : Nat) : Int), iI ((p : Nat) : Int), .bool (decide ((byteAt s (((p : Nat) : Int))) = ((d.toNat : Nat) : Int)))] (.cons (show InB (((p : Nat) : Int)) s.size from ⟨by omega, by omega⟩) .nil) fun b14 => ?_)))))
  refine thn_n ?_
  refine WP.test (p := (byteAt s (((p : Nat) : Int))) = ((d.toNat : Nat) : Int)) rfl Bp.dec (fun h15 => ?_) (fun h15 => ?_)
  ·refine WP.seq (wR (oQ 5 {} [] [0, 1, 7, 19, 23] [.string s, .int .u8 ((d.toNat : Nat) : Int), iI ((p : Nat) : Int), .slice ao no co, .string (s.extract (a) (p))] (.cons (show (0 : Int) ≤ ((a : Nat) : Int) ∧ ((a : Nat) : Int) ≤ ((p : Nat) : Int) ∧ ((p : Nat) : Int) ≤ (s.size : Int) from ⟨by omega, by omega, by omega⟩) .nil) fun b16 => ?_))
   refine OPS.cons (opStep.buildSlice (E := 9) hp8 [.string (s.extract (a) (p))] (by kernel_rfl) (fun g19 w17 hp18 => ?_))
   refine OPS.cons (opStep.append1 [.string (s.extract (a) (p))] hp18 16 (by kernel_rfl) rfl rfl rfl (SlR.row (n := 1) hp18.get0 rfl).rd (List.all_eq_true.1 (by kernel_rfl)) (by decide) (by omega) (by omega) (fun a22 c23 w24 hp25 hn26 => ?_))
   rw [(show List.flatMap strc xs ++ [.string (s.extract (a) (p))] = List.flatMap strc (xs ++ [s.extract (a) (p)]) from (List.flatMap_append (xs := xs) (ys := [s.extract (a) (p)])).symm)] at hp25
   refine oP 1 [0, 1, 5, 7] [.string s, .int .u8 ((d.toNat : Nat) : Int), .slice a22 (no + 1) c23, iI ((p : Nat) : Int)] fun b27 => ?_
   refine OPS.nil (thn_n (wQ { subs := [27] } [iI ((p + 1 : Nat) : Int)] [0, 1, 5, 6, 7] [.string s, .int .u8 ((d.toNat : Nat) : Int), .slice a22 (no + 1) c23, iI ((p + 1 : Nat) : Int), iI ((p : Nat) : Int)] (.cons (show Rng .i64 (((p : Nat) : Int) + 1) from Rng.i64 (by omega)) (.cons (show (iI (((p : Nat) : Int) + 1) : Go.Value) = iI ((p + 1 : Nat) : Int) from congrArg (Value.int .i64) ((show ((p : Nat) : Int) + 1 = ((p + 1 : Nat) : Int) from rfl))) .nil)) fun b28 => ?_))
   refine blk_n (thn_n (wQ { subs := [13] } [iI ((p + 1 : Nat) : Int)] [0, 1, 5, 6, 7] [.string s, .int .u8 ((d.toNat : Nat) : Int), .slice a22 (no + 1) c23, iI ((p + 1 : Nat) : Int), iI ((p + 1 : Nat) : Int)] (.cons (show Rng .i64 (((p : Nat) : Int) + 1) from Rng.i64 (by omega)) (.cons (show (iI (((p : Nat) : Int) + 1) : Go.Value) = iI ((p + 1 : Nat) : Int) from congrArg (Value.int .i64) ((show ((p : Nat) : Int) + 1 = ((p + 1 : Nat) : Int) from rfl))) .nil)) fun b29 => ?_))
   refine thn_n ?_
   exact ⟨s.size - (p + 1), (by omega), p + 1, p + 1, xs ++ [s.extract (a) (p)], a22, no + 1, c23, rfl, ⟨(pt_byte pa (by omega)).1 h15, by first | omega | (simp only [List.length_append, List.length_cons, List.length_nil]; omega)⟩, by kernel_rfl, (hp25.sub (.cons _ (.cons_cons _ (.slnil))))⟩
  ·refine WP.skip (blk_n (thn_n (wQ { subs := [13] } [iI ((p + 1 : Nat) : Int)] [0, 1, 5, 6, 7] [.string s, .int .u8 ((d.toNat : Nat) : Int), .slice ao no co, iI ((a : Nat) : Int), iI ((p + 1 : Nat) : Int)] (.cons (show Rng .i64 (((p : Nat) : Int) + 1) from Rng.i64 (by omega)) (.cons (show (iI (((p : Nat) : Int) + 1) : Go.Value) = iI ((p + 1 : Nat) : Int) from congrArg (Value.int .i64) ((show ((p : Nat) : Int) + 1 = ((p + 1 : Nat) : Int) from rfl))) .nil)) fun b30 => ?_)))
   refine thn_n ?_
   exact ⟨s.size - (p + 1), (by omega), p + 1, a, xs, ao, no, co, rfl, ⟨(pt_byte pa (by omega)).2 h15, by first | omega | (simp only [List.length_append, List.length_cons, List.length_nil]; omega)⟩, by kernel_rfl, hp8⟩
 ·refine WP.exit (thn_x (thn_x (blk_hit (thn_n (WP.seq (wR (oQ 4 {} [] [28, 31] [.slice ao no co, .string (s.extract (a) s.size)] (.cons (show (0 : Int) ≤ ((a : Nat) : Int) ∧ ((a : Nat) : Int) ≤ (s.size : Int) from ⟨by omega, by omega⟩) .nil) fun b31 => ?_)))))))
  refine OPS.cons (opStep.buildSlice (E := 9) hp8 [.string (s.extract (a) s.size)] (by kernel_rfl) (fun g34 w32 hp33 => ?_))
  refine OPS.cons (opStep.append1 [.string (s.extract (a) s.size)] hp33 16 (by kernel_rfl) rfl rfl rfl (SlR.row (n := 1) hp33.get0 rfl).rd (List.all_eq_true.1 (by kernel_rfl)) (by decide) (by omega) (by omega) (fun a37 c38 w39 hp40 hn41 => ?_))
  rw [(show List.flatMap strc xs ++ [.string (s.extract (a) s.size)] = List.flatMap strc (xs ++ [s.extract (a) s.size]) from (List.flatMap_append (xs := xs) (ys := [s.extract (a) s.size])).symm)] at hp40
  refine oP 1 [4] [.slice a37 (no + 1) c38] fun b42 => ?_
  refine OPS.nil (thn_n (WP.ret ?_))
  refine bodyQ.of _ rfl [.slice a37 (no + 1) c38] ⟨rfl, trivial⟩ ?_
  have hle := pt_end pa (by omega)
  exact ⟨_, _, _, rfl, by rw [hle]; exact (hp40.sub (.cons _ (.cons_cons _ (.slnil))))⟩

theorem rf_number (s : ByteArray) (hs : s.size ≤ 8796093022200) (w : World) :
  Calls Tryd.prog 43 #[.string s] w (fun r_ w' => r_ = .returned (.int .i64 (numI s)) ∧ Fram Non w w') := by
 have hpos : ¬ s = ⟨#[]⟩ → 0 < s.size := fun q => Nat.pos_of_ne_zero fun e => q (ba_zero e)
 refine calls_of Tryd.func43 rfl 36 rfl (by simp) ?_
 have hp0 := Hp.init w
 have he0 : List.map (env0 [.string s]) [0] = [.string s] := by kernel_rfl
 obtain ⟨b0, he0⟩ := toMk he0
 rw [he0]
 clear he0
 refine WP.seq (wP [0] [.string s] fun b1 => ?_)
 refine thn_n (WP.seq (wP [0, 3] [.string s, iI 0] fun b2 => ?_))
 refine thn_n (WP.seq (WP.seq (wP [0, 3, 4] [.string s, iI 0, iI 0] fun b3 => ?_)))
 refine thn_n (WP.block ?_)
 refine WP.loop (fun mz_ e4 w5 => ∃ (j : Nat) (v : Int), mz_ = s.size - j ∧ (j ≤ s.size ∧ v = IntKind.i64.wrap (rawI (preL s j))) ∧ List.map e4 [0, 3, 4] = [.string s, iI v, iI (j : Int)] ∧ Hp w Non [] w5) (s.size - (0)) ⟨0, 0, rfl, ⟨Nat.zero_le _, by unfold preL; rw [List.take_zero, List.drop_nil, i64_wrap]; rfl⟩, by kernel_rfl, hp0⟩ ?_
 rintro _ e4 w5 ⟨j, v, rfl, hI7, hE8, hp6⟩
 obtain ⟨b9, rfl⟩ := toMk hE8
 clear hE8
 obtain ⟨pa, pb⟩ := hI7
 obtain ⟨hb1, hb2, hb3⟩ := byte_of s (j : Int)
 refine WP.seq (WP.seq (wP [0, 3, 4, 8] [.string s, iI v, iI (j : Int), .bool (decide ((j : Int) < (s.size : Int)))] fun b10 => ?_))
 refine thn_n ?_
 refine WP.test (p := (j : Int) < (s.size : Int)) rfl Bp.dec (fun h11 => ?_) (fun h11 => ?_)
 ·refine WP.skip (thn_n (WP.seq (WP.block (WP.seq (wQ { wraps := [12, 17, 18] } [] [0, 3, 4] [.string s, iI (IntKind.i64.wrap ((IntKind.i64.wrap ((IntKind.i64.wrap (v * 10)) + (byteAt s ((j : Int))))) - 48)), iI (j : Int)] (.cons (show InB ((j : Int)) s.size from ⟨by first | omega | (have h_ := hpos (by assumption); omega), by first | omega | (have h_ := hpos (by assumption); omega)⟩) (.cons (show Rng .i64 (byteAt s ((j : Int))) from Rng.i64 (by first | omega | (have h_ := hpos (by assumption); omega))) .nil)) fun b12 => ?_)))))
  refine thn_n (WP.seq (wR (oP 3 [0, 3, 4, 21] [.string s, iI (IntKind.i64.wrap ((IntKind.i64.wrap ((IntKind.i64.wrap (v * 10)) + (byteAt s ((j : Int))))) - 48)), iI (j : Int), .bool (decide ((j : Int) = 0))] fun b13 => ?_)))
  by_cases h14 : (j : Int) = 0
  ·refine oP 0 [0, 3, 4, 21] [.string s, iI (IntKind.i64.wrap ((IntKind.i64.wrap ((IntKind.i64.wrap (v * 10)) + (byteAt s ((j : Int))))) - 48)), iI (j : Int), .bool (decide ((j : Int) = 0))] fun b15 => ?_
   refine OPS.re [.string s, iI (IntKind.i64.wrap ((IntKind.i64.wrap ((IntKind.i64.wrap (v * 10)) + (byteAt s ((j : Int))))) - 48)), iI (j : Int), bT] (by rw [show (decide ((j : Int) = 0)) = true from Bp.dec.tt h14]) ?_
   refine oQ 4 { wraps := [25] } [] [0, 3, 4, 25] [.string s, iI (IntKind.i64.wrap ((IntKind.i64.wrap ((IntKind.i64.wrap (v * 10)) + (byteAt s ((j : Int))))) - 48)), iI (j : Int), .bool (decide ((byteAt s (0)) = 45))] (.cons (show InB (0) s.size from ⟨by first | omega | (have h_ := hpos (by assumption); omega), by first | omega | (have h_ := hpos (by assumption); omega)⟩) .nil) fun b16 => ?_
   refine OPS.nil (thn_n ?_)
   refine WP.test (p := (byteAt s (0)) = 45) rfl Bp.dec (fun h17 => ?_) (fun h17 => ?_)
   ·refine wP [0, 3, 4] [.string s, iI 0, iI (j : Int)] fun b18 => ?_
    refine blk_n (thn_n (wQ {} [] [0, 3, 4] [.string s, iI 0, iI ((j : Int) + 1)] (.cons (show Rng .i64 ((j : Int) + 1) from Rng.i64 (by first | omega | (have h_ := hpos (by assumption); omega))) .nil) fun b19 => ?_))
    refine thn_n ?_
    exact ⟨s.size - (j + 1), (by omega), j + 1, 0, rfl, ⟨by omega, num_zero (by omega) ⟨by omega, by first | assumption | omega⟩⟩, by kernel_rfl, hp6⟩
   ·refine WP.skip (blk_n (thn_n (wQ {} [] [0, 3, 4] [.string s, iI (IntKind.i64.wrap ((IntKind.i64.wrap ((IntKind.i64.wrap (v * 10)) + (byteAt s ((j : Int))))) - 48)), iI ((j : Int) + 1)] (.cons (show Rng .i64 ((j : Int) + 1) from Rng.i64 (by first | omega | (have h_ := hpos (by assumption); omega))) .nil) fun b20 => ?_)))
    refine thn_n ?_
    exact ⟨s.size - (j + 1), (by omega), j + 1, IntKind.i64.wrap ((IntKind.i64.wrap ((IntKind.i64.wrap (v * 10)) + (byteAt s ((j : Int))))) - 48), rfl, ⟨by omega, num_step pb (by omega) (fun q => by have q1 := q.1; have q2 := q.2; first | omega | contradiction)⟩, by kernel_rfl, hp6⟩
  ·refine oP 0 [0, 3, 4, 21] [.string s, iI (IntKind.i64.wrap ((IntKind.i64.wrap ((IntKind.i64.wrap (v * 10)) + (byteAt s ((j : Int))))) - 48)), iI (j : Int), .bool (decide ((j : Int) = 0))] fun b21 => ?_
   refine OPS.re [.string s, iI (IntKind.i64.wrap ((IntKind.i64.wrap ((IntKind.i64.wrap (v * 10)) + (byteAt s ((j : Int))))) - 48)), iI (j : Int), bF] (by rw [show (decide ((j : Int) = 0)) = false from Bp.dec.ff h14]) ?_
   refine oQ 4 { wraps := [25] } [] [0, 3, 4, 25] [.string s, iI (IntKind.i64.wrap ((IntKind.i64.wrap ((IntKind.i64.wrap (v * 10)) + (byteAt s ((j : Int))))) - 48)), iI (j : Int), bF] .nil fun b22 => ?_
   refine OPS.nil (thn_n (WP.condF rfl (WP.skip (blk_n (thn_n (wQ {} [] [0, 3, 4] [.string s, iI (IntKind.i64.wrap ((IntKind.i64.wrap ((IntKind.i64.wrap (v * 10)) + (byteAt s ((j : Int))))) - 48)), iI ((j : Int) + 1)] (.cons (show Rng .i64 ((j : Int) + 1) from Rng.i64 (by first | omega | (have h_ := hpos (by assumption); omega))) .nil) fun b23 => ?_))))))
   refine thn_n ?_
   exact ⟨s.size - (j + 1), (by omega), j + 1, IntKind.i64.wrap ((IntKind.i64.wrap ((IntKind.i64.wrap (v * 10)) + (byteAt s ((j : Int))))) - 48), rfl, ⟨by omega, num_step pb (by omega) (fun q => by have q1 := q.1; have q2 := q.2; first | omega | contradiction)⟩, by kernel_rfl, hp6⟩
 ·refine WP.exit (thn_x (thn_x (blk_hit (thn_n (WP.seq ?_)))))
  refine WP.cut (fun e33 w34 => ∃ (x31 : Bool), (True) ∧ Bp x31 ((¬ (s = ⟨#[]⟩)) ∧ ((byteAt s (0)) = 45)) ∧ List.map e33 [3, 32] = [iI v, .bool x31] ∧ Hp w Non [] w34) ?_ ?_
  ·refine wR (oP 3 [0, 3, 28] [.string s, iI v, .bool (decide (¬ (s = ⟨#[]⟩)))] fun b25 => ?_)
   by_cases h26 : s = ⟨#[]⟩
   ·refine oP 0 [0, 3, 28] [.string s, iI v, .bool (decide (¬ (s = ⟨#[]⟩)))] fun b29 => ?_
    refine OPS.re [.string s, iI v, bF] (by rw [show (decide (¬ (s = ⟨#[]⟩))) = false from Bp.dec.ff (fun k => k h26)]) ?_
    refine oQ 4 { wraps := [32] } [] [3, 32] [iI v, bF] .nil fun b30 => ?_
    refine OPS.nil (thn_n ?_)
    exact ⟨false, trivial, Bp.of Bp.f (by first | (simp [h26]; done) | grind | (simp_all; done)), by kernel_rfl, hp6⟩
   ·refine oP 0 [0, 3, 28] [.string s, iI v, .bool (decide (¬ (s = ⟨#[]⟩)))] fun b27 => ?_
    refine OPS.re [.string s, iI v, bT] (by rw [show (decide (¬ (s = ⟨#[]⟩))) = true from Bp.dec.tt h26]) ?_
    refine oQ 4 { wraps := [32] } [] [3, 32] [iI v, .bool (decide ((byteAt s (0)) = 45))] (.cons (show InB (0) s.size from ⟨by first | omega | (have h_ := hpos (by assumption); omega), by first | omega | (have h_ := hpos (by assumption); omega)⟩) .nil) fun b28 => ?_
    refine OPS.nil (thn_n ?_)
    exact ⟨decide ((byteAt s (0)) = 45), trivial, Bp.of Bp.dec (by first | (simp [h26]; done) | grind | (simp_all; done)), by kernel_rfl, hp6⟩
  rintro e33 w34 ⟨x31, hd36, hb32, hE37, hp35⟩
  obtain ⟨b38, rfl⟩ := toMk hE37
  clear hE37
  clear hd36
  refine WP.test (p := (¬ (s = ⟨#[]⟩)) ∧ ((byteAt s (0)) = 45)) rfl hb32 (fun h39 => ?_) (fun h39 => ?_)
  ·refine wQ { wraps := [34] } [] [3] [iI (IntKind.i64.wrap (0 - v))] .nil fun b40 => ?_
   refine thn_n (WP.seq (wP [2] [iI (IntKind.i64.wrap (0 - v))] fun b41 => ?_))
   refine thn_n (WP.ret ?_)
   refine bodyQ.of _ rfl [iI (IntKind.i64.wrap (0 - v))] ⟨rfl, trivial⟩ ?_
   obtain rfl : j = s.size := by omega
   have hne : s.size = 0 → s = ⟨#[]⟩ := ba_zero
   have hn_ : negB s = true := (neg_iff s).2 ⟨Nat.pos_of_ne_zero fun q => by have h_ := hne q; first | contradiction | (simp_all; done), by first | assumption | omega | (simp_all; done)⟩
   exact ⟨by simp only [pack]; rw [(num_fin pb).1 hn_], hp35.fr⟩
  ·refine WP.skip (thn_n (WP.seq (wP [2] [iI v] fun b42 => ?_)))
   refine thn_n (WP.ret ?_)
   refine bodyQ.of _ rfl [iI v] ⟨rfl, trivial⟩ ?_
   obtain rfl : j = s.size := by omega
   have hne : s.size = 0 → s = ⟨#[]⟩ := ba_zero
   have hn_ : ¬ negB s = true := fun q => by have h1_ := (neg_iff s).1 q; have h2_ : s = ⟨#[]⟩ → s.size = 0 := fun e => e ▸ rfl; first | omega | (simp_all; done) | (have h3_ := h1_.2; simp_all; omega)
   exact ⟨by simp only [pack]; rw [← (num_fin pb).2 hn_], hp35.fr⟩

theorem rf_digit (c : Int) (w : World) :
  Calls Tryd.prog 59 #[.int .u8 c] w (fun r_ w' => r_ = .returned (.int .u8 (digI c)) ∧ Fram Non w w') := by
 refine calls_of Tryd.func59 rfl 10 rfl (by simp) ?_
 have hp0 := Hp.init w
 have he0 : List.map (env0 [.int .u8 c]) [0] = [.int .u8 c] := by kernel_rfl
 obtain ⟨b0, he0⟩ := toMk he0
 rw [he0]
 clear he0
 refine WP.seq (wP [0] [.int .u8 c] fun b1 => ?_)
 refine thn_n (WP.seq (WP.seq (wP [0, 4] [.int .u8 c, .bool (decide (97 ≤ c))] fun b2 => ?_)))
 refine thn_n ?_
 refine WP.test (p := 97 ≤ c) rfl Bp.dec (fun h3 => ?_) (fun h3 => ?_)
 ·refine WP.seq (wQ { wraps := [6, 7] } [] [2] [.int .u8 (IntKind.u8.wrap ((IntKind.u8.wrap (c - 97)) + 10))] .nil fun b4 => ?_)
  refine thn_n (WP.ret (thn_r ?_))
  refine bodyQ.of _ rfl [.int .u8 (IntKind.u8.wrap ((IntKind.u8.wrap (c - 97)) + 10))] ⟨rfl, trivial⟩ ?_
  exact ⟨by simp only [pack]; unfold digI; rw [if_pos (by have h_ := h3; omega)], hp0.fr⟩
 ·refine WP.skip (thn_n (WP.seq (wQ { wraps := [9] } [] [2] [.int .u8 (IntKind.u8.wrap (c - 48))] .nil fun b5 => ?_)))
  refine thn_n (WP.ret ?_)
  refine bodyQ.of _ rfl [.int .u8 (IntKind.u8.wrap (c - 48))] ⟨rfl, trivial⟩ ?_
  exact ⟨by simp only [pack]; unfold digI; rw [if_neg (by have h_ := h3; omega)], hp0.fr⟩

theorem rf_bytes (s : ByteArray) (hs : s.size ≤ 1099511627776) (w : World) :
  Calls Tryd.prog 52 #[.string s] w (fun r_ w' => ∃ a n c, ∃ xs : List Int, r_ = .returned (.slice a n c) ∧ xs.length ≤ s.size ∧ (∀ y ∈ xs, 0 ≤ y ∧ y ≤ 255) ∧ (∀ t : ByteArray, s = hexT t → strOf xs = t) ∧ Hp w Non [Res.own 5 1 (.slice a n c) n (List.flatMap u8c xs)] w') := by
 refine calls_of Tryd.func52 rfl 27 rfl (by simp) ?_
 have hp0 := Hp.init w
 have he0 : List.map (env0 [.string s]) [0] = [.string s] := by kernel_rfl
 obtain ⟨b0, he0⟩ := toMk he0
 rw [he0]
 clear he0
 refine WP.seq (wP [0] [.string s] fun b1 => ?_)
 refine thn_n (WP.seq (wP [0, 3] [.string s, nS] fun b2 => ?_))
 refine thn_n (WP.seq (WP.seq (wP [0, 3, 4] [.string s, nS, iI 0] fun b3 => ?_)))
 refine thn_n (WP.block ?_)
 have hp4 := (show Hp w Non [Res.own 5 1 (nS) 0 (List.flatMap u8c ([] : List Int))] w from hp0.nilOwn 5 1)
 refine WP.loop (fun mz_ e5 w6 => ∃ (j : Nat) (xs : List Int) (ao : Option Addr) (no : Nat) (co : Nat), mz_ = s.size - 2 * j ∧ (2 * j ≤ s.size ∧ ByI s xs j) ∧ List.map e5 [0, 3, 4] = [.string s, .slice ao no co, iI ((2 * j : Nat) : Int)] ∧ Hp w Non [Res.own 5 1 (.slice ao no co) no (List.flatMap u8c xs)] w6) (s.size - 2 * (0)) ⟨0, [], none, 0, 0, rfl, ⟨Nat.zero_le _, ByI.start s⟩, by kernel_rfl, hp4⟩ ?_
 rintro _ e5 w6 ⟨j, xs, ao, no, co, rfl, hI8, hE9, hp7⟩
 obtain ⟨b10, rfl⟩ := toMk hE9
 clear hE9
 obtain ⟨pa, pb⟩ := hI8
 have pe := own_flat (sz := 1) (fun _ => rfl) (by decide) hp7.get0
 have pl := pb.2.1
 refine WP.seq (WP.seq (wQ {} [] [0, 3, 4, 9] [.string s, .slice ao no co, iI ((2 * j : Nat) : Int), .bool (decide ((((2 * j : Nat) : Int) + 1) < (s.size : Int)))] (.cons (show Rng .i64 (((2 * j : Nat) : Int) + 1) from Rng.i64 (by omega)) .nil) fun b11 => ?_))
 refine thn_n ?_
 refine WP.test (p := (((2 * j : Nat) : Int) + 1) < (s.size : Int)) rfl Bp.dec (fun h12 => ?_) (fun h12 => ?_)
 ·refine WP.skip (thn_n (WP.seq (WP.block ?_)))
  have hp13 := hp7.drew
  refine WP.held (fun w14 => True) [] [(0, true), (1, true), (2, true), (3, true), (6, true), (7, true), (8, true), (9, true), (4, false), (5, true), (10, false), (11, true), (12, false), (13, false), (14, true)] (np_blk (np_thn (np_thn (np_blk (np_thn np_body))))) (by kernel_rfl) ?_
  refine hQ 8 {} [] [0, 4, 12, 15, 21] [.string s, iI ((2 * j : Nat) : Int), .slice ao no co, .int .u8 (byteAt s (((2 * j : Nat) : Int))), .int .u8 (byteAt s (((2 * j : Nat) : Int) + 1))] trivial (fun w15 hS16 => (.cons (show InB (((2 * j : Nat) : Int)) s.size from ⟨by omega, by omega⟩) (.cons (show Rng .i64 (((2 * j : Nat) : Int) + 1) from Rng.i64 (by omega)) (.cons (show InB (((2 * j : Nat) : Int) + 1) s.size from ⟨by omega, by omega⟩) .nil)))) fun b17 => ?_
  refine HOPS.eff _ rfl (opStep.call (some 16) [.int .u8 (byteAt s (((2 * j : Nat) : Int)))] (by kernel_rfl) (rf_digit (byteAt s (((2 * j : Nat) : Int))) _) ?_)
  rintro _ w20 ⟨rfl, hf21⟩
  refine ⟨_, rfl, ?_⟩
  have hp22 := hp13.step hf21
  refine ⟨.inr trivial, ?_⟩
  refine hQ 1 { wraps := [17] } [] [0, 4, 12, 17, 21] [.string s, iI ((2 * j : Nat) : Int), .slice ao no co, .int .u8 (IntKind.u8.wrap ((digI (byteAt s (((2 * j : Nat) : Int)))) * 16)), .int .u8 (byteAt s (((2 * j : Nat) : Int) + 1))] trivial (fun w23 hS24 => .nil) fun b25 => ?_
  refine HOPS.eff _ rfl (opStep.call (some 22) [.int .u8 (byteAt s (((2 * j : Nat) : Int) + 1))] (by kernel_rfl) (rf_digit (byteAt s (((2 * j : Nat) : Int) + 1)) _) ?_)
  rintro _ w28 ⟨rfl, hf29⟩
  refine ⟨_, rfl, ?_⟩
  have hp30 := hp22.step hf29
  refine ⟨.inr trivial, ?_⟩
  refine hQ 1 { wraps := [23] } [] [0, 4, 12, 23] [.string s, iI ((2 * j : Nat) : Int), .slice ao no co, .int .u8 (IntKind.u8.wrap ((IntKind.u8.wrap ((digI (byteAt s (((2 * j : Nat) : Int)))) * 16)) + (digI (byteAt s (((2 * j : Nat) : Int) + 1)))))] trivial (fun w31 hS32 => .nil) fun b33 => ?_
  refine HOPS.eff _ rfl (opStep.buildSlice (E := 5) hp30 [.int .u8 (IntKind.u8.wrap ((IntKind.u8.wrap ((digI (byteAt s (((2 * j : Nat) : Int)))) * 16)) + (digI (byteAt s (((2 * j : Nat) : Int) + 1)))))] (by kernel_rfl) (fun g36 w34 hp35 => ?_))
  refine ⟨.inr trivial, ?_⟩
  refine HOPS.eff _ rfl (opStep.append1 [.int .u8 (IntKind.u8.wrap ((IntKind.u8.wrap ((digI (byteAt s (((2 * j : Nat) : Int)))) * 16)) + (digI (byteAt s (((2 * j : Nat) : Int) + 1)))))] hp35 1 (by kernel_rfl) rfl rfl rfl (SlR.row (n := 1) hp35.get0 rfl).rd (List.all_eq_true.1 (by kernel_rfl)) (by decide) (by omega) (by omega) (fun a39 c40 w41 hp42 hn43 => ?_))
  rw [(show List.flatMap u8c xs ++ [.int .u8 (IntKind.u8.wrap ((IntKind.u8.wrap ((digI (byteAt s (((2 * j : Nat) : Int)))) * 16)) + (digI (byteAt s (((2 * j : Nat) : Int) + 1)))))] = List.flatMap u8c (xs ++ [IntKind.u8.wrap ((IntKind.u8.wrap ((digI (byteAt s (((2 * j : Nat) : Int)))) * 16)) + (digI (byteAt s (((2 * j : Nat) : Int) + 1))))]) from (List.flatMap_append (xs := xs) (ys := [IntKind.u8.wrap ((IntKind.u8.wrap ((digI (byteAt s (((2 * j : Nat) : Int)))) * 16)) + (digI (byteAt s (((2 * j : Nat) : Int) + 1))))])).symm)] at hp42
  refine ⟨.inr trivial, ?_⟩
  refine hP 1 [0, 3, 4] [.string s, .slice a39 (no + 1) c40, iI ((2 * j : Nat) : Int)] trivial fun b46 => ?_
  refine HOPS.nil (blk_n (thn_n (wQ { subs := [11] } [iI ((2 * (j + 1) : Nat) : Int)] [0, 3, 4] [.string s, .slice a39 (no + 1) c40, iI ((2 * (j + 1) : Nat) : Int)] (.cons (show Rng .i64 (((2 * j : Nat) : Int) + 2) from Rng.i64 (by omega)) (.cons (show (iI (((2 * j : Nat) : Int) + 2) : Go.Value) = iI ((2 * (j + 1) : Nat) : Int) from congrArg (Value.int .i64) ((show ((2 * j : Nat) : Int) + 2 = ((2 * (j + 1) : Nat) : Int) by omega))) .nil)) fun b47 => ?_)))
  refine thn_n ?_
  exact ⟨s.size - 2 * (j + 1), (by omega), j + 1, xs ++ [IntKind.u8.wrap ((IntKind.u8.wrap ((digI (byteAt s (((2 * j : Nat) : Int)))) * 16)) + (digI (byteAt s (((2 * j : Nat) : Int) + 1))))], a39, no + 1, c40, rfl, ⟨by omega, pb.step (by omega)⟩, by kernel_rfl, (hp42.sub (.cons _ (.cons_cons _ (.slnil))))⟩
 ·refine WP.exit (thn_x (thn_x (blk_hit (thn_n (WP.seq (wP [2] [.slice ao no co] fun b48 => ?_))))))
  refine thn_n (WP.ret ?_)
  refine bodyQ.of _ rfl [.slice ao no co] ⟨rfl, trivial⟩ ?_
  obtain ⟨h1_, h2_, h3_⟩ := pb.fin (by omega) pa
  exact ⟨_, _, _, xs, rfl, h1_, h2_, h3_, hp7⟩

end Go.Proofs.YtbpedjefoajegaaDoor.K
namespace Go.Proofs.YtbpedjefoajegaaDoor.K
open Go Go.Proofs Go.RowKit
set_option linter.unusedVariables false
set_option linter.unusedSimpArgs false
set_option maxRecDepth 20000
set_option maxHeartbeats 4000000
noncomputable abbrev qe0 := fun a0 => ([pP a0, .agg #[iI 0, iI 0, iI 0]] : List Go.Value)
noncomputable abbrev qe1 := ([.agg #[iI 0, iI 0, iI 0], iI 0, iI 82] : List Go.Value)
noncomputable abbrev qe2 := ([.agg #[iI 0, iI 0, iI 0], iI 0, iI 40] : List Go.Value)
noncomputable abbrev qe3 := ([.agg #[iI 0, iI 0, iI 0], iI 0, iI 1] : List Go.Value)

theorem rf_Config (s : ByteArray) (hs : s.size ≤ 1048576) (w : World) :
  Calls Tryd.prog 20 #[.string s] w (fun r_ w' => ∃ (c : GConfig) (n e : Int), r_ = .returned (.tuple #[GConfig.val c, .int .i64 n, .int .i64 e]) ∧ ConfR s c n e ∧ Fram Non w w') := by
 have hwz : ∀ x ∈ partsB 32 s, x.size ≤ 8796093022200 := fun x hx => Nat.le_trans (partsB_size hx) (by omega)
 have hne := (partsB_len 32 s).1
 have hne2 := (partsB_len 32 s).2
 refine calls_of Tryd.func20 rfl 67 rfl (by simp) ?_
 have hp0 := Hp.init w
 have he0 : List.map (env0 [.string s]) [0] = [.string s] := by kernel_rfl
 obtain ⟨b0, he0⟩ := toMk he0
 rw [he0]
 clear he0
 refine WP.seq (wR ?_)
 refine OPS.cons (opStep.alloc hp0 [iI 0, iI 0, iI 0] (by kernel_rfl) (fun g3 w1 hp2 => ?_))
 refine oP 2 [0, 2] [.string s, pP g3] fun b4 => ?_
 refine OPS.nil (thn_n (WP.seq (wR (oP 1 [2, 9] [pP g3, .string s] fun b5 => ?_))))
 refine OPS.cons (opStep.call (some 10) [.string s, .int .u8 32] (by kernel_rfl) (rf_parts 32 s (by omega) _) ?_)
 rintro _ w8 ⟨a10, n11, c12, rfl, hp9⟩
 have hln9 := own_flat (f := strc) (sz := 1) (fun _ => rfl) (by decide) hp9.get0
 subst hln9
 have hcap9 := own_cap hp9.get0
 refine ⟨_, rfl, ?_⟩
 have hp13 := hp2.madeQ hp9
 simp only [List.cons_append, List.nil_append] at hp13
 refine oP 1 [2, 5] [pP g3, .slice a10 ((partsB 32 s).length) c12] fun b14 => ?_
 refine OPS.nil (thn_n (WP.seq ?_))
 refine WP.cut (fun e26 w27 => ∃ (x24 : Bool), (True) ∧ Bp x24 (((¬ ((((partsB 32 s).length : Nat) : Int) = 5))) ∨ (((((partsB 32 s).length : Nat) : Int) = 5) ∧ (¬ (((partsB 32 s)[0]!) = ⟨#[99, 111, 110, 102, 105, 103]⟩)))) ∧ List.map e26 [2, 5, 19] = [pP g3, .slice a10 ((partsB 32 s).length) c12, .bool x24] ∧ Hp w Non [Res.own 9 1 (.slice a10 ((partsB 32 s).length) c12) ((partsB 32 s).length) (List.flatMap strc (partsB 32 s)), Res.row g3 [iI 0, iI 0, iI 0] 43] w27) ?_ ?_
 ·refine wR (oP 4 [2, 5, 14] [pP g3, .slice a10 ((partsB 32 s).length) c12, .bool (decide (¬ ((((partsB 32 s).length : Nat) : Int) = 5)))] fun b16 => ?_)
  by_cases h17 : (((partsB 32 s).length : Nat) : Int) = 5
  ·refine oP 0 [2, 5, 14] [pP g3, .slice a10 ((partsB 32 s).length) c12, .bool (decide (¬ ((((partsB 32 s).length : Nat) : Int) = 5)))] fun b20 => ?_
   refine OPS.re [pP g3, .slice a10 ((partsB 32 s).length) c12, bF] (by rw [show (decide (¬ ((((partsB 32 s).length : Nat) : Int) = 5))) = false from Bp.dec.ff (fun k => k h17)]) ?_
   have hy22 : ((partsB 32 s))[0]? = some (partsB 32 s)[0]! := get_bang (by first | (omega) | (simp only [List.length_append, List.length_cons, List.length_nil]; omega) | (simp only [List.length_take, List.length_append, List.length_cons, List.length_nil]; omega))
   refine oQ 5 { wraps := [19] } [.string ((partsB 32 s)[0]!)] [2, 5, 19] [pP g3, .slice a10 ((partsB 32 s).length) c12, .bool (decide (¬ (((partsB 32 s)[0]!) = ⟨#[99, 111, 110, 102, 105, 103]⟩)))] (.cons (show InB (0) ((partsB 32 s).length) from ⟨by omega, by omega⟩) (.cons ((SlR.own hp13.get0).some (by omega)) (.cons (Ld.add0 (Ld.el1 (P := Tryd.prog) (t := 9) (SlR.own hp13.get0).rd 1 (fun _ => rfl) hy22 (o := 0) (v := .string ((partsB 32 s)[0]!)) (by kernel_rfl))) .nil))) fun b23 => ?_
   refine OPS.nil (thn_n ?_)
   exact ⟨decide (¬ (((partsB 32 s)[0]!) = ⟨#[99, 111, 110, 102, 105, 103]⟩)), trivial, Bp.of Bp.dec (by first | (simp [h17]; done) | grind | (simp_all; done)), by kernel_rfl, hp13⟩
  ·refine oP 0 [2, 5, 14] [pP g3, .slice a10 ((partsB 32 s).length) c12, .bool (decide (¬ ((((partsB 32 s).length : Nat) : Int) = 5)))] fun b18 => ?_
   refine OPS.re [pP g3, .slice a10 ((partsB 32 s).length) c12, bT] (by rw [show (decide (¬ ((((partsB 32 s).length : Nat) : Int) = 5))) = true from Bp.dec.tt h17]) ?_
   refine oQ 5 { wraps := [19] } [] [2, 5, 19] [pP g3, .slice a10 ((partsB 32 s).length) c12, bT] .nil fun b19 => ?_
   refine OPS.nil (thn_n ?_)
   exact ⟨true, trivial, Bp.of Bp.t (by first | (simp [h17]; done) | grind | (simp_all; done)), by kernel_rfl, hp13⟩
 rintro e26 w27 ⟨x24, hd29, hb25, hE30, hp28⟩
 obtain ⟨b31, rfl⟩ := toMk hE30
 clear hE30
 clear hd29
 refine WP.test (p := ((¬ ((((partsB 32 s).length : Nat) : Int) = 5))) ∨ (((((partsB 32 s).length : Nat) : Int) = 5) ∧ (¬ (((partsB 32 s)[0]!) = ⟨#[99, 111, 110, 102, 105, 103]⟩)))) rfl hb25 (fun h32 => ?_) (fun h32 => ?_)
 ·refine WP.seq (wR (oP 1 [2, 20] (qe0 g3) fun b33 => ?_))
  refine OPS.cons (opStep.store1 hp28 rfl [iI 0, iI 0, iI 0] [iI 0, iI 0, iI 0] (by kernel_rfl) (fun w34 hp35 => ?_))
  refine oP 2 [2, 3, 4] [pP g3, iI 0, iI 82] fun b36 => ?_
  refine OPS.nil (thn_n (WP.ret (thn_r ?_)))
  refine bodyQ.of _ rfl qe1 ⟨⟨_, rfl, (lN 43 0 [iI 0, iI 0, iI 0] hp35.get1)⟩, rfl, rfl, trivial⟩ ?_
  exact ⟨⟨0, 0, 0⟩, 0, 82, rfl, .inl ⟨conf_bad (fun q => by rcases h32 with h_ | ⟨_, h_⟩; exact h_ (by have := q.1; omega); exact h_ q.2.1), rfl, rfl, rfl⟩, hp35.fr⟩
 ·refine WP.skip (thn_n (WP.seq (WP.seq (wP [2, 5, 6] [pP g3, .slice a10 ((partsB 32 s).length) c12, iI 1] fun b37 => ?_))))
  refine thn_n (WP.block ?_)
  refine WP.rounds 5 ?_
  refine RND.step ?_
  refine WP.seq (WP.seq (wP [2, 5, 6, 22] [pP g3, .slice a10 ((partsB 32 s).length) c12, iI 1, bT] fun b38 => ?_))
  refine thn_n (WP.condT rfl (WP.skip (thn_n (WP.seq (WP.block (WP.seq ?_))))))
  have hp41 := hp28.drew
  refine WP.quiet (fun w39 => Hp w Non [Res.own 9 1 (.slice a10 ((partsB 32 s).length) c12) ((partsB 32 s).length) (List.flatMap strc (partsB 32 s)), Res.row g3 [iI 0, iI 0, iI 0] 43] w39) (by kernel_rfl) hp41 ?_
  have hnehp41 : ∃ wz_, (fun w39 => Hp w Non [Res.own 9 1 (.slice a10 ((partsB 32 s).length) c12) ((partsB 32 s).length) (List.flatMap strc (partsB 32 s)), Res.row g3 [iI 0, iI 0, iI 0] 43] w39) wz_ := ⟨_, hp41⟩
  have hy45 : ((partsB 32 s))[1]? = some (partsB 32 s)[1]! := get_bang (by first | (omega) | (simp only [List.length_append, List.length_cons, List.length_nil]; omega) | (simp only [List.length_take, List.length_append, List.length_cons, List.length_nil]; omega))
  refine QOPS.batch 4 {} [.string ((partsB 32 s)[1]!)] [2, 5, 6, 28] [pP g3, .slice a10 ((partsB 32 s).length) c12, iI 1, .string ((partsB 32 s)[1]!)] hnehp41 (fun w42 hp43 => QB.mk (.cons (show InB (1) ((partsB 32 s).length) from ⟨by omega, by omega⟩) (.cons ((SlR.own hp43.get0).some (by omega)) (.cons (Ld.add0 (Ld.el1 (P := Tryd.prog) (t := 9) (SlR.own hp43.get0).rd 1 (fun _ => rfl) hy45 (o := 0) (v := .string ((partsB 32 s)[1]!)) (by kernel_rfl))) .nil))) (by kernel_rfl)) (fun b46 => ?_)
  refine QOPS.call (some 29) [.string ((partsB 32 s)[1]!)] (by kernel_rfl) (fun w47 hp48 => (rf_number ((partsB 32 s)[1]!) (hwz _ (List.mem_of_getElem? (get_bang (by omega)))) _).mono fun _ _ h => ⟨h.1, hp48.step h.2⟩) ?_
  refine QOPS.call (some 30) [iI (numI ((partsB 32 s)[1]!))] (by kernel_rfl) (fun w51 hp52 => (rf_decimal (numI ((partsB 32 s)[1]!)) (numI_in _) _).mono fun _ _ h => ⟨h.1, hp52.step h.2⟩) ?_
  refine QOPS.batch 5 {} [.string ((partsB 32 s)[1]!)] [2, 5, 6, 35] [pP g3, .slice a10 ((partsB 32 s).length) c12, iI 1, .bool (decide (¬ ((itoaT (numI ((partsB 32 s)[1]!))) = ((partsB 32 s)[1]!))))] hnehp41 (fun w53 hp54 => QB.mk (.cons (show InB (1) ((partsB 32 s).length) from ⟨by omega, by omega⟩) (.cons ((SlR.own hp54.get0).some (by omega)) (.cons (Ld.add0 (Ld.el1 (P := Tryd.prog) (t := 9) (SlR.own hp54.get0).rd 1 (fun _ => rfl) hy45 (o := 0) (v := .string ((partsB 32 s)[1]!)) (by kernel_rfl))) .nil))) (by kernel_rfl)) (fun b55 => ?_)
  refine QOPS.nil (fun w56 hp57 => ?_)
  refine thn_n ?_
  refine WP.test (p := ¬ ((itoaT (numI ((partsB 32 s)[1]!))) = ((partsB 32 s)[1]!))) rfl Bp.dec (fun h58 => ?_) (fun h58 => ?_)
  ·refine WP.seq (wR (oP 1 [2, 36] (qe0 g3) fun b59 => ?_))
   refine OPS.cons (opStep.store1 hp57 rfl [iI 0, iI 0, iI 0] [iI 0, iI 0, iI 0] (by kernel_rfl) (fun w60 hp61 => ?_))
   refine oP 2 [2, 3, 4] [pP g3, iI 0, iI 82] fun b62 => ?_
   refine OPS.nil (thn_n (WP.ret ?_))
   refine blk_r ?_
   refine thn_r (thn_r ?_)
   refine blk_r ?_
   refine thn_r ?_
   refine bodyQ.of _ rfl qe1 ⟨⟨_, rfl, (lN 43 0 [iI 0, iI 0, iI 0] hp61.get1)⟩, rfl, rfl, trivial⟩ ?_
   exact ⟨⟨0, 0, 0⟩, 0, 82, rfl, .inl ⟨conf_bad (fun q => by exact h58 (q.2.2 1 (by omega) (by omega))), rfl, rfl, rfl⟩, hp61.fr⟩
  ·replace h58 := Classical.not_not.1 h58
   refine WP.skip (blk_n (thn_n (wQ {} [] [2, 5, 6] [pP g3, .slice a10 ((partsB 32 s).length) c12, iI 2] (.cons (show Rng .i64 (2) from Rng.i64 (by omega)) .nil) fun b63 => ?_)))
   refine thn_n ?_
   refine RND.step ?_
   refine WP.seq (WP.seq (wP [2, 5, 6, 22] [pP g3, .slice a10 ((partsB 32 s).length) c12, iI 2, bT] fun b64 => ?_))
   refine thn_n (WP.condT rfl (WP.skip (thn_n (WP.seq (WP.block (WP.seq ?_))))))
   have hp67 := hp57.drew
   refine WP.quiet (fun w65 => Hp w Non [Res.own 9 1 (.slice a10 ((partsB 32 s).length) c12) ((partsB 32 s).length) (List.flatMap strc (partsB 32 s)), Res.row g3 [iI 0, iI 0, iI 0] 43] w65) (by kernel_rfl) hp67 ?_
   have hnehp67 : ∃ wz_, (fun w65 => Hp w Non [Res.own 9 1 (.slice a10 ((partsB 32 s).length) c12) ((partsB 32 s).length) (List.flatMap strc (partsB 32 s)), Res.row g3 [iI 0, iI 0, iI 0] 43] w65) wz_ := ⟨_, hp67⟩
   have hy71 : ((partsB 32 s))[2]? = some (partsB 32 s)[2]! := get_bang (by first | (omega) | (simp only [List.length_append, List.length_cons, List.length_nil]; omega) | (simp only [List.length_take, List.length_append, List.length_cons, List.length_nil]; omega))
   refine QOPS.batch 4 {} [.string ((partsB 32 s)[2]!)] [2, 5, 6, 28] [pP g3, .slice a10 ((partsB 32 s).length) c12, iI 2, .string ((partsB 32 s)[2]!)] hnehp67 (fun w68 hp69 => QB.mk (.cons (show InB (2) ((partsB 32 s).length) from ⟨by omega, by omega⟩) (.cons ((SlR.own hp69.get0).some (by omega)) (.cons (Ld.add0 (Ld.el1 (P := Tryd.prog) (t := 9) (SlR.own hp69.get0).rd 1 (fun _ => rfl) hy71 (o := 0) (v := .string ((partsB 32 s)[2]!)) (by kernel_rfl))) .nil))) (by kernel_rfl)) (fun b72 => ?_)
   refine QOPS.call (some 29) [.string ((partsB 32 s)[2]!)] (by kernel_rfl) (fun w73 hp74 => (rf_number ((partsB 32 s)[2]!) (hwz _ (List.mem_of_getElem? (get_bang (by omega)))) _).mono fun _ _ h => ⟨h.1, hp74.step h.2⟩) ?_
   refine QOPS.call (some 30) [iI (numI ((partsB 32 s)[2]!))] (by kernel_rfl) (fun w77 hp78 => (rf_decimal (numI ((partsB 32 s)[2]!)) (numI_in _) _).mono fun _ _ h => ⟨h.1, hp78.step h.2⟩) ?_
   refine QOPS.batch 5 {} [.string ((partsB 32 s)[2]!)] [2, 5, 6, 35] [pP g3, .slice a10 ((partsB 32 s).length) c12, iI 2, .bool (decide (¬ ((itoaT (numI ((partsB 32 s)[2]!))) = ((partsB 32 s)[2]!))))] hnehp67 (fun w79 hp80 => QB.mk (.cons (show InB (2) ((partsB 32 s).length) from ⟨by omega, by omega⟩) (.cons ((SlR.own hp80.get0).some (by omega)) (.cons (Ld.add0 (Ld.el1 (P := Tryd.prog) (t := 9) (SlR.own hp80.get0).rd 1 (fun _ => rfl) hy71 (o := 0) (v := .string ((partsB 32 s)[2]!)) (by kernel_rfl))) .nil))) (by kernel_rfl)) (fun b81 => ?_)
   refine QOPS.nil (fun w82 hp83 => ?_)
   refine thn_n ?_
   refine WP.test (p := ¬ ((itoaT (numI ((partsB 32 s)[2]!))) = ((partsB 32 s)[2]!))) rfl Bp.dec (fun h84 => ?_) (fun h84 => ?_)
   ·refine WP.seq (wR (oP 1 [2, 36] (qe0 g3) fun b85 => ?_))
    refine OPS.cons (opStep.store1 hp83 rfl [iI 0, iI 0, iI 0] [iI 0, iI 0, iI 0] (by kernel_rfl) (fun w86 hp87 => ?_))
    refine oP 2 [2, 3, 4] [pP g3, iI 0, iI 82] fun b88 => ?_
    refine OPS.nil (thn_n (WP.ret ?_))
    refine blk_r ?_
    refine thn_r (thn_r ?_)
    refine blk_r ?_
    refine thn_r ?_
    refine bodyQ.of _ rfl qe1 ⟨⟨_, rfl, (lN 43 0 [iI 0, iI 0, iI 0] hp87.get1)⟩, rfl, rfl, trivial⟩ ?_
    exact ⟨⟨0, 0, 0⟩, 0, 82, rfl, .inl ⟨conf_bad (fun q => by exact h84 (q.2.2 2 (by omega) (by omega))), rfl, rfl, rfl⟩, hp87.fr⟩
   ·replace h84 := Classical.not_not.1 h84
    refine WP.skip (blk_n (thn_n (wQ {} [] [2, 5, 6] [pP g3, .slice a10 ((partsB 32 s).length) c12, iI 3] (.cons (show Rng .i64 (3) from Rng.i64 (by omega)) .nil) fun b89 => ?_)))
    refine thn_n ?_
    refine RND.step ?_
    refine WP.seq (WP.seq (wP [2, 5, 6, 22] [pP g3, .slice a10 ((partsB 32 s).length) c12, iI 3, bT] fun b90 => ?_))
    refine thn_n (WP.condT rfl (WP.skip (thn_n (WP.seq (WP.block (WP.seq ?_))))))
    have hp93 := hp83.drew
    refine WP.quiet (fun w91 => Hp w Non [Res.own 9 1 (.slice a10 ((partsB 32 s).length) c12) ((partsB 32 s).length) (List.flatMap strc (partsB 32 s)), Res.row g3 [iI 0, iI 0, iI 0] 43] w91) (by kernel_rfl) hp93 ?_
    have hnehp93 : ∃ wz_, (fun w91 => Hp w Non [Res.own 9 1 (.slice a10 ((partsB 32 s).length) c12) ((partsB 32 s).length) (List.flatMap strc (partsB 32 s)), Res.row g3 [iI 0, iI 0, iI 0] 43] w91) wz_ := ⟨_, hp93⟩
    have hy97 : ((partsB 32 s))[3]? = some (partsB 32 s)[3]! := get_bang (by first | (omega) | (simp only [List.length_append, List.length_cons, List.length_nil]; omega) | (simp only [List.length_take, List.length_append, List.length_cons, List.length_nil]; omega))
    refine QOPS.batch 4 {} [.string ((partsB 32 s)[3]!)] [2, 5, 6, 28] [pP g3, .slice a10 ((partsB 32 s).length) c12, iI 3, .string ((partsB 32 s)[3]!)] hnehp93 (fun w94 hp95 => QB.mk (.cons (show InB (3) ((partsB 32 s).length) from ⟨by omega, by omega⟩) (.cons ((SlR.own hp95.get0).some (by omega)) (.cons (Ld.add0 (Ld.el1 (P := Tryd.prog) (t := 9) (SlR.own hp95.get0).rd 1 (fun _ => rfl) hy97 (o := 0) (v := .string ((partsB 32 s)[3]!)) (by kernel_rfl))) .nil))) (by kernel_rfl)) (fun b98 => ?_)
    refine QOPS.call (some 29) [.string ((partsB 32 s)[3]!)] (by kernel_rfl) (fun w99 hp100 => (rf_number ((partsB 32 s)[3]!) (hwz _ (List.mem_of_getElem? (get_bang (by omega)))) _).mono fun _ _ h => ⟨h.1, hp100.step h.2⟩) ?_
    refine QOPS.call (some 30) [iI (numI ((partsB 32 s)[3]!))] (by kernel_rfl) (fun w103 hp104 => (rf_decimal (numI ((partsB 32 s)[3]!)) (numI_in _) _).mono fun _ _ h => ⟨h.1, hp104.step h.2⟩) ?_
    refine QOPS.batch 5 {} [.string ((partsB 32 s)[3]!)] [2, 5, 6, 35] [pP g3, .slice a10 ((partsB 32 s).length) c12, iI 3, .bool (decide (¬ ((itoaT (numI ((partsB 32 s)[3]!))) = ((partsB 32 s)[3]!))))] hnehp93 (fun w105 hp106 => QB.mk (.cons (show InB (3) ((partsB 32 s).length) from ⟨by omega, by omega⟩) (.cons ((SlR.own hp106.get0).some (by omega)) (.cons (Ld.add0 (Ld.el1 (P := Tryd.prog) (t := 9) (SlR.own hp106.get0).rd 1 (fun _ => rfl) hy97 (o := 0) (v := .string ((partsB 32 s)[3]!)) (by kernel_rfl))) .nil))) (by kernel_rfl)) (fun b107 => ?_)
    refine QOPS.nil (fun w108 hp109 => ?_)
    refine thn_n ?_
    refine WP.test (p := ¬ ((itoaT (numI ((partsB 32 s)[3]!))) = ((partsB 32 s)[3]!))) rfl Bp.dec (fun h110 => ?_) (fun h110 => ?_)
    ·refine WP.seq (wR (oP 1 [2, 36] (qe0 g3) fun b111 => ?_))
     refine OPS.cons (opStep.store1 hp109 rfl [iI 0, iI 0, iI 0] [iI 0, iI 0, iI 0] (by kernel_rfl) (fun w112 hp113 => ?_))
     refine oP 2 [2, 3, 4] [pP g3, iI 0, iI 82] fun b114 => ?_
     refine OPS.nil (thn_n (WP.ret ?_))
     refine blk_r ?_
     refine thn_r (thn_r ?_)
     refine blk_r ?_
     refine thn_r ?_
     refine bodyQ.of _ rfl qe1 ⟨⟨_, rfl, (lN 43 0 [iI 0, iI 0, iI 0] hp113.get1)⟩, rfl, rfl, trivial⟩ ?_
     exact ⟨⟨0, 0, 0⟩, 0, 82, rfl, .inl ⟨conf_bad (fun q => by exact h110 (q.2.2 3 (by omega) (by omega))), rfl, rfl, rfl⟩, hp113.fr⟩
    ·replace h110 := Classical.not_not.1 h110
     refine WP.skip (blk_n (thn_n (wQ {} [] [2, 5, 6] [pP g3, .slice a10 ((partsB 32 s).length) c12, iI 4] (.cons (show Rng .i64 (4) from Rng.i64 (by omega)) .nil) fun b115 => ?_)))
     refine thn_n ?_
     refine RND.step ?_
     refine WP.seq (WP.seq (wP [2, 5, 6, 22] [pP g3, .slice a10 ((partsB 32 s).length) c12, iI 4, bT] fun b116 => ?_))
     refine thn_n (WP.condT rfl (WP.skip (thn_n (WP.seq (WP.block (WP.seq ?_))))))
     have hp119 := hp109.drew
     refine WP.quiet (fun w117 => Hp w Non [Res.own 9 1 (.slice a10 ((partsB 32 s).length) c12) ((partsB 32 s).length) (List.flatMap strc (partsB 32 s)), Res.row g3 [iI 0, iI 0, iI 0] 43] w117) (by kernel_rfl) hp119 ?_
     have hnehp119 : ∃ wz_, (fun w117 => Hp w Non [Res.own 9 1 (.slice a10 ((partsB 32 s).length) c12) ((partsB 32 s).length) (List.flatMap strc (partsB 32 s)), Res.row g3 [iI 0, iI 0, iI 0] 43] w117) wz_ := ⟨_, hp119⟩
     have hy123 : ((partsB 32 s))[4]? = some (partsB 32 s)[4]! := get_bang (by first | (omega) | (simp only [List.length_append, List.length_cons, List.length_nil]; omega) | (simp only [List.length_take, List.length_append, List.length_cons, List.length_nil]; omega))
     refine QOPS.batch 4 {} [.string ((partsB 32 s)[4]!)] [2, 5, 6, 28] [pP g3, .slice a10 ((partsB 32 s).length) c12, iI 4, .string ((partsB 32 s)[4]!)] hnehp119 (fun w120 hp121 => QB.mk (.cons (show InB (4) ((partsB 32 s).length) from ⟨by omega, by omega⟩) (.cons ((SlR.own hp121.get0).some (by omega)) (.cons (Ld.add0 (Ld.el1 (P := Tryd.prog) (t := 9) (SlR.own hp121.get0).rd 1 (fun _ => rfl) hy123 (o := 0) (v := .string ((partsB 32 s)[4]!)) (by kernel_rfl))) .nil))) (by kernel_rfl)) (fun b124 => ?_)
     refine QOPS.call (some 29) [.string ((partsB 32 s)[4]!)] (by kernel_rfl) (fun w125 hp126 => (rf_number ((partsB 32 s)[4]!) (hwz _ (List.mem_of_getElem? (get_bang (by omega)))) _).mono fun _ _ h => ⟨h.1, hp126.step h.2⟩) ?_
     refine QOPS.call (some 30) [iI (numI ((partsB 32 s)[4]!))] (by kernel_rfl) (fun w129 hp130 => (rf_decimal (numI ((partsB 32 s)[4]!)) (numI_in _) _).mono fun _ _ h => ⟨h.1, hp130.step h.2⟩) ?_
     refine QOPS.batch 5 {} [.string ((partsB 32 s)[4]!)] [2, 5, 6, 35] [pP g3, .slice a10 ((partsB 32 s).length) c12, iI 4, .bool (decide (¬ ((itoaT (numI ((partsB 32 s)[4]!))) = ((partsB 32 s)[4]!))))] hnehp119 (fun w131 hp132 => QB.mk (.cons (show InB (4) ((partsB 32 s).length) from ⟨by omega, by omega⟩) (.cons ((SlR.own hp132.get0).some (by omega)) (.cons (Ld.add0 (Ld.el1 (P := Tryd.prog) (t := 9) (SlR.own hp132.get0).rd 1 (fun _ => rfl) hy123 (o := 0) (v := .string ((partsB 32 s)[4]!)) (by kernel_rfl))) .nil))) (by kernel_rfl)) (fun b133 => ?_)
     refine QOPS.nil (fun w134 hp135 => ?_)
     refine thn_n ?_
     refine WP.test (p := ¬ ((itoaT (numI ((partsB 32 s)[4]!))) = ((partsB 32 s)[4]!))) rfl Bp.dec (fun h136 => ?_) (fun h136 => ?_)
     ·refine WP.seq (wR (oP 1 [2, 36] (qe0 g3) fun b137 => ?_))
      refine OPS.cons (opStep.store1 hp135 rfl [iI 0, iI 0, iI 0] [iI 0, iI 0, iI 0] (by kernel_rfl) (fun w138 hp139 => ?_))
      refine oP 2 [2, 3, 4] [pP g3, iI 0, iI 82] fun b140 => ?_
      refine OPS.nil (thn_n (WP.ret ?_))
      refine blk_r ?_
      refine thn_r (thn_r ?_)
      refine blk_r ?_
      refine thn_r ?_
      refine bodyQ.of _ rfl qe1 ⟨⟨_, rfl, (lN 43 0 [iI 0, iI 0, iI 0] hp139.get1)⟩, rfl, rfl, trivial⟩ ?_
      exact ⟨⟨0, 0, 0⟩, 0, 82, rfl, .inl ⟨conf_bad (fun q => by exact h136 (q.2.2 4 (by omega) (by omega))), rfl, rfl, rfl⟩, hp139.fr⟩
     ·replace h136 := Classical.not_not.1 h136
      refine WP.skip (blk_n (thn_n (wQ {} [] [2, 5, 6] [pP g3, .slice a10 ((partsB 32 s).length) c12, iI 5] (.cons (show Rng .i64 (5) from Rng.i64 (by omega)) .nil) fun b141 => ?_)))
      refine thn_n ?_
      refine RND.step ?_
      refine WP.seq (WP.seq (wP [2, 5, 6, 22] [pP g3, .slice a10 ((partsB 32 s).length) c12, iI 5, bF] fun b142 => ?_))
      refine thn_n (WP.condF rfl (WP.exit (thn_x (thn_x (blk_hit (thn_n (WP.seq ?_)))))))
      have hp143 := hp135.drew
      refine WP.tree (fun w144 => Ld Tryd.prog w144 9 ((adr a10).add (1 * 1)) (.string ((partsB 32 s)[1]!)) ∧ Ld Tryd.prog w144 9 ((adr a10).add (2 * 1)) (.string ((partsB 32 s)[2]!)) ∧ Ld Tryd.prog w144 9 ((adr a10).add (3 * 1)) (.string ((partsB 32 s)[3]!)) ∧ True) [] 15 (np_thn np_body) (by kernel_rfl) ?_
      refine HT.pre (l := [(0, true), (1, true), (2, true), (4, true), (5, true), (6, true), (8, true), (9, true), (10, true)]) (n := 6) (by kernel_rfl) ?_
      refine hQ 9 {} [.string ((partsB 32 s)[1]!), .string ((partsB 32 s)[2]!), .string ((partsB 32 s)[3]!)] [2, 5, 39, 43, 47] [pP g3, .slice a10 ((partsB 32 s).length) c12, .string ((partsB 32 s)[1]!), .string ((partsB 32 s)[2]!), .string ((partsB 32 s)[3]!)] ⟨(show Ld Tryd.prog w134.drew 9 ((adr a10).add (1 * 1)) (.string ((partsB 32 s)[1]!)) from (Ld.add0 (Ld.el1 (P := Tryd.prog) (t := 9) (SlR.own hp143.get0).rd 1 (fun _ => rfl) hy45 (o := 0) (v := .string ((partsB 32 s)[1]!)) (by kernel_rfl)))), (show Ld Tryd.prog w134.drew 9 ((adr a10).add (2 * 1)) (.string ((partsB 32 s)[2]!)) from (Ld.add0 (Ld.el1 (P := Tryd.prog) (t := 9) (SlR.own hp143.get0).rd 1 (fun _ => rfl) hy71 (o := 0) (v := .string ((partsB 32 s)[2]!)) (by kernel_rfl)))), (show Ld Tryd.prog w134.drew 9 ((adr a10).add (3 * 1)) (.string ((partsB 32 s)[3]!)) from (Ld.add0 (Ld.el1 (P := Tryd.prog) (t := 9) (SlR.own hp143.get0).rd 1 (fun _ => rfl) hy97 (o := 0) (v := .string ((partsB 32 s)[3]!)) (by kernel_rfl)))), trivial⟩ (fun w145 hS146 => (.cons (show InB (1) ((partsB 32 s).length) from ⟨by omega, by omega⟩) (.cons ((SlR.own hp143.get0).some (by omega)) (.cons (hS146.1) (.cons (show InB (2) ((partsB 32 s).length) from ⟨by omega, by omega⟩) (.cons ((SlR.own hp143.get0).some (by omega)) (.cons (hS146.2.1) (.cons (show InB (3) ((partsB 32 s).length) from ⟨by omega, by omega⟩) (.cons ((SlR.own hp143.get0).some (by omega)) (.cons (hS146.2.2.1) .nil)))))))))) fun b147 => ?_
      refine HOPS.nil (QN.n ?_)
      refine HT.br (n := 5) [3, 13] (by kernel_rfl) (by simp) ?_
      refine AllR.cons _ rfl ?_ ?_
      ·refine (opStep.call (some 40) [.string ((partsB 32 s)[1]!)] (by kernel_rfl) (rf_number ((partsB 32 s)[1]!) (hwz _ (List.mem_of_getElem? (get_bang (by omega)))) _) ?_)
       rintro _ w150 ⟨rfl, hf151⟩
       refine ⟨_, rfl, ?_⟩
       have hp152 := hp143.step hf151
       refine ⟨.inr ⟨(show Ld Tryd.prog w150 9 ((adr a10).add (1 * 1)) (.string ((partsB 32 s)[1]!)) from (Ld.add0 (Ld.el1 (P := Tryd.prog) (t := 9) (SlR.own hp152.get0).rd 1 (fun _ => rfl) hy45 (o := 0) (v := .string ((partsB 32 s)[1]!)) (by kernel_rfl)))), (show Ld Tryd.prog w150 9 ((adr a10).add (2 * 1)) (.string ((partsB 32 s)[2]!)) from (Ld.add0 (Ld.el1 (P := Tryd.prog) (t := 9) (SlR.own hp152.get0).rd 1 (fun _ => rfl) hy71 (o := 0) (v := .string ((partsB 32 s)[2]!)) (by kernel_rfl)))), (show Ld Tryd.prog w150 9 ((adr a10).add (3 * 1)) (.string ((partsB 32 s)[3]!)) from (Ld.add0 (Ld.el1 (P := Tryd.prog) (t := 9) (SlR.own hp152.get0).rd 1 (fun _ => rfl) hy97 (o := 0) (v := .string ((partsB 32 s)[3]!)) (by kernel_rfl)))), trivial⟩, ?_⟩
       refine HT.br (n := 4) [7, 13] (by kernel_rfl) (by simp) ?_
       refine AllR.cons _ rfl ?_ ?_
       ·refine (opStep.call (some 44) [.string ((partsB 32 s)[2]!)] (by kernel_rfl) (rf_number ((partsB 32 s)[2]!) (hwz _ (List.mem_of_getElem? (get_bang (by omega)))) _) ?_)
        rintro _ w155 ⟨rfl, hf156⟩
        refine ⟨_, rfl, ?_⟩
        have hp157 := hp152.step hf156
        refine ⟨.inr ⟨(show Ld Tryd.prog w155 9 ((adr a10).add (1 * 1)) (.string ((partsB 32 s)[1]!)) from (Ld.add0 (Ld.el1 (P := Tryd.prog) (t := 9) (SlR.own hp157.get0).rd 1 (fun _ => rfl) hy45 (o := 0) (v := .string ((partsB 32 s)[1]!)) (by kernel_rfl)))), (show Ld Tryd.prog w155 9 ((adr a10).add (2 * 1)) (.string ((partsB 32 s)[2]!)) from (Ld.add0 (Ld.el1 (P := Tryd.prog) (t := 9) (SlR.own hp157.get0).rd 1 (fun _ => rfl) hy71 (o := 0) (v := .string ((partsB 32 s)[2]!)) (by kernel_rfl)))), (show Ld Tryd.prog w155 9 ((adr a10).add (3 * 1)) (.string ((partsB 32 s)[3]!)) from (Ld.add0 (Ld.el1 (P := Tryd.prog) (t := 9) (SlR.own hp157.get0).rd 1 (fun _ => rfl) hy97 (o := 0) (v := .string ((partsB 32 s)[3]!)) (by kernel_rfl)))), trivial⟩, ?_⟩
        refine HT.br (n := 3) [11, 13] (by kernel_rfl) (by simp) ?_
        refine AllR.cons _ rfl ?_ ?_
        ·refine (opStep.call (some 48) [.string ((partsB 32 s)[3]!)] (by kernel_rfl) (rf_number ((partsB 32 s)[3]!) (hwz _ (List.mem_of_getElem? (get_bang (by omega)))) _) ?_)
         rintro _ w160 ⟨rfl, hf161⟩
         refine ⟨_, rfl, ?_⟩
         have hp162 := hp157.step hf161
         refine ⟨.inr ⟨(show Ld Tryd.prog w160 9 ((adr a10).add (1 * 1)) (.string ((partsB 32 s)[1]!)) from (Ld.add0 (Ld.el1 (P := Tryd.prog) (t := 9) (SlR.own hp162.get0).rd 1 (fun _ => rfl) hy45 (o := 0) (v := .string ((partsB 32 s)[1]!)) (by kernel_rfl)))), (show Ld Tryd.prog w160 9 ((adr a10).add (2 * 1)) (.string ((partsB 32 s)[2]!)) from (Ld.add0 (Ld.el1 (P := Tryd.prog) (t := 9) (SlR.own hp162.get0).rd 1 (fun _ => rfl) hy71 (o := 0) (v := .string ((partsB 32 s)[2]!)) (by kernel_rfl)))), (show Ld Tryd.prog w160 9 ((adr a10).add (3 * 1)) (.string ((partsB 32 s)[3]!)) from (Ld.add0 (Ld.el1 (P := Tryd.prog) (t := 9) (SlR.own hp162.get0).rd 1 (fun _ => rfl) hy97 (o := 0) (v := .string ((partsB 32 s)[3]!)) (by kernel_rfl)))), trivial⟩, ?_⟩
         refine HT.pre (l := [(12, true)]) (n := 2) (by kernel_rfl) ?_
         refine hP 1 [2, 5, 49] [pP g3, .slice a10 ((partsB 32 s).length) c12, .agg #[iI (numI ((partsB 32 s)[1]!)), iI (numI ((partsB 32 s)[2]!)), iI (numI ((partsB 32 s)[3]!))]] ⟨(show Ld Tryd.prog w160 9 ((adr a10).add (1 * 1)) (.string ((partsB 32 s)[1]!)) from (Ld.add0 (Ld.el1 (P := Tryd.prog) (t := 9) (SlR.own hp162.get0).rd 1 (fun _ => rfl) hy45 (o := 0) (v := .string ((partsB 32 s)[1]!)) (by kernel_rfl)))), (show Ld Tryd.prog w160 9 ((adr a10).add (2 * 1)) (.string ((partsB 32 s)[2]!)) from (Ld.add0 (Ld.el1 (P := Tryd.prog) (t := 9) (SlR.own hp162.get0).rd 1 (fun _ => rfl) hy71 (o := 0) (v := .string ((partsB 32 s)[2]!)) (by kernel_rfl)))), (show Ld Tryd.prog w160 9 ((adr a10).add (3 * 1)) (.string ((partsB 32 s)[3]!)) from (Ld.add0 (Ld.el1 (P := Tryd.prog) (t := 9) (SlR.own hp162.get0).rd 1 (fun _ => rfl) hy97 (o := 0) (v := .string ((partsB 32 s)[3]!)) (by kernel_rfl)))), trivial⟩ fun b165 => ?_
         refine HOPS.nil (QN.n ?_)
         refine HT.br (n := 1) [13] (by kernel_rfl) (by simp) ?_
         refine AllR.cons _ rfl ?_ AllR.nil
         refine (opStep.alloc hp162 [iI 0, iI 0, iI 0] (by kernel_rfl) (fun g168 w166 hp167 => ?_))
         refine ⟨.inr ⟨(show Ld Tryd.prog w166 9 ((adr a10).add (1 * 1)) (.string ((partsB 32 s)[1]!)) from (Ld.add0 (Ld.el1 (P := Tryd.prog) (t := 9) (SlR.own hp167.get1).rd 1 (fun _ => rfl) hy45 (o := 0) (v := .string ((partsB 32 s)[1]!)) (by kernel_rfl)))), (show Ld Tryd.prog w166 9 ((adr a10).add (2 * 1)) (.string ((partsB 32 s)[2]!)) from (Ld.add0 (Ld.el1 (P := Tryd.prog) (t := 9) (SlR.own hp167.get1).rd 1 (fun _ => rfl) hy71 (o := 0) (v := .string ((partsB 32 s)[2]!)) (by kernel_rfl)))), (show Ld Tryd.prog w166 9 ((adr a10).add (3 * 1)) (.string ((partsB 32 s)[3]!)) from (Ld.add0 (Ld.el1 (P := Tryd.prog) (t := 9) (SlR.own hp167.get1).rd 1 (fun _ => rfl) hy97 (o := 0) (v := .string ((partsB 32 s)[3]!)) (by kernel_rfl)))), trivial⟩, ?_⟩
         refine HT.br (n := 0) [14] (by kernel_rfl) (by simp) ?_
         refine AllR.cons _ rfl ?_ AllR.nil
         refine (opStep.store0 hp167 rfl [iI (numI ((partsB 32 s)[1]!)), iI (numI ((partsB 32 s)[2]!)), iI (numI ((partsB 32 s)[3]!))] [iI (numI ((partsB 32 s)[1]!)), iI (numI ((partsB 32 s)[2]!)), iI (numI ((partsB 32 s)[3]!))] (by kernel_rfl) (fun w169 hp170 => ?_))
         refine ⟨.inr ⟨(show Ld Tryd.prog w169 9 ((adr a10).add (1 * 1)) (.string ((partsB 32 s)[1]!)) from (Ld.add0 (Ld.el1 (P := Tryd.prog) (t := 9) (SlR.own hp170.get1).rd 1 (fun _ => rfl) hy45 (o := 0) (v := .string ((partsB 32 s)[1]!)) (by kernel_rfl)))), (show Ld Tryd.prog w169 9 ((adr a10).add (2 * 1)) (.string ((partsB 32 s)[2]!)) from (Ld.add0 (Ld.el1 (P := Tryd.prog) (t := 9) (SlR.own hp170.get1).rd 1 (fun _ => rfl) hy71 (o := 0) (v := .string ((partsB 32 s)[2]!)) (by kernel_rfl)))), (show Ld Tryd.prog w169 9 ((adr a10).add (3 * 1)) (.string ((partsB 32 s)[3]!)) from (Ld.add0 (Ld.el1 (P := Tryd.prog) (t := 9) (SlR.own hp170.get1).rd 1 (fun _ => rfl) hy97 (o := 0) (v := .string ((partsB 32 s)[3]!)) (by kernel_rfl)))), trivial⟩, ?_⟩
         refine HT.done (by kernel_rfl) ?_
         refine thn_n (WP.seq (WP.seq (wR (oQ 1 {} [.agg #[iI (numI ((partsB 32 s)[1]!)), iI (numI ((partsB 32 s)[2]!)), iI (numI ((partsB 32 s)[3]!))]] [2, 5, 7, 50] [pP g3, .slice a10 ((partsB 32 s).length) c12, pP g168, .agg #[iI (numI ((partsB 32 s)[1]!)), iI (numI ((partsB 32 s)[2]!)), iI (numI ((partsB 32 s)[3]!))]] (.cons (lN 43 0 [iI (numI ((partsB 32 s)[1]!)), iI (numI ((partsB 32 s)[2]!)), iI (numI ((partsB 32 s)[3]!))] hp170.get0) .nil) fun b171 => ?_))))
         refine OPS.cons (opStep.call (some 51) [.agg #[iI (numI ((partsB 32 s)[1]!)), iI (numI ((partsB 32 s)[2]!)), iI (numI ((partsB 32 s)[3]!))]] (by kernel_rfl) (r9_Check (⟨numI ((partsB 32 s)[1]!), numI ((partsB 32 s)[2]!), numI ((partsB 32 s)[3]!)⟩ : GConfig) _) ?_)
         rintro _ w174 ⟨rfl, hf175⟩
         refine ⟨_, rfl, ?_⟩
         have hp176 := hp170.step hf175
         refine oP 1 [2, 5, 7, 52] [pP g3, .slice a10 ((partsB 32 s).length) c12, pP g168, .bool (decide (¬ ((qChk (⟨numI ((partsB 32 s)[1]!), numI ((partsB 32 s)[2]!), numI ((partsB 32 s)[3]!)⟩ : GConfig)) = 0)))] fun b177 => ?_
         refine OPS.nil (thn_n ?_)
         refine WP.test (p := ¬ ((qChk (⟨numI ((partsB 32 s)[1]!), numI ((partsB 32 s)[2]!), numI ((partsB 32 s)[3]!)⟩ : GConfig)) = 0)) rfl Bp.dec (fun h178 => ?_) (fun h178 => ?_)
         ·refine WP.seq (wR (oP 1 [2, 53] (qe0 g3) fun b179 => ?_))
          refine OPS.cons (opStep.store2 hp176 rfl [iI 0, iI 0, iI 0] [iI 0, iI 0, iI 0] (by kernel_rfl) (fun w180 hp181 => ?_))
          refine oP 2 [2, 3, 4] [pP g3, iI 0, iI 40] fun b182 => ?_
          refine OPS.nil (thn_n (WP.ret (thn_r ?_)))
          refine bodyQ.of _ rfl qe2 ⟨⟨_, rfl, (lN 43 0 [iI 0, iI 0, iI 0] hp181.get2)⟩, rfl, rfl, trivial⟩ ?_
          have g0 : (partsB 32 s).length = 5 := Classical.byContradiction fun q => h32 (.inl (fun z => q (by omega)))
          have g1 : (partsB 32 s)[0]! = wCfg := Classical.byContradiction fun q => h32 (.inr ⟨by omega, q⟩)
          have gs := conf_good g0 g1 h58 h84 h110 h136
          exact ⟨⟨0, 0, 0⟩, 0, 40, rfl, .inr ⟨_, _, _, _, numI_in _, numI_in _, numI_in _, numI_in _, gs, .inl ⟨fun q => h178 (qChk_ok q), rfl, rfl, rfl⟩⟩, hp181.fr⟩
         ·replace h178 := Classical.not_not.1 h178
          refine WP.skip (thn_n (WP.seq (wR (oQ 3 {} [.string ((partsB 32 s)[4]!)] [2, 7, 56] [pP g3, pP g168, .string ((partsB 32 s)[4]!)] (.cons (show InB (4) ((partsB 32 s).length) from ⟨by omega, by omega⟩) (.cons ((SlR.own hp176.get1).some (by omega)) (.cons (Ld.add0 (Ld.el1 (P := Tryd.prog) (t := 9) (SlR.own hp176.get1).rd 1 (fun _ => rfl) hy123 (o := 0) (v := .string ((partsB 32 s)[4]!)) (by kernel_rfl))) .nil))) fun b183 => ?_))))
          refine OPS.cons (opStep.call (some 57) [.string ((partsB 32 s)[4]!)] (by kernel_rfl) (rf_number ((partsB 32 s)[4]!) (hwz _ (List.mem_of_getElem? (get_bang (by omega)))) _) ?_)
          rintro _ w186 ⟨rfl, hf187⟩
          refine ⟨_, rfl, ?_⟩
          have hp188 := hp176.step hf187
          refine oP 1 [2, 7, 8] [pP g3, pP g168, iI (numI ((partsB 32 s)[4]!))] fun b189 => ?_
          refine OPS.nil (thn_n (WP.seq ?_))
          refine WP.cut (fun e199 w200 => ∃ (x197 : Bool), (True) ∧ Bp x197 ((((numI ((partsB 32 s)[4]!)) < 0)) ∨ ((¬ ((numI ((partsB 32 s)[4]!)) < 0)) ∧ (255 < (numI ((partsB 32 s)[4]!))))) ∧ List.map e199 [2, 7, 8, 63] = [pP g3, pP g168, iI (numI ((partsB 32 s)[4]!)), .bool x197] ∧ Hp w Non [Res.row g168 [iI (numI ((partsB 32 s)[1]!)), iI (numI ((partsB 32 s)[2]!)), iI (numI ((partsB 32 s)[3]!))] 43, Res.own 9 1 (.slice a10 ((partsB 32 s).length) c12) ((partsB 32 s).length) (List.flatMap strc (partsB 32 s)), Res.row g3 [iI 0, iI 0, iI 0] 43] w200) ?_ ?_
          ·refine wR (oP 3 [2, 7, 8, 60] [pP g3, pP g168, iI (numI ((partsB 32 s)[4]!)), .bool (decide ((numI ((partsB 32 s)[4]!)) < 0))] fun b191 => ?_)
           by_cases h192 : (numI ((partsB 32 s)[4]!)) < 0
           ·refine oP 0 [2, 7, 8, 60] [pP g3, pP g168, iI (numI ((partsB 32 s)[4]!)), .bool (decide ((numI ((partsB 32 s)[4]!)) < 0))] fun b193 => ?_
            refine OPS.re [pP g3, pP g168, iI (numI ((partsB 32 s)[4]!)), bT] (by rw [show (decide ((numI ((partsB 32 s)[4]!)) < 0)) = true from Bp.dec.tt h192]) ?_
            refine oQ 3 { wraps := [63] } [] [2, 7, 8, 63] [pP g3, pP g168, iI (numI ((partsB 32 s)[4]!)), bT] .nil fun b194 => ?_
            refine OPS.nil (thn_n ?_)
            exact ⟨true, trivial, Bp.of Bp.t (by first | (simp [h192]; done) | grind | (simp_all; done)), by kernel_rfl, hp188⟩
           ·refine oP 0 [2, 7, 8, 60] [pP g3, pP g168, iI (numI ((partsB 32 s)[4]!)), .bool (decide ((numI ((partsB 32 s)[4]!)) < 0))] fun b195 => ?_
            refine OPS.re [pP g3, pP g168, iI (numI ((partsB 32 s)[4]!)), bF] (by rw [show (decide ((numI ((partsB 32 s)[4]!)) < 0)) = false from Bp.dec.ff h192]) ?_
            refine oQ 3 { wraps := [63] } [] [2, 7, 8, 63] [pP g3, pP g168, iI (numI ((partsB 32 s)[4]!)), .bool (decide (255 < (numI ((partsB 32 s)[4]!))))] .nil fun b196 => ?_
            refine OPS.nil (thn_n ?_)
            exact ⟨decide (255 < (numI ((partsB 32 s)[4]!))), trivial, Bp.of Bp.dec (by first | (simp [h192]; done) | grind | (simp_all; done)), by kernel_rfl, hp188⟩
          rintro e199 w200 ⟨x197, hd202, hb198, hE203, hp201⟩
          obtain ⟨b204, rfl⟩ := toMk hE203
          clear hE203
          clear hd202
          refine WP.test (p := (((numI ((partsB 32 s)[4]!)) < 0)) ∨ ((¬ ((numI ((partsB 32 s)[4]!)) < 0)) ∧ (255 < (numI ((partsB 32 s)[4]!))))) rfl hb198 (fun h205 => ?_) (fun h205 => ?_)
          ·refine WP.seq (wR (oP 1 [2, 64] (qe0 g3) fun b206 => ?_))
           refine OPS.cons (opStep.store2 hp201 rfl [iI 0, iI 0, iI 0] [iI 0, iI 0, iI 0] (by kernel_rfl) (fun w207 hp208 => ?_))
           refine oP 2 [2, 3, 4] [pP g3, iI 0, iI 1] fun b209 => ?_
           refine OPS.nil (thn_n (WP.ret (thn_r ?_)))
           refine bodyQ.of _ rfl qe3 ⟨⟨_, rfl, (lN 43 0 [iI 0, iI 0, iI 0] hp208.get2)⟩, rfl, rfl, trivial⟩ ?_
           have g0 : (partsB 32 s).length = 5 := Classical.byContradiction fun q => h32 (.inl (fun z => q (by omega)))
           have g1 : (partsB 32 s)[0]! = wCfg := Classical.byContradiction fun q => h32 (.inr ⟨by omega, q⟩)
           have gs := conf_good g0 g1 h58 h84 h110 h136
           have hok : okCfg ⟨(numI ((partsB 32 s)[1]!)), (numI ((partsB 32 s)[2]!)), (numI ((partsB 32 s)[3]!))⟩ := Classical.byContradiction fun q => absurd ((qChk_no q).symm.trans h178) (by decide)
           exact ⟨⟨0, 0, 0⟩, 0, 1, rfl, .inr ⟨_, _, _, _, numI_in _, numI_in _, numI_in _, numI_in _, gs, .inr (.inl ⟨hok, by omega, rfl, rfl, rfl⟩)⟩, hp208.fr⟩
          ·refine WP.skip (thn_n (WP.seq (wR (oQ 2 {} [.agg #[iI (numI ((partsB 32 s)[1]!)), iI (numI ((partsB 32 s)[2]!)), iI (numI ((partsB 32 s)[3]!))]] [2, 65, 66] [pP g3, .agg #[iI (numI ((partsB 32 s)[1]!)), iI (numI ((partsB 32 s)[2]!)), iI (numI ((partsB 32 s)[3]!))], iI (numI ((partsB 32 s)[4]!))] (.cons (lN 43 0 [iI (numI ((partsB 32 s)[1]!)), iI (numI ((partsB 32 s)[2]!)), iI (numI ((partsB 32 s)[3]!))] hp201.get0) .nil) fun b210 => ?_))))
           refine OPS.cons (opStep.store2 hp201 rfl [iI (numI ((partsB 32 s)[1]!)), iI (numI ((partsB 32 s)[2]!)), iI (numI ((partsB 32 s)[3]!))] [iI (numI ((partsB 32 s)[1]!)), iI (numI ((partsB 32 s)[2]!)), iI (numI ((partsB 32 s)[3]!))] (by kernel_rfl) (fun w211 hp212 => ?_))
           refine oP 2 [2, 3, 4] [pP g3, iI (numI ((partsB 32 s)[4]!)), iI 0] fun b213 => ?_
           refine OPS.nil (thn_n (WP.ret ?_))
           refine bodyQ.of _ rfl [.agg #[iI (numI ((partsB 32 s)[1]!)), iI (numI ((partsB 32 s)[2]!)), iI (numI ((partsB 32 s)[3]!))], iI (numI ((partsB 32 s)[4]!)), iI 0] ⟨⟨_, rfl, (lN 43 0 [iI (numI ((partsB 32 s)[1]!)), iI (numI ((partsB 32 s)[2]!)), iI (numI ((partsB 32 s)[3]!))] hp212.get2)⟩, rfl, rfl, trivial⟩ ?_
           have g0 : (partsB 32 s).length = 5 := Classical.byContradiction fun q => h32 (.inl (fun z => q (by omega)))
           have g1 : (partsB 32 s)[0]! = wCfg := Classical.byContradiction fun q => h32 (.inr ⟨by omega, q⟩)
           have gs := conf_good g0 g1 h58 h84 h110 h136
           have hok : okCfg ⟨(numI ((partsB 32 s)[1]!)), (numI ((partsB 32 s)[2]!)), (numI ((partsB 32 s)[3]!))⟩ := Classical.byContradiction fun q => absurd ((qChk_no q).symm.trans h178) (by decide)
           exact ⟨⟨(numI ((partsB 32 s)[1]!)), (numI ((partsB 32 s)[2]!)), (numI ((partsB 32 s)[3]!))⟩, (numI ((partsB 32 s)[4]!)), 0, rfl, .inr ⟨_, _, _, _, numI_in _, numI_in _, numI_in _, numI_in _, gs, .inr (.inr ⟨hok, by omega, by omega, rfl, rfl, rfl⟩)⟩, hp212.fr⟩
        refine AllR.cons _ rfl ?_ AllR.nil
        refine (opStep.alloc hp157 [iI 0, iI 0, iI 0] (by kernel_rfl) (fun g216 w214 hp215 => ?_))
        refine ⟨.inr ⟨(show Ld Tryd.prog w214 9 ((adr a10).add (1 * 1)) (.string ((partsB 32 s)[1]!)) from (Ld.add0 (Ld.el1 (P := Tryd.prog) (t := 9) (SlR.own hp215.get1).rd 1 (fun _ => rfl) hy45 (o := 0) (v := .string ((partsB 32 s)[1]!)) (by kernel_rfl)))), (show Ld Tryd.prog w214 9 ((adr a10).add (2 * 1)) (.string ((partsB 32 s)[2]!)) from (Ld.add0 (Ld.el1 (P := Tryd.prog) (t := 9) (SlR.own hp215.get1).rd 1 (fun _ => rfl) hy71 (o := 0) (v := .string ((partsB 32 s)[2]!)) (by kernel_rfl)))), (show Ld Tryd.prog w214 9 ((adr a10).add (3 * 1)) (.string ((partsB 32 s)[3]!)) from (Ld.add0 (Ld.el1 (P := Tryd.prog) (t := 9) (SlR.own hp215.get1).rd 1 (fun _ => rfl) hy97 (o := 0) (v := .string ((partsB 32 s)[3]!)) (by kernel_rfl)))), trivial⟩, ?_⟩
        refine HT.br (n := 2) [11] (by kernel_rfl) (by simp) ?_
        refine AllR.cons _ rfl ?_ AllR.nil
        refine (opStep.call (some 48) [.string ((partsB 32 s)[3]!)] (by kernel_rfl) (rf_number ((partsB 32 s)[3]!) (hwz _ (List.mem_of_getElem? (get_bang (by omega)))) _) ?_)
        rintro _ w219 ⟨rfl, hf220⟩
        refine ⟨_, rfl, ?_⟩
        have hp221 := hp215.step hf220
        refine ⟨.inr ⟨(show Ld Tryd.prog w219 9 ((adr a10).add (1 * 1)) (.string ((partsB 32 s)[1]!)) from (Ld.add0 (Ld.el1 (P := Tryd.prog) (t := 9) (SlR.own hp221.get1).rd 1 (fun _ => rfl) hy45 (o := 0) (v := .string ((partsB 32 s)[1]!)) (by kernel_rfl)))), (show Ld Tryd.prog w219 9 ((adr a10).add (2 * 1)) (.string ((partsB 32 s)[2]!)) from (Ld.add0 (Ld.el1 (P := Tryd.prog) (t := 9) (SlR.own hp221.get1).rd 1 (fun _ => rfl) hy71 (o := 0) (v := .string ((partsB 32 s)[2]!)) (by kernel_rfl)))), (show Ld Tryd.prog w219 9 ((adr a10).add (3 * 1)) (.string ((partsB 32 s)[3]!)) from (Ld.add0 (Ld.el1 (P := Tryd.prog) (t := 9) (SlR.own hp221.get1).rd 1 (fun _ => rfl) hy97 (o := 0) (v := .string ((partsB 32 s)[3]!)) (by kernel_rfl)))), trivial⟩, ?_⟩
        refine HT.pre (l := [(12, true)]) (n := 1) (by kernel_rfl) ?_
        refine hP 1 [2, 5, 7, 49] [pP g3, .slice a10 ((partsB 32 s).length) c12, pP g216, .agg #[iI (numI ((partsB 32 s)[1]!)), iI (numI ((partsB 32 s)[2]!)), iI (numI ((partsB 32 s)[3]!))]] ⟨(show Ld Tryd.prog w219 9 ((adr a10).add (1 * 1)) (.string ((partsB 32 s)[1]!)) from (Ld.add0 (Ld.el1 (P := Tryd.prog) (t := 9) (SlR.own hp221.get1).rd 1 (fun _ => rfl) hy45 (o := 0) (v := .string ((partsB 32 s)[1]!)) (by kernel_rfl)))), (show Ld Tryd.prog w219 9 ((adr a10).add (2 * 1)) (.string ((partsB 32 s)[2]!)) from (Ld.add0 (Ld.el1 (P := Tryd.prog) (t := 9) (SlR.own hp221.get1).rd 1 (fun _ => rfl) hy71 (o := 0) (v := .string ((partsB 32 s)[2]!)) (by kernel_rfl)))), (show Ld Tryd.prog w219 9 ((adr a10).add (3 * 1)) (.string ((partsB 32 s)[3]!)) from (Ld.add0 (Ld.el1 (P := Tryd.prog) (t := 9) (SlR.own hp221.get1).rd 1 (fun _ => rfl) hy97 (o := 0) (v := .string ((partsB 32 s)[3]!)) (by kernel_rfl)))), trivial⟩ fun b224 => ?_
        refine HOPS.nil (QN.n ?_)
        refine HT.br (n := 0) [14] (by kernel_rfl) (by simp) ?_
        refine AllR.cons _ rfl ?_ AllR.nil
        refine (opStep.store0 hp221 rfl [iI (numI ((partsB 32 s)[1]!)), iI (numI ((partsB 32 s)[2]!)), iI (numI ((partsB 32 s)[3]!))] [iI (numI ((partsB 32 s)[1]!)), iI (numI ((partsB 32 s)[2]!)), iI (numI ((partsB 32 s)[3]!))] (by kernel_rfl) (fun w225 hp226 => ?_))
        refine ⟨.inr ⟨(show Ld Tryd.prog w225 9 ((adr a10).add (1 * 1)) (.string ((partsB 32 s)[1]!)) from (Ld.add0 (Ld.el1 (P := Tryd.prog) (t := 9) (SlR.own hp226.get1).rd 1 (fun _ => rfl) hy45 (o := 0) (v := .string ((partsB 32 s)[1]!)) (by kernel_rfl)))), (show Ld Tryd.prog w225 9 ((adr a10).add (2 * 1)) (.string ((partsB 32 s)[2]!)) from (Ld.add0 (Ld.el1 (P := Tryd.prog) (t := 9) (SlR.own hp226.get1).rd 1 (fun _ => rfl) hy71 (o := 0) (v := .string ((partsB 32 s)[2]!)) (by kernel_rfl)))), (show Ld Tryd.prog w225 9 ((adr a10).add (3 * 1)) (.string ((partsB 32 s)[3]!)) from (Ld.add0 (Ld.el1 (P := Tryd.prog) (t := 9) (SlR.own hp226.get1).rd 1 (fun _ => rfl) hy97 (o := 0) (v := .string ((partsB 32 s)[3]!)) (by kernel_rfl)))), trivial⟩, ?_⟩
        refine HT.done (by kernel_rfl) ?_
        refine thn_n (WP.seq (WP.seq (wR (oQ 1 {} [.agg #[iI (numI ((partsB 32 s)[1]!)), iI (numI ((partsB 32 s)[2]!)), iI (numI ((partsB 32 s)[3]!))]] [2, 5, 7, 50] [pP g3, .slice a10 ((partsB 32 s).length) c12, pP g216, .agg #[iI (numI ((partsB 32 s)[1]!)), iI (numI ((partsB 32 s)[2]!)), iI (numI ((partsB 32 s)[3]!))]] (.cons (lN 43 0 [iI (numI ((partsB 32 s)[1]!)), iI (numI ((partsB 32 s)[2]!)), iI (numI ((partsB 32 s)[3]!))] hp226.get0) .nil) fun b227 => ?_))))
        refine OPS.cons (opStep.call (some 51) [.agg #[iI (numI ((partsB 32 s)[1]!)), iI (numI ((partsB 32 s)[2]!)), iI (numI ((partsB 32 s)[3]!))]] (by kernel_rfl) (r9_Check (⟨numI ((partsB 32 s)[1]!), numI ((partsB 32 s)[2]!), numI ((partsB 32 s)[3]!)⟩ : GConfig) _) ?_)
        rintro _ w230 ⟨rfl, hf231⟩
        refine ⟨_, rfl, ?_⟩
        have hp232 := hp226.step hf231
        refine oP 1 [2, 5, 7, 52] [pP g3, .slice a10 ((partsB 32 s).length) c12, pP g216, .bool (decide (¬ ((qChk (⟨numI ((partsB 32 s)[1]!), numI ((partsB 32 s)[2]!), numI ((partsB 32 s)[3]!)⟩ : GConfig)) = 0)))] fun b233 => ?_
        refine OPS.nil (thn_n ?_)
        refine WP.test (p := ¬ ((qChk (⟨numI ((partsB 32 s)[1]!), numI ((partsB 32 s)[2]!), numI ((partsB 32 s)[3]!)⟩ : GConfig)) = 0)) rfl Bp.dec (fun h234 => ?_) (fun h234 => ?_)
        ·refine WP.seq (wR (oP 1 [2, 53] (qe0 g3) fun b235 => ?_))
         refine OPS.cons (opStep.store2 hp232 rfl [iI 0, iI 0, iI 0] [iI 0, iI 0, iI 0] (by kernel_rfl) (fun w236 hp237 => ?_))
         refine oP 2 [2, 3, 4] [pP g3, iI 0, iI 40] fun b238 => ?_
         refine OPS.nil (thn_n (WP.ret (thn_r ?_)))
         refine bodyQ.of _ rfl qe2 ⟨⟨_, rfl, (lN 43 0 [iI 0, iI 0, iI 0] hp237.get2)⟩, rfl, rfl, trivial⟩ ?_
         have g0 : (partsB 32 s).length = 5 := Classical.byContradiction fun q => h32 (.inl (fun z => q (by omega)))
         have g1 : (partsB 32 s)[0]! = wCfg := Classical.byContradiction fun q => h32 (.inr ⟨by omega, q⟩)
         have gs := conf_good g0 g1 h58 h84 h110 h136
         exact ⟨⟨0, 0, 0⟩, 0, 40, rfl, .inr ⟨_, _, _, _, numI_in _, numI_in _, numI_in _, numI_in _, gs, .inl ⟨fun q => h234 (qChk_ok q), rfl, rfl, rfl⟩⟩, hp237.fr⟩
        ·replace h234 := Classical.not_not.1 h234
         refine WP.skip (thn_n (WP.seq (wR (oQ 3 {} [.string ((partsB 32 s)[4]!)] [2, 7, 56] [pP g3, pP g216, .string ((partsB 32 s)[4]!)] (.cons (show InB (4) ((partsB 32 s).length) from ⟨by omega, by omega⟩) (.cons ((SlR.own hp232.get1).some (by omega)) (.cons (Ld.add0 (Ld.el1 (P := Tryd.prog) (t := 9) (SlR.own hp232.get1).rd 1 (fun _ => rfl) hy123 (o := 0) (v := .string ((partsB 32 s)[4]!)) (by kernel_rfl))) .nil))) fun b239 => ?_))))
         refine OPS.cons (opStep.call (some 57) [.string ((partsB 32 s)[4]!)] (by kernel_rfl) (rf_number ((partsB 32 s)[4]!) (hwz _ (List.mem_of_getElem? (get_bang (by omega)))) _) ?_)
         rintro _ w242 ⟨rfl, hf243⟩
         refine ⟨_, rfl, ?_⟩
         have hp244 := hp232.step hf243
         refine oP 1 [2, 7, 8] [pP g3, pP g216, iI (numI ((partsB 32 s)[4]!))] fun b245 => ?_
         refine OPS.nil (thn_n (WP.seq ?_))
         refine WP.cut (fun e255 w256 => ∃ (x253 : Bool), (True) ∧ Bp x253 ((((numI ((partsB 32 s)[4]!)) < 0)) ∨ ((¬ ((numI ((partsB 32 s)[4]!)) < 0)) ∧ (255 < (numI ((partsB 32 s)[4]!))))) ∧ List.map e255 [2, 7, 8, 63] = [pP g3, pP g216, iI (numI ((partsB 32 s)[4]!)), .bool x253] ∧ Hp w Non [Res.row g216 [iI (numI ((partsB 32 s)[1]!)), iI (numI ((partsB 32 s)[2]!)), iI (numI ((partsB 32 s)[3]!))] 43, Res.own 9 1 (.slice a10 ((partsB 32 s).length) c12) ((partsB 32 s).length) (List.flatMap strc (partsB 32 s)), Res.row g3 [iI 0, iI 0, iI 0] 43] w256) ?_ ?_
         ·refine wR (oP 3 [2, 7, 8, 60] [pP g3, pP g216, iI (numI ((partsB 32 s)[4]!)), .bool (decide ((numI ((partsB 32 s)[4]!)) < 0))] fun b247 => ?_)
          by_cases h248 : (numI ((partsB 32 s)[4]!)) < 0
          ·refine oP 0 [2, 7, 8, 60] [pP g3, pP g216, iI (numI ((partsB 32 s)[4]!)), .bool (decide ((numI ((partsB 32 s)[4]!)) < 0))] fun b249 => ?_
           refine OPS.re [pP g3, pP g216, iI (numI ((partsB 32 s)[4]!)), bT] (by rw [show (decide ((numI ((partsB 32 s)[4]!)) < 0)) = true from Bp.dec.tt h248]) ?_
           refine oQ 3 { wraps := [63] } [] [2, 7, 8, 63] [pP g3, pP g216, iI (numI ((partsB 32 s)[4]!)), bT] .nil fun b250 => ?_
           refine OPS.nil (thn_n ?_)
           exact ⟨true, trivial, Bp.of Bp.t (by first | (simp [h248]; done) | grind | (simp_all; done)), by kernel_rfl, hp244⟩
          ·refine oP 0 [2, 7, 8, 60] [pP g3, pP g216, iI (numI ((partsB 32 s)[4]!)), .bool (decide ((numI ((partsB 32 s)[4]!)) < 0))] fun b251 => ?_
           refine OPS.re [pP g3, pP g216, iI (numI ((partsB 32 s)[4]!)), bF] (by rw [show (decide ((numI ((partsB 32 s)[4]!)) < 0)) = false from Bp.dec.ff h248]) ?_
           refine oQ 3 { wraps := [63] } [] [2, 7, 8, 63] [pP g3, pP g216, iI (numI ((partsB 32 s)[4]!)), .bool (decide (255 < (numI ((partsB 32 s)[4]!))))] .nil fun b252 => ?_
           refine OPS.nil (thn_n ?_)
           exact ⟨decide (255 < (numI ((partsB 32 s)[4]!))), trivial, Bp.of Bp.dec (by first | (simp [h248]; done) | grind | (simp_all; done)), by kernel_rfl, hp244⟩
         rintro e255 w256 ⟨x253, hd258, hb254, hE259, hp257⟩
         obtain ⟨b260, rfl⟩ := toMk hE259
         clear hE259
         clear hd258
         refine WP.test (p := (((numI ((partsB 32 s)[4]!)) < 0)) ∨ ((¬ ((numI ((partsB 32 s)[4]!)) < 0)) ∧ (255 < (numI ((partsB 32 s)[4]!))))) rfl hb254 (fun h261 => ?_) (fun h261 => ?_)
         ·refine WP.seq (wR (oP 1 [2, 64] (qe0 g3) fun b262 => ?_))
          refine OPS.cons (opStep.store2 hp257 rfl [iI 0, iI 0, iI 0] [iI 0, iI 0, iI 0] (by kernel_rfl) (fun w263 hp264 => ?_))
          refine oP 2 [2, 3, 4] [pP g3, iI 0, iI 1] fun b265 => ?_
          refine OPS.nil (thn_n (WP.ret (thn_r ?_)))
          refine bodyQ.of _ rfl qe3 ⟨⟨_, rfl, (lN 43 0 [iI 0, iI 0, iI 0] hp264.get2)⟩, rfl, rfl, trivial⟩ ?_
          have g0 : (partsB 32 s).length = 5 := Classical.byContradiction fun q => h32 (.inl (fun z => q (by omega)))
          have g1 : (partsB 32 s)[0]! = wCfg := Classical.byContradiction fun q => h32 (.inr ⟨by omega, q⟩)
          have gs := conf_good g0 g1 h58 h84 h110 h136
          have hok : okCfg ⟨(numI ((partsB 32 s)[1]!)), (numI ((partsB 32 s)[2]!)), (numI ((partsB 32 s)[3]!))⟩ := Classical.byContradiction fun q => absurd ((qChk_no q).symm.trans h234) (by decide)
          exact ⟨⟨0, 0, 0⟩, 0, 1, rfl, .inr ⟨_, _, _, _, numI_in _, numI_in _, numI_in _, numI_in _, gs, .inr (.inl ⟨hok, by omega, rfl, rfl, rfl⟩)⟩, hp264.fr⟩
         ·refine WP.skip (thn_n (WP.seq (wR (oQ 2 {} [.agg #[iI (numI ((partsB 32 s)[1]!)), iI (numI ((partsB 32 s)[2]!)), iI (numI ((partsB 32 s)[3]!))]] [2, 65, 66] [pP g3, .agg #[iI (numI ((partsB 32 s)[1]!)), iI (numI ((partsB 32 s)[2]!)), iI (numI ((partsB 32 s)[3]!))], iI (numI ((partsB 32 s)[4]!))] (.cons (lN 43 0 [iI (numI ((partsB 32 s)[1]!)), iI (numI ((partsB 32 s)[2]!)), iI (numI ((partsB 32 s)[3]!))] hp257.get0) .nil) fun b266 => ?_))))
          refine OPS.cons (opStep.store2 hp257 rfl [iI (numI ((partsB 32 s)[1]!)), iI (numI ((partsB 32 s)[2]!)), iI (numI ((partsB 32 s)[3]!))] [iI (numI ((partsB 32 s)[1]!)), iI (numI ((partsB 32 s)[2]!)), iI (numI ((partsB 32 s)[3]!))] (by kernel_rfl) (fun w267 hp268 => ?_))
          refine oP 2 [2, 3, 4] [pP g3, iI (numI ((partsB 32 s)[4]!)), iI 0] fun b269 => ?_
          refine OPS.nil (thn_n (WP.ret ?_))
          refine bodyQ.of _ rfl [.agg #[iI (numI ((partsB 32 s)[1]!)), iI (numI ((partsB 32 s)[2]!)), iI (numI ((partsB 32 s)[3]!))], iI (numI ((partsB 32 s)[4]!)), iI 0] ⟨⟨_, rfl, (lN 43 0 [iI (numI ((partsB 32 s)[1]!)), iI (numI ((partsB 32 s)[2]!)), iI (numI ((partsB 32 s)[3]!))] hp268.get2)⟩, rfl, rfl, trivial⟩ ?_
          have g0 : (partsB 32 s).length = 5 := Classical.byContradiction fun q => h32 (.inl (fun z => q (by omega)))
          have g1 : (partsB 32 s)[0]! = wCfg := Classical.byContradiction fun q => h32 (.inr ⟨by omega, q⟩)
          have gs := conf_good g0 g1 h58 h84 h110 h136
          have hok : okCfg ⟨(numI ((partsB 32 s)[1]!)), (numI ((partsB 32 s)[2]!)), (numI ((partsB 32 s)[3]!))⟩ := Classical.byContradiction fun q => absurd ((qChk_no q).symm.trans h234) (by decide)
          exact ⟨⟨(numI ((partsB 32 s)[1]!)), (numI ((partsB 32 s)[2]!)), (numI ((partsB 32 s)[3]!))⟩, (numI ((partsB 32 s)[4]!)), 0, rfl, .inr ⟨_, _, _, _, numI_in _, numI_in _, numI_in _, numI_in _, gs, .inr (.inr ⟨hok, by omega, by omega, rfl, rfl, rfl⟩)⟩, hp268.fr⟩
       refine AllR.cons _ rfl ?_ AllR.nil
       refine (opStep.alloc hp152 [iI 0, iI 0, iI 0] (by kernel_rfl) (fun g272 w270 hp271 => ?_))
       refine ⟨.inr ⟨(show Ld Tryd.prog w270 9 ((adr a10).add (1 * 1)) (.string ((partsB 32 s)[1]!)) from (Ld.add0 (Ld.el1 (P := Tryd.prog) (t := 9) (SlR.own hp271.get1).rd 1 (fun _ => rfl) hy45 (o := 0) (v := .string ((partsB 32 s)[1]!)) (by kernel_rfl)))), (show Ld Tryd.prog w270 9 ((adr a10).add (2 * 1)) (.string ((partsB 32 s)[2]!)) from (Ld.add0 (Ld.el1 (P := Tryd.prog) (t := 9) (SlR.own hp271.get1).rd 1 (fun _ => rfl) hy71 (o := 0) (v := .string ((partsB 32 s)[2]!)) (by kernel_rfl)))), (show Ld Tryd.prog w270 9 ((adr a10).add (3 * 1)) (.string ((partsB 32 s)[3]!)) from (Ld.add0 (Ld.el1 (P := Tryd.prog) (t := 9) (SlR.own hp271.get1).rd 1 (fun _ => rfl) hy97 (o := 0) (v := .string ((partsB 32 s)[3]!)) (by kernel_rfl)))), trivial⟩, ?_⟩
       refine HT.br (n := 3) [7] (by kernel_rfl) (by simp) ?_
       refine AllR.cons _ rfl ?_ AllR.nil
       refine (opStep.call (some 44) [.string ((partsB 32 s)[2]!)] (by kernel_rfl) (rf_number ((partsB 32 s)[2]!) (hwz _ (List.mem_of_getElem? (get_bang (by omega)))) _) ?_)
       rintro _ w275 ⟨rfl, hf276⟩
       refine ⟨_, rfl, ?_⟩
       have hp277 := hp271.step hf276
       refine ⟨.inr ⟨(show Ld Tryd.prog w275 9 ((adr a10).add (1 * 1)) (.string ((partsB 32 s)[1]!)) from (Ld.add0 (Ld.el1 (P := Tryd.prog) (t := 9) (SlR.own hp277.get1).rd 1 (fun _ => rfl) hy45 (o := 0) (v := .string ((partsB 32 s)[1]!)) (by kernel_rfl)))), (show Ld Tryd.prog w275 9 ((adr a10).add (2 * 1)) (.string ((partsB 32 s)[2]!)) from (Ld.add0 (Ld.el1 (P := Tryd.prog) (t := 9) (SlR.own hp277.get1).rd 1 (fun _ => rfl) hy71 (o := 0) (v := .string ((partsB 32 s)[2]!)) (by kernel_rfl)))), (show Ld Tryd.prog w275 9 ((adr a10).add (3 * 1)) (.string ((partsB 32 s)[3]!)) from (Ld.add0 (Ld.el1 (P := Tryd.prog) (t := 9) (SlR.own hp277.get1).rd 1 (fun _ => rfl) hy97 (o := 0) (v := .string ((partsB 32 s)[3]!)) (by kernel_rfl)))), trivial⟩, ?_⟩
       refine HT.br (n := 2) [11] (by kernel_rfl) (by simp) ?_
       refine AllR.cons _ rfl ?_ AllR.nil
       refine (opStep.call (some 48) [.string ((partsB 32 s)[3]!)] (by kernel_rfl) (rf_number ((partsB 32 s)[3]!) (hwz _ (List.mem_of_getElem? (get_bang (by omega)))) _) ?_)
       rintro _ w280 ⟨rfl, hf281⟩
       refine ⟨_, rfl, ?_⟩
       have hp282 := hp277.step hf281
       refine ⟨.inr ⟨(show Ld Tryd.prog w280 9 ((adr a10).add (1 * 1)) (.string ((partsB 32 s)[1]!)) from (Ld.add0 (Ld.el1 (P := Tryd.prog) (t := 9) (SlR.own hp282.get1).rd 1 (fun _ => rfl) hy45 (o := 0) (v := .string ((partsB 32 s)[1]!)) (by kernel_rfl)))), (show Ld Tryd.prog w280 9 ((adr a10).add (2 * 1)) (.string ((partsB 32 s)[2]!)) from (Ld.add0 (Ld.el1 (P := Tryd.prog) (t := 9) (SlR.own hp282.get1).rd 1 (fun _ => rfl) hy71 (o := 0) (v := .string ((partsB 32 s)[2]!)) (by kernel_rfl)))), (show Ld Tryd.prog w280 9 ((adr a10).add (3 * 1)) (.string ((partsB 32 s)[3]!)) from (Ld.add0 (Ld.el1 (P := Tryd.prog) (t := 9) (SlR.own hp282.get1).rd 1 (fun _ => rfl) hy97 (o := 0) (v := .string ((partsB 32 s)[3]!)) (by kernel_rfl)))), trivial⟩, ?_⟩
       refine HT.pre (l := [(12, true)]) (n := 1) (by kernel_rfl) ?_
       refine hP 1 [2, 5, 7, 49] [pP g3, .slice a10 ((partsB 32 s).length) c12, pP g272, .agg #[iI (numI ((partsB 32 s)[1]!)), iI (numI ((partsB 32 s)[2]!)), iI (numI ((partsB 32 s)[3]!))]] ⟨(show Ld Tryd.prog w280 9 ((adr a10).add (1 * 1)) (.string ((partsB 32 s)[1]!)) from (Ld.add0 (Ld.el1 (P := Tryd.prog) (t := 9) (SlR.own hp282.get1).rd 1 (fun _ => rfl) hy45 (o := 0) (v := .string ((partsB 32 s)[1]!)) (by kernel_rfl)))), (show Ld Tryd.prog w280 9 ((adr a10).add (2 * 1)) (.string ((partsB 32 s)[2]!)) from (Ld.add0 (Ld.el1 (P := Tryd.prog) (t := 9) (SlR.own hp282.get1).rd 1 (fun _ => rfl) hy71 (o := 0) (v := .string ((partsB 32 s)[2]!)) (by kernel_rfl)))), (show Ld Tryd.prog w280 9 ((adr a10).add (3 * 1)) (.string ((partsB 32 s)[3]!)) from (Ld.add0 (Ld.el1 (P := Tryd.prog) (t := 9) (SlR.own hp282.get1).rd 1 (fun _ => rfl) hy97 (o := 0) (v := .string ((partsB 32 s)[3]!)) (by kernel_rfl)))), trivial⟩ fun b285 => ?_
       refine HOPS.nil (QN.n ?_)
       refine HT.br (n := 0) [14] (by kernel_rfl) (by simp) ?_
       refine AllR.cons _ rfl ?_ AllR.nil
       refine (opStep.store0 hp282 rfl [iI (numI ((partsB 32 s)[1]!)), iI (numI ((partsB 32 s)[2]!)), iI (numI ((partsB 32 s)[3]!))] [iI (numI ((partsB 32 s)[1]!)), iI (numI ((partsB 32 s)[2]!)), iI (numI ((partsB 32 s)[3]!))] (by kernel_rfl) (fun w286 hp287 => ?_))
       refine ⟨.inr ⟨(show Ld Tryd.prog w286 9 ((adr a10).add (1 * 1)) (.string ((partsB 32 s)[1]!)) from (Ld.add0 (Ld.el1 (P := Tryd.prog) (t := 9) (SlR.own hp287.get1).rd 1 (fun _ => rfl) hy45 (o := 0) (v := .string ((partsB 32 s)[1]!)) (by kernel_rfl)))), (show Ld Tryd.prog w286 9 ((adr a10).add (2 * 1)) (.string ((partsB 32 s)[2]!)) from (Ld.add0 (Ld.el1 (P := Tryd.prog) (t := 9) (SlR.own hp287.get1).rd 1 (fun _ => rfl) hy71 (o := 0) (v := .string ((partsB 32 s)[2]!)) (by kernel_rfl)))), (show Ld Tryd.prog w286 9 ((adr a10).add (3 * 1)) (.string ((partsB 32 s)[3]!)) from (Ld.add0 (Ld.el1 (P := Tryd.prog) (t := 9) (SlR.own hp287.get1).rd 1 (fun _ => rfl) hy97 (o := 0) (v := .string ((partsB 32 s)[3]!)) (by kernel_rfl)))), trivial⟩, ?_⟩
       refine HT.done (by kernel_rfl) ?_
       refine thn_n (WP.seq (WP.seq (wR (oQ 1 {} [.agg #[iI (numI ((partsB 32 s)[1]!)), iI (numI ((partsB 32 s)[2]!)), iI (numI ((partsB 32 s)[3]!))]] [2, 5, 7, 50] [pP g3, .slice a10 ((partsB 32 s).length) c12, pP g272, .agg #[iI (numI ((partsB 32 s)[1]!)), iI (numI ((partsB 32 s)[2]!)), iI (numI ((partsB 32 s)[3]!))]] (.cons (lN 43 0 [iI (numI ((partsB 32 s)[1]!)), iI (numI ((partsB 32 s)[2]!)), iI (numI ((partsB 32 s)[3]!))] hp287.get0) .nil) fun b288 => ?_))))
       refine OPS.cons (opStep.call (some 51) [.agg #[iI (numI ((partsB 32 s)[1]!)), iI (numI ((partsB 32 s)[2]!)), iI (numI ((partsB 32 s)[3]!))]] (by kernel_rfl) (r9_Check (⟨numI ((partsB 32 s)[1]!), numI ((partsB 32 s)[2]!), numI ((partsB 32 s)[3]!)⟩ : GConfig) _) ?_)
       rintro _ w291 ⟨rfl, hf292⟩
       refine ⟨_, rfl, ?_⟩
       have hp293 := hp287.step hf292
       refine oP 1 [2, 5, 7, 52] [pP g3, .slice a10 ((partsB 32 s).length) c12, pP g272, .bool (decide (¬ ((qChk (⟨numI ((partsB 32 s)[1]!), numI ((partsB 32 s)[2]!), numI ((partsB 32 s)[3]!)⟩ : GConfig)) = 0)))] fun b294 => ?_
       refine OPS.nil (thn_n ?_)
       refine WP.test (p := ¬ ((qChk (⟨numI ((partsB 32 s)[1]!), numI ((partsB 32 s)[2]!), numI ((partsB 32 s)[3]!)⟩ : GConfig)) = 0)) rfl Bp.dec (fun h295 => ?_) (fun h295 => ?_)
       ·refine WP.seq (wR (oP 1 [2, 53] (qe0 g3) fun b296 => ?_))
        refine OPS.cons (opStep.store2 hp293 rfl [iI 0, iI 0, iI 0] [iI 0, iI 0, iI 0] (by kernel_rfl) (fun w297 hp298 => ?_))
        refine oP 2 [2, 3, 4] [pP g3, iI 0, iI 40] fun b299 => ?_
        refine OPS.nil (thn_n (WP.ret (thn_r ?_)))
        refine bodyQ.of _ rfl qe2 ⟨⟨_, rfl, (lN 43 0 [iI 0, iI 0, iI 0] hp298.get2)⟩, rfl, rfl, trivial⟩ ?_
        have g0 : (partsB 32 s).length = 5 := Classical.byContradiction fun q => h32 (.inl (fun z => q (by omega)))
        have g1 : (partsB 32 s)[0]! = wCfg := Classical.byContradiction fun q => h32 (.inr ⟨by omega, q⟩)
        have gs := conf_good g0 g1 h58 h84 h110 h136
        exact ⟨⟨0, 0, 0⟩, 0, 40, rfl, .inr ⟨_, _, _, _, numI_in _, numI_in _, numI_in _, numI_in _, gs, .inl ⟨fun q => h295 (qChk_ok q), rfl, rfl, rfl⟩⟩, hp298.fr⟩
       ·replace h295 := Classical.not_not.1 h295
        refine WP.skip (thn_n (WP.seq (wR (oQ 3 {} [.string ((partsB 32 s)[4]!)] [2, 7, 56] [pP g3, pP g272, .string ((partsB 32 s)[4]!)] (.cons (show InB (4) ((partsB 32 s).length) from ⟨by omega, by omega⟩) (.cons ((SlR.own hp293.get1).some (by omega)) (.cons (Ld.add0 (Ld.el1 (P := Tryd.prog) (t := 9) (SlR.own hp293.get1).rd 1 (fun _ => rfl) hy123 (o := 0) (v := .string ((partsB 32 s)[4]!)) (by kernel_rfl))) .nil))) fun b300 => ?_))))
        refine OPS.cons (opStep.call (some 57) [.string ((partsB 32 s)[4]!)] (by kernel_rfl) (rf_number ((partsB 32 s)[4]!) (hwz _ (List.mem_of_getElem? (get_bang (by omega)))) _) ?_)
        rintro _ w303 ⟨rfl, hf304⟩
        refine ⟨_, rfl, ?_⟩
        have hp305 := hp293.step hf304
        refine oP 1 [2, 7, 8] [pP g3, pP g272, iI (numI ((partsB 32 s)[4]!))] fun b306 => ?_
        refine OPS.nil (thn_n (WP.seq ?_))
        refine WP.cut (fun e316 w317 => ∃ (x314 : Bool), (True) ∧ Bp x314 ((((numI ((partsB 32 s)[4]!)) < 0)) ∨ ((¬ ((numI ((partsB 32 s)[4]!)) < 0)) ∧ (255 < (numI ((partsB 32 s)[4]!))))) ∧ List.map e316 [2, 7, 8, 63] = [pP g3, pP g272, iI (numI ((partsB 32 s)[4]!)), .bool x314] ∧ Hp w Non [Res.row g272 [iI (numI ((partsB 32 s)[1]!)), iI (numI ((partsB 32 s)[2]!)), iI (numI ((partsB 32 s)[3]!))] 43, Res.own 9 1 (.slice a10 ((partsB 32 s).length) c12) ((partsB 32 s).length) (List.flatMap strc (partsB 32 s)), Res.row g3 [iI 0, iI 0, iI 0] 43] w317) ?_ ?_
        ·refine wR (oP 3 [2, 7, 8, 60] [pP g3, pP g272, iI (numI ((partsB 32 s)[4]!)), .bool (decide ((numI ((partsB 32 s)[4]!)) < 0))] fun b308 => ?_)
         by_cases h309 : (numI ((partsB 32 s)[4]!)) < 0
         ·refine oP 0 [2, 7, 8, 60] [pP g3, pP g272, iI (numI ((partsB 32 s)[4]!)), .bool (decide ((numI ((partsB 32 s)[4]!)) < 0))] fun b310 => ?_
          refine OPS.re [pP g3, pP g272, iI (numI ((partsB 32 s)[4]!)), bT] (by rw [show (decide ((numI ((partsB 32 s)[4]!)) < 0)) = true from Bp.dec.tt h309]) ?_
          refine oQ 3 { wraps := [63] } [] [2, 7, 8, 63] [pP g3, pP g272, iI (numI ((partsB 32 s)[4]!)), bT] .nil fun b311 => ?_
          refine OPS.nil (thn_n ?_)
          exact ⟨true, trivial, Bp.of Bp.t (by first | (simp [h309]; done) | grind | (simp_all; done)), by kernel_rfl, hp305⟩
         ·refine oP 0 [2, 7, 8, 60] [pP g3, pP g272, iI (numI ((partsB 32 s)[4]!)), .bool (decide ((numI ((partsB 32 s)[4]!)) < 0))] fun b312 => ?_
          refine OPS.re [pP g3, pP g272, iI (numI ((partsB 32 s)[4]!)), bF] (by rw [show (decide ((numI ((partsB 32 s)[4]!)) < 0)) = false from Bp.dec.ff h309]) ?_
          refine oQ 3 { wraps := [63] } [] [2, 7, 8, 63] [pP g3, pP g272, iI (numI ((partsB 32 s)[4]!)), .bool (decide (255 < (numI ((partsB 32 s)[4]!))))] .nil fun b313 => ?_
          refine OPS.nil (thn_n ?_)
          exact ⟨decide (255 < (numI ((partsB 32 s)[4]!))), trivial, Bp.of Bp.dec (by first | (simp [h309]; done) | grind | (simp_all; done)), by kernel_rfl, hp305⟩
        rintro e316 w317 ⟨x314, hd319, hb315, hE320, hp318⟩
        obtain ⟨b321, rfl⟩ := toMk hE320
        clear hE320
        clear hd319
        refine WP.test (p := (((numI ((partsB 32 s)[4]!)) < 0)) ∨ ((¬ ((numI ((partsB 32 s)[4]!)) < 0)) ∧ (255 < (numI ((partsB 32 s)[4]!))))) rfl hb315 (fun h322 => ?_) (fun h322 => ?_)
        ·refine WP.seq (wR (oP 1 [2, 64] (qe0 g3) fun b323 => ?_))
         refine OPS.cons (opStep.store2 hp318 rfl [iI 0, iI 0, iI 0] [iI 0, iI 0, iI 0] (by kernel_rfl) (fun w324 hp325 => ?_))
         refine oP 2 [2, 3, 4] [pP g3, iI 0, iI 1] fun b326 => ?_
         refine OPS.nil (thn_n (WP.ret (thn_r ?_)))
         refine bodyQ.of _ rfl qe3 ⟨⟨_, rfl, (lN 43 0 [iI 0, iI 0, iI 0] hp325.get2)⟩, rfl, rfl, trivial⟩ ?_
         have g0 : (partsB 32 s).length = 5 := Classical.byContradiction fun q => h32 (.inl (fun z => q (by omega)))
         have g1 : (partsB 32 s)[0]! = wCfg := Classical.byContradiction fun q => h32 (.inr ⟨by omega, q⟩)
         have gs := conf_good g0 g1 h58 h84 h110 h136
         have hok : okCfg ⟨(numI ((partsB 32 s)[1]!)), (numI ((partsB 32 s)[2]!)), (numI ((partsB 32 s)[3]!))⟩ := Classical.byContradiction fun q => absurd ((qChk_no q).symm.trans h295) (by decide)
         exact ⟨⟨0, 0, 0⟩, 0, 1, rfl, .inr ⟨_, _, _, _, numI_in _, numI_in _, numI_in _, numI_in _, gs, .inr (.inl ⟨hok, by omega, rfl, rfl, rfl⟩)⟩, hp325.fr⟩
        ·refine WP.skip (thn_n (WP.seq (wR (oQ 2 {} [.agg #[iI (numI ((partsB 32 s)[1]!)), iI (numI ((partsB 32 s)[2]!)), iI (numI ((partsB 32 s)[3]!))]] [2, 65, 66] [pP g3, .agg #[iI (numI ((partsB 32 s)[1]!)), iI (numI ((partsB 32 s)[2]!)), iI (numI ((partsB 32 s)[3]!))], iI (numI ((partsB 32 s)[4]!))] (.cons (lN 43 0 [iI (numI ((partsB 32 s)[1]!)), iI (numI ((partsB 32 s)[2]!)), iI (numI ((partsB 32 s)[3]!))] hp318.get0) .nil) fun b327 => ?_))))
         refine OPS.cons (opStep.store2 hp318 rfl [iI (numI ((partsB 32 s)[1]!)), iI (numI ((partsB 32 s)[2]!)), iI (numI ((partsB 32 s)[3]!))] [iI (numI ((partsB 32 s)[1]!)), iI (numI ((partsB 32 s)[2]!)), iI (numI ((partsB 32 s)[3]!))] (by kernel_rfl) (fun w328 hp329 => ?_))
         refine oP 2 [2, 3, 4] [pP g3, iI (numI ((partsB 32 s)[4]!)), iI 0] fun b330 => ?_
         refine OPS.nil (thn_n (WP.ret ?_))
         refine bodyQ.of _ rfl [.agg #[iI (numI ((partsB 32 s)[1]!)), iI (numI ((partsB 32 s)[2]!)), iI (numI ((partsB 32 s)[3]!))], iI (numI ((partsB 32 s)[4]!)), iI 0] ⟨⟨_, rfl, (lN 43 0 [iI (numI ((partsB 32 s)[1]!)), iI (numI ((partsB 32 s)[2]!)), iI (numI ((partsB 32 s)[3]!))] hp329.get2)⟩, rfl, rfl, trivial⟩ ?_
         have g0 : (partsB 32 s).length = 5 := Classical.byContradiction fun q => h32 (.inl (fun z => q (by omega)))
         have g1 : (partsB 32 s)[0]! = wCfg := Classical.byContradiction fun q => h32 (.inr ⟨by omega, q⟩)
         have gs := conf_good g0 g1 h58 h84 h110 h136
         have hok : okCfg ⟨(numI ((partsB 32 s)[1]!)), (numI ((partsB 32 s)[2]!)), (numI ((partsB 32 s)[3]!))⟩ := Classical.byContradiction fun q => absurd ((qChk_no q).symm.trans h295) (by decide)
         exact ⟨⟨(numI ((partsB 32 s)[1]!)), (numI ((partsB 32 s)[2]!)), (numI ((partsB 32 s)[3]!))⟩, (numI ((partsB 32 s)[4]!)), 0, rfl, .inr ⟨_, _, _, _, numI_in _, numI_in _, numI_in _, numI_in _, gs, .inr (.inr ⟨hok, by omega, by omega, rfl, rfl, rfl⟩)⟩, hp329.fr⟩
      refine AllR.cons _ rfl ?_ AllR.nil
      refine (opStep.alloc hp143 [iI 0, iI 0, iI 0] (by kernel_rfl) (fun g333 w331 hp332 => ?_))
      refine ⟨.inr ⟨(show Ld Tryd.prog w331 9 ((adr a10).add (1 * 1)) (.string ((partsB 32 s)[1]!)) from (Ld.add0 (Ld.el1 (P := Tryd.prog) (t := 9) (SlR.own hp332.get1).rd 1 (fun _ => rfl) hy45 (o := 0) (v := .string ((partsB 32 s)[1]!)) (by kernel_rfl)))), (show Ld Tryd.prog w331 9 ((adr a10).add (2 * 1)) (.string ((partsB 32 s)[2]!)) from (Ld.add0 (Ld.el1 (P := Tryd.prog) (t := 9) (SlR.own hp332.get1).rd 1 (fun _ => rfl) hy71 (o := 0) (v := .string ((partsB 32 s)[2]!)) (by kernel_rfl)))), (show Ld Tryd.prog w331 9 ((adr a10).add (3 * 1)) (.string ((partsB 32 s)[3]!)) from (Ld.add0 (Ld.el1 (P := Tryd.prog) (t := 9) (SlR.own hp332.get1).rd 1 (fun _ => rfl) hy97 (o := 0) (v := .string ((partsB 32 s)[3]!)) (by kernel_rfl)))), trivial⟩, ?_⟩
      refine HT.br (n := 4) [3] (by kernel_rfl) (by simp) ?_
      refine AllR.cons _ rfl ?_ AllR.nil
      refine (opStep.call (some 40) [.string ((partsB 32 s)[1]!)] (by kernel_rfl) (rf_number ((partsB 32 s)[1]!) (hwz _ (List.mem_of_getElem? (get_bang (by omega)))) _) ?_)
      rintro _ w336 ⟨rfl, hf337⟩
      refine ⟨_, rfl, ?_⟩
      have hp338 := hp332.step hf337
      refine ⟨.inr ⟨(show Ld Tryd.prog w336 9 ((adr a10).add (1 * 1)) (.string ((partsB 32 s)[1]!)) from (Ld.add0 (Ld.el1 (P := Tryd.prog) (t := 9) (SlR.own hp338.get1).rd 1 (fun _ => rfl) hy45 (o := 0) (v := .string ((partsB 32 s)[1]!)) (by kernel_rfl)))), (show Ld Tryd.prog w336 9 ((adr a10).add (2 * 1)) (.string ((partsB 32 s)[2]!)) from (Ld.add0 (Ld.el1 (P := Tryd.prog) (t := 9) (SlR.own hp338.get1).rd 1 (fun _ => rfl) hy71 (o := 0) (v := .string ((partsB 32 s)[2]!)) (by kernel_rfl)))), (show Ld Tryd.prog w336 9 ((adr a10).add (3 * 1)) (.string ((partsB 32 s)[3]!)) from (Ld.add0 (Ld.el1 (P := Tryd.prog) (t := 9) (SlR.own hp338.get1).rd 1 (fun _ => rfl) hy97 (o := 0) (v := .string ((partsB 32 s)[3]!)) (by kernel_rfl)))), trivial⟩, ?_⟩
      refine HT.br (n := 3) [7] (by kernel_rfl) (by simp) ?_
      refine AllR.cons _ rfl ?_ AllR.nil
      refine (opStep.call (some 44) [.string ((partsB 32 s)[2]!)] (by kernel_rfl) (rf_number ((partsB 32 s)[2]!) (hwz _ (List.mem_of_getElem? (get_bang (by omega)))) _) ?_)
      rintro _ w341 ⟨rfl, hf342⟩
      refine ⟨_, rfl, ?_⟩
      have hp343 := hp338.step hf342
      refine ⟨.inr ⟨(show Ld Tryd.prog w341 9 ((adr a10).add (1 * 1)) (.string ((partsB 32 s)[1]!)) from (Ld.add0 (Ld.el1 (P := Tryd.prog) (t := 9) (SlR.own hp343.get1).rd 1 (fun _ => rfl) hy45 (o := 0) (v := .string ((partsB 32 s)[1]!)) (by kernel_rfl)))), (show Ld Tryd.prog w341 9 ((adr a10).add (2 * 1)) (.string ((partsB 32 s)[2]!)) from (Ld.add0 (Ld.el1 (P := Tryd.prog) (t := 9) (SlR.own hp343.get1).rd 1 (fun _ => rfl) hy71 (o := 0) (v := .string ((partsB 32 s)[2]!)) (by kernel_rfl)))), (show Ld Tryd.prog w341 9 ((adr a10).add (3 * 1)) (.string ((partsB 32 s)[3]!)) from (Ld.add0 (Ld.el1 (P := Tryd.prog) (t := 9) (SlR.own hp343.get1).rd 1 (fun _ => rfl) hy97 (o := 0) (v := .string ((partsB 32 s)[3]!)) (by kernel_rfl)))), trivial⟩, ?_⟩
      refine HT.br (n := 2) [11] (by kernel_rfl) (by simp) ?_
      refine AllR.cons _ rfl ?_ AllR.nil
      refine (opStep.call (some 48) [.string ((partsB 32 s)[3]!)] (by kernel_rfl) (rf_number ((partsB 32 s)[3]!) (hwz _ (List.mem_of_getElem? (get_bang (by omega)))) _) ?_)
      rintro _ w346 ⟨rfl, hf347⟩
      refine ⟨_, rfl, ?_⟩
      have hp348 := hp343.step hf347
      refine ⟨.inr ⟨(show Ld Tryd.prog w346 9 ((adr a10).add (1 * 1)) (.string ((partsB 32 s)[1]!)) from (Ld.add0 (Ld.el1 (P := Tryd.prog) (t := 9) (SlR.own hp348.get1).rd 1 (fun _ => rfl) hy45 (o := 0) (v := .string ((partsB 32 s)[1]!)) (by kernel_rfl)))), (show Ld Tryd.prog w346 9 ((adr a10).add (2 * 1)) (.string ((partsB 32 s)[2]!)) from (Ld.add0 (Ld.el1 (P := Tryd.prog) (t := 9) (SlR.own hp348.get1).rd 1 (fun _ => rfl) hy71 (o := 0) (v := .string ((partsB 32 s)[2]!)) (by kernel_rfl)))), (show Ld Tryd.prog w346 9 ((adr a10).add (3 * 1)) (.string ((partsB 32 s)[3]!)) from (Ld.add0 (Ld.el1 (P := Tryd.prog) (t := 9) (SlR.own hp348.get1).rd 1 (fun _ => rfl) hy97 (o := 0) (v := .string ((partsB 32 s)[3]!)) (by kernel_rfl)))), trivial⟩, ?_⟩
      refine HT.pre (l := [(12, true)]) (n := 1) (by kernel_rfl) ?_
      refine hP 1 [2, 5, 7, 49] [pP g3, .slice a10 ((partsB 32 s).length) c12, pP g333, .agg #[iI (numI ((partsB 32 s)[1]!)), iI (numI ((partsB 32 s)[2]!)), iI (numI ((partsB 32 s)[3]!))]] ⟨(show Ld Tryd.prog w346 9 ((adr a10).add (1 * 1)) (.string ((partsB 32 s)[1]!)) from (Ld.add0 (Ld.el1 (P := Tryd.prog) (t := 9) (SlR.own hp348.get1).rd 1 (fun _ => rfl) hy45 (o := 0) (v := .string ((partsB 32 s)[1]!)) (by kernel_rfl)))), (show Ld Tryd.prog w346 9 ((adr a10).add (2 * 1)) (.string ((partsB 32 s)[2]!)) from (Ld.add0 (Ld.el1 (P := Tryd.prog) (t := 9) (SlR.own hp348.get1).rd 1 (fun _ => rfl) hy71 (o := 0) (v := .string ((partsB 32 s)[2]!)) (by kernel_rfl)))), (show Ld Tryd.prog w346 9 ((adr a10).add (3 * 1)) (.string ((partsB 32 s)[3]!)) from (Ld.add0 (Ld.el1 (P := Tryd.prog) (t := 9) (SlR.own hp348.get1).rd 1 (fun _ => rfl) hy97 (o := 0) (v := .string ((partsB 32 s)[3]!)) (by kernel_rfl)))), trivial⟩ fun b351 => ?_
      refine HOPS.nil (QN.n ?_)
      refine HT.br (n := 0) [14] (by kernel_rfl) (by simp) ?_
      refine AllR.cons _ rfl ?_ AllR.nil
      refine (opStep.store0 hp348 rfl [iI (numI ((partsB 32 s)[1]!)), iI (numI ((partsB 32 s)[2]!)), iI (numI ((partsB 32 s)[3]!))] [iI (numI ((partsB 32 s)[1]!)), iI (numI ((partsB 32 s)[2]!)), iI (numI ((partsB 32 s)[3]!))] (by kernel_rfl) (fun w352 hp353 => ?_))
      refine ⟨.inr ⟨(show Ld Tryd.prog w352 9 ((adr a10).add (1 * 1)) (.string ((partsB 32 s)[1]!)) from (Ld.add0 (Ld.el1 (P := Tryd.prog) (t := 9) (SlR.own hp353.get1).rd 1 (fun _ => rfl) hy45 (o := 0) (v := .string ((partsB 32 s)[1]!)) (by kernel_rfl)))), (show Ld Tryd.prog w352 9 ((adr a10).add (2 * 1)) (.string ((partsB 32 s)[2]!)) from (Ld.add0 (Ld.el1 (P := Tryd.prog) (t := 9) (SlR.own hp353.get1).rd 1 (fun _ => rfl) hy71 (o := 0) (v := .string ((partsB 32 s)[2]!)) (by kernel_rfl)))), (show Ld Tryd.prog w352 9 ((adr a10).add (3 * 1)) (.string ((partsB 32 s)[3]!)) from (Ld.add0 (Ld.el1 (P := Tryd.prog) (t := 9) (SlR.own hp353.get1).rd 1 (fun _ => rfl) hy97 (o := 0) (v := .string ((partsB 32 s)[3]!)) (by kernel_rfl)))), trivial⟩, ?_⟩
      refine HT.done (by kernel_rfl) ?_
      refine thn_n (WP.seq (WP.seq (wR (oQ 1 {} [.agg #[iI (numI ((partsB 32 s)[1]!)), iI (numI ((partsB 32 s)[2]!)), iI (numI ((partsB 32 s)[3]!))]] [2, 5, 7, 50] [pP g3, .slice a10 ((partsB 32 s).length) c12, pP g333, .agg #[iI (numI ((partsB 32 s)[1]!)), iI (numI ((partsB 32 s)[2]!)), iI (numI ((partsB 32 s)[3]!))]] (.cons (lN 43 0 [iI (numI ((partsB 32 s)[1]!)), iI (numI ((partsB 32 s)[2]!)), iI (numI ((partsB 32 s)[3]!))] hp353.get0) .nil) fun b354 => ?_))))
      refine OPS.cons (opStep.call (some 51) [.agg #[iI (numI ((partsB 32 s)[1]!)), iI (numI ((partsB 32 s)[2]!)), iI (numI ((partsB 32 s)[3]!))]] (by kernel_rfl) (r9_Check (⟨numI ((partsB 32 s)[1]!), numI ((partsB 32 s)[2]!), numI ((partsB 32 s)[3]!)⟩ : GConfig) _) ?_)
      rintro _ w357 ⟨rfl, hf358⟩
      refine ⟨_, rfl, ?_⟩
      have hp359 := hp353.step hf358
      refine oP 1 [2, 5, 7, 52] [pP g3, .slice a10 ((partsB 32 s).length) c12, pP g333, .bool (decide (¬ ((qChk (⟨numI ((partsB 32 s)[1]!), numI ((partsB 32 s)[2]!), numI ((partsB 32 s)[3]!)⟩ : GConfig)) = 0)))] fun b360 => ?_
      refine OPS.nil (thn_n ?_)
      refine WP.test (p := ¬ ((qChk (⟨numI ((partsB 32 s)[1]!), numI ((partsB 32 s)[2]!), numI ((partsB 32 s)[3]!)⟩ : GConfig)) = 0)) rfl Bp.dec (fun h361 => ?_) (fun h361 => ?_)
      ·refine WP.seq (wR (oP 1 [2, 53] (qe0 g3) fun b362 => ?_))
       refine OPS.cons (opStep.store2 hp359 rfl [iI 0, iI 0, iI 0] [iI 0, iI 0, iI 0] (by kernel_rfl) (fun w363 hp364 => ?_))
       refine oP 2 [2, 3, 4] [pP g3, iI 0, iI 40] fun b365 => ?_
       refine OPS.nil (thn_n (WP.ret (thn_r ?_)))
       refine bodyQ.of _ rfl qe2 ⟨⟨_, rfl, (lN 43 0 [iI 0, iI 0, iI 0] hp364.get2)⟩, rfl, rfl, trivial⟩ ?_
       have g0 : (partsB 32 s).length = 5 := Classical.byContradiction fun q => h32 (.inl (fun z => q (by omega)))
       have g1 : (partsB 32 s)[0]! = wCfg := Classical.byContradiction fun q => h32 (.inr ⟨by omega, q⟩)
       have gs := conf_good g0 g1 h58 h84 h110 h136
       exact ⟨⟨0, 0, 0⟩, 0, 40, rfl, .inr ⟨_, _, _, _, numI_in _, numI_in _, numI_in _, numI_in _, gs, .inl ⟨fun q => h361 (qChk_ok q), rfl, rfl, rfl⟩⟩, hp364.fr⟩
      ·replace h361 := Classical.not_not.1 h361
       refine WP.skip (thn_n (WP.seq (wR (oQ 3 {} [.string ((partsB 32 s)[4]!)] [2, 7, 56] [pP g3, pP g333, .string ((partsB 32 s)[4]!)] (.cons (show InB (4) ((partsB 32 s).length) from ⟨by omega, by omega⟩) (.cons ((SlR.own hp359.get1).some (by omega)) (.cons (Ld.add0 (Ld.el1 (P := Tryd.prog) (t := 9) (SlR.own hp359.get1).rd 1 (fun _ => rfl) hy123 (o := 0) (v := .string ((partsB 32 s)[4]!)) (by kernel_rfl))) .nil))) fun b366 => ?_))))
       refine OPS.cons (opStep.call (some 57) [.string ((partsB 32 s)[4]!)] (by kernel_rfl) (rf_number ((partsB 32 s)[4]!) (hwz _ (List.mem_of_getElem? (get_bang (by omega)))) _) ?_)
       rintro _ w369 ⟨rfl, hf370⟩
       refine ⟨_, rfl, ?_⟩
       have hp371 := hp359.step hf370
       refine oP 1 [2, 7, 8] [pP g3, pP g333, iI (numI ((partsB 32 s)[4]!))] fun b372 => ?_
       refine OPS.nil (thn_n (WP.seq ?_))
       refine WP.cut (fun e382 w383 => ∃ (x380 : Bool), (True) ∧ Bp x380 ((((numI ((partsB 32 s)[4]!)) < 0)) ∨ ((¬ ((numI ((partsB 32 s)[4]!)) < 0)) ∧ (255 < (numI ((partsB 32 s)[4]!))))) ∧ List.map e382 [2, 7, 8, 63] = [pP g3, pP g333, iI (numI ((partsB 32 s)[4]!)), .bool x380] ∧ Hp w Non [Res.row g333 [iI (numI ((partsB 32 s)[1]!)), iI (numI ((partsB 32 s)[2]!)), iI (numI ((partsB 32 s)[3]!))] 43, Res.own 9 1 (.slice a10 ((partsB 32 s).length) c12) ((partsB 32 s).length) (List.flatMap strc (partsB 32 s)), Res.row g3 [iI 0, iI 0, iI 0] 43] w383) ?_ ?_
       ·refine wR (oP 3 [2, 7, 8, 60] [pP g3, pP g333, iI (numI ((partsB 32 s)[4]!)), .bool (decide ((numI ((partsB 32 s)[4]!)) < 0))] fun b374 => ?_)
        by_cases h375 : (numI ((partsB 32 s)[4]!)) < 0
        ·refine oP 0 [2, 7, 8, 60] [pP g3, pP g333, iI (numI ((partsB 32 s)[4]!)), .bool (decide ((numI ((partsB 32 s)[4]!)) < 0))] fun b376 => ?_
         refine OPS.re [pP g3, pP g333, iI (numI ((partsB 32 s)[4]!)), bT] (by rw [show (decide ((numI ((partsB 32 s)[4]!)) < 0)) = true from Bp.dec.tt h375]) ?_
         refine oQ 3 { wraps := [63] } [] [2, 7, 8, 63] [pP g3, pP g333, iI (numI ((partsB 32 s)[4]!)), bT] .nil fun b377 => ?_
         refine OPS.nil (thn_n ?_)
         exact ⟨true, trivial, Bp.of Bp.t (by first | (simp [h375]; done) | grind | (simp_all; done)), by kernel_rfl, hp371⟩
        ·refine oP 0 [2, 7, 8, 60] [pP g3, pP g333, iI (numI ((partsB 32 s)[4]!)), .bool (decide ((numI ((partsB 32 s)[4]!)) < 0))] fun b378 => ?_
         refine OPS.re [pP g3, pP g333, iI (numI ((partsB 32 s)[4]!)), bF] (by rw [show (decide ((numI ((partsB 32 s)[4]!)) < 0)) = false from Bp.dec.ff h375]) ?_
         refine oQ 3 { wraps := [63] } [] [2, 7, 8, 63] [pP g3, pP g333, iI (numI ((partsB 32 s)[4]!)), .bool (decide (255 < (numI ((partsB 32 s)[4]!))))] .nil fun b379 => ?_
         refine OPS.nil (thn_n ?_)
         exact ⟨decide (255 < (numI ((partsB 32 s)[4]!))), trivial, Bp.of Bp.dec (by first | (simp [h375]; done) | grind | (simp_all; done)), by kernel_rfl, hp371⟩
       rintro e382 w383 ⟨x380, hd385, hb381, hE386, hp384⟩
       obtain ⟨b387, rfl⟩ := toMk hE386
       clear hE386
       clear hd385
       refine WP.test (p := (((numI ((partsB 32 s)[4]!)) < 0)) ∨ ((¬ ((numI ((partsB 32 s)[4]!)) < 0)) ∧ (255 < (numI ((partsB 32 s)[4]!))))) rfl hb381 (fun h388 => ?_) (fun h388 => ?_)
       ·refine WP.seq (wR (oP 1 [2, 64] (qe0 g3) fun b389 => ?_))
        refine OPS.cons (opStep.store2 hp384 rfl [iI 0, iI 0, iI 0] [iI 0, iI 0, iI 0] (by kernel_rfl) (fun w390 hp391 => ?_))
        refine oP 2 [2, 3, 4] [pP g3, iI 0, iI 1] fun b392 => ?_
        refine OPS.nil (thn_n (WP.ret (thn_r ?_)))
        refine bodyQ.of _ rfl qe3 ⟨⟨_, rfl, (lN 43 0 [iI 0, iI 0, iI 0] hp391.get2)⟩, rfl, rfl, trivial⟩ ?_
        have g0 : (partsB 32 s).length = 5 := Classical.byContradiction fun q => h32 (.inl (fun z => q (by omega)))
        have g1 : (partsB 32 s)[0]! = wCfg := Classical.byContradiction fun q => h32 (.inr ⟨by omega, q⟩)
        have gs := conf_good g0 g1 h58 h84 h110 h136
        have hok : okCfg ⟨(numI ((partsB 32 s)[1]!)), (numI ((partsB 32 s)[2]!)), (numI ((partsB 32 s)[3]!))⟩ := Classical.byContradiction fun q => absurd ((qChk_no q).symm.trans h361) (by decide)
        exact ⟨⟨0, 0, 0⟩, 0, 1, rfl, .inr ⟨_, _, _, _, numI_in _, numI_in _, numI_in _, numI_in _, gs, .inr (.inl ⟨hok, by omega, rfl, rfl, rfl⟩)⟩, hp391.fr⟩
       ·refine WP.skip (thn_n (WP.seq (wR (oQ 2 {} [.agg #[iI (numI ((partsB 32 s)[1]!)), iI (numI ((partsB 32 s)[2]!)), iI (numI ((partsB 32 s)[3]!))]] [2, 65, 66] [pP g3, .agg #[iI (numI ((partsB 32 s)[1]!)), iI (numI ((partsB 32 s)[2]!)), iI (numI ((partsB 32 s)[3]!))], iI (numI ((partsB 32 s)[4]!))] (.cons (lN 43 0 [iI (numI ((partsB 32 s)[1]!)), iI (numI ((partsB 32 s)[2]!)), iI (numI ((partsB 32 s)[3]!))] hp384.get0) .nil) fun b393 => ?_))))
        refine OPS.cons (opStep.store2 hp384 rfl [iI (numI ((partsB 32 s)[1]!)), iI (numI ((partsB 32 s)[2]!)), iI (numI ((partsB 32 s)[3]!))] [iI (numI ((partsB 32 s)[1]!)), iI (numI ((partsB 32 s)[2]!)), iI (numI ((partsB 32 s)[3]!))] (by kernel_rfl) (fun w394 hp395 => ?_))
        refine oP 2 [2, 3, 4] [pP g3, iI (numI ((partsB 32 s)[4]!)), iI 0] fun b396 => ?_
        refine OPS.nil (thn_n (WP.ret ?_))
        refine bodyQ.of _ rfl [.agg #[iI (numI ((partsB 32 s)[1]!)), iI (numI ((partsB 32 s)[2]!)), iI (numI ((partsB 32 s)[3]!))], iI (numI ((partsB 32 s)[4]!)), iI 0] ⟨⟨_, rfl, (lN 43 0 [iI (numI ((partsB 32 s)[1]!)), iI (numI ((partsB 32 s)[2]!)), iI (numI ((partsB 32 s)[3]!))] hp395.get2)⟩, rfl, rfl, trivial⟩ ?_
        have g0 : (partsB 32 s).length = 5 := Classical.byContradiction fun q => h32 (.inl (fun z => q (by omega)))
        have g1 : (partsB 32 s)[0]! = wCfg := Classical.byContradiction fun q => h32 (.inr ⟨by omega, q⟩)
        have gs := conf_good g0 g1 h58 h84 h110 h136
        have hok : okCfg ⟨(numI ((partsB 32 s)[1]!)), (numI ((partsB 32 s)[2]!)), (numI ((partsB 32 s)[3]!))⟩ := Classical.byContradiction fun q => absurd ((qChk_no q).symm.trans h361) (by decide)
        exact ⟨⟨(numI ((partsB 32 s)[1]!)), (numI ((partsB 32 s)[2]!)), (numI ((partsB 32 s)[3]!))⟩, (numI ((partsB 32 s)[4]!)), 0, rfl, .inr ⟨_, _, _, _, numI_in _, numI_in _, numI_in _, numI_in _, gs, .inr (.inr ⟨hok, by omega, by omega, rfl, rfl, rfl⟩)⟩, hp395.fr⟩

end Go.Proofs.YtbpedjefoajegaaDoor.K
