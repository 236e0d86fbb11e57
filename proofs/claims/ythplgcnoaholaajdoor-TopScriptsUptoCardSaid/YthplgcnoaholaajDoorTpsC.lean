/- The walks of TpsC: what each function computes. -/
import Derived.Test.YthplgcnoaholaajDoorProg
import Derived.Test.YthplgcnoaholaajDoorCoreO
import Derived.Test.YthplgcnoaholaajDoorTpsB
import Derived.Test.YthplgcnoaholaajDoorCoreV
namespace Go.Proofs.YthplgcnoaholaajDoor.K
open Go Go.Proofs Go.RowKit
set_option linter.unusedVariables false
set_option linter.unusedSimpArgs false
set_option maxRecDepth 20000
set_option maxHeartbeats 4000000

theorem tp_lines (s : ByteArray) (hs : s.size ≤ 8796093022200) (w : World) :
    Calls Tryd.prog 11 #[.string s] w (fun r_ w' => ∃ a n c, r_ = .returned (.slice a n c) ∧ Hp w Non [Res.own 9 1 (.slice a n c) n (List.flatMap strc (linesB s))] w') := by
  refine calls_of Tryd.func11 rfl 36 rfl (by simp) ?_
  have hp0 := Hp.init w
  have he0 : List.map (env0 [.string s]) [0] = [.string s] := by kernel_rfl
  obtain ⟨b0, he0⟩ := toMk he0
  rw [he0]
  clear he0
  refine WP.seq ?_
  refine WP.pure {} [] [0] [.string s] .nil (by kernel_rfl) (fun b1 => ?_)
  refine thn_n ?_
  refine WP.seq ?_
  refine WP.pure {} [] [0, 3] [.string s, .slice none 0 0] .nil (by kernel_rfl) (fun b2 => ?_)
  refine thn_n ?_
  refine WP.seq ?_
  refine WP.pure {} [] [0, 3, 4] [.string s, .slice none 0 0, .int .i64 0] .nil (by kernel_rfl) (fun b3 => ?_)
  refine thn_n ?_
  refine WP.seq ?_
  refine WP.seq ?_
  refine WP.pure {} [] [0, 3, 4, 5] [.string s, .slice none 0 0, .int .i64 0, .int .i64 0] .nil (by kernel_rfl) (fun b4 => ?_)
  refine thn_n ?_
  refine WP.block ?_
  have hp5 := (show Hp w Non [Res.own 9 1 (.slice none 0 0) 0 (List.flatMap strc ([] : List ByteArray))] w from hp0.nilOwn 9 1)
  refine WP.loop (fun mz_ e6 w7 => ∃ (p : Nat) (a : Nat) (xs : List ByteArray) (ao : Option Addr) (no : Nat) (co : Nat), mz_ = s.size - p ∧ (LnI s xs a p ∧ xs.length ≤ p) ∧ List.map e6 [0, 3, 4, 5] = [.string s, .slice ao no co, .int .i64 ((a : Nat) : Int), .int .i64 ((p : Nat) : Int)] ∧ Hp w Non [Res.own 9 1 (.slice ao no co) no (List.flatMap strc xs)] w7) (s.size - (0)) ⟨0, 0, [], none, 0, 0, rfl, ⟨⟨Nat.le_refl _, Nat.zero_le _, lines_start s⟩, by simp⟩, by kernel_rfl, hp5⟩ ?_
  rintro _ e6 w7 ⟨p, a, xs, ao, no, co, rfl, hI9, hE10, hp8⟩
  obtain ⟨b11, rfl⟩ := toMk hE10
  clear hE10
  obtain ⟨pa, pz⟩ := hI9
  have pe := own_flat (sz := 1) (fun _ => rfl) (by decide) hp8.get0
  have pb := pa.1
  have pc := pa.2.1
  refine WP.seq ?_
  refine WP.seq ?_
  refine WP.pure {} [] [0, 3, 4, 5, 9] [.string s, .slice ao no co, .int .i64 ((a : Nat) : Int), .int .i64 ((p : Nat) : Int), .bool (decide (((p : Nat) : Int) < (s.size : Int)))] .nil (by kernel_rfl) (fun b12 => ?_)
  refine thn_n ?_
  refine WP.test (p := ((p : Nat) : Int) < (s.size : Int)) rfl Bp.dec (fun h13 => ?_) (fun h13 => ?_)
  · refine WP.skip ?_
    refine thn_n ?_
    refine WP.seq ?_
    refine WP.block ?_
    refine WP.seq ?_
    refine WP.pure {} [] [0, 3, 4, 5, 15] [.string s, .slice ao no co, .int .i64 ((a : Nat) : Int), .int .i64 ((p : Nat) : Int), .bool (decide ((byteAt s (((p : Nat) : Int))) = 10))] (.cons (show InB (((p : Nat) : Int)) s.size from ⟨by omega, by omega⟩) .nil) (by kernel_rfl) (fun b14 => ?_)
    refine thn_n ?_
    refine WP.test (p := (byteAt s (((p : Nat) : Int))) = 10) rfl Bp.dec (fun h15 => ?_) (fun h15 => ?_)
    · refine WP.seq ?_
      refine WP.region _ rfl (by kernel_rfl) ?_
      refine OPS.batch 5 {} [] [0, 5, 16, 20] [.string s, .int .i64 ((p : Nat) : Int), .slice ao no co, .string (s.extract (a) (p))] (.cons (show (0 : Int) ≤ ((a : Nat) : Int) ∧ ((a : Nat) : Int) ≤ ((p : Nat) : Int) ∧ ((p : Nat) : Int) ≤ (s.size : Int) from ⟨by omega, by omega, by omega⟩) .nil) (by kernel_rfl) (fun b16 => ?_)
      refine OPS.cons (opStep.buildSlice (E := 9) hp8 [.string (s.extract (a) (p))] (by kernel_rfl) (fun g19 w17 hp18 => ?_))
      refine OPS.cons (opStep.append1 [.string (s.extract (a) (p))] hp18 16 (by kernel_rfl) rfl rfl rfl (SlR.row (n := 1) hp18.get0 rfl).rd (List.all_eq_true.1 (by kernel_rfl)) (by decide) (by omega) (by omega) (fun a22 c23 w24 hp25 hn26 => ?_))
      rw [(show List.flatMap strc xs ++ [.string (s.extract (a) (p))] = List.flatMap strc (xs ++ [s.extract (a) (p)]) from (List.flatMap_append (xs := xs) (ys := [s.extract (a) (p)])).symm)] at hp25
      refine OPS.batch 1 {} [] [0, 3, 5] [.string s, .slice a22 (no + 1) c23, .int .i64 ((p : Nat) : Int)] .nil (by kernel_rfl) (fun b27 => ?_)
      refine OPS.nil ?_
      refine thn_n ?_
      refine WP.pure { subs := [24] } [.int .i64 ((p + 1 : Nat) : Int)] [0, 3, 4, 5] [.string s, .slice a22 (no + 1) c23, .int .i64 ((p + 1 : Nat) : Int), .int .i64 ((p : Nat) : Int)] (.cons (show Rng .i64 (((p : Nat) : Int) + 1) from Rng.i64 (by omega)) (.cons (show (.int .i64 (((p : Nat) : Int) + 1) : Go.Value) = .int .i64 ((p + 1 : Nat) : Int) from congrArg (Value.int .i64) ((show ((p : Nat) : Int) + 1 = ((p + 1 : Nat) : Int) from rfl))) .nil)) (by kernel_rfl) (fun b28 => ?_)
      refine blk_n ?_
      refine thn_n ?_
      refine WP.pure { subs := [11] } [.int .i64 ((p + 1 : Nat) : Int)] [0, 3, 4, 5] [.string s, .slice a22 (no + 1) c23, .int .i64 ((p + 1 : Nat) : Int), .int .i64 ((p + 1 : Nat) : Int)] (.cons (show Rng .i64 (((p : Nat) : Int) + 1) from Rng.i64 (by omega)) (.cons (show (.int .i64 (((p : Nat) : Int) + 1) : Go.Value) = .int .i64 ((p + 1 : Nat) : Int) from congrArg (Value.int .i64) ((show ((p : Nat) : Int) + 1 = ((p + 1 : Nat) : Int) from rfl))) .nil)) (by kernel_rfl) (fun b29 => ?_)
      refine thn_n ?_
      exact ⟨s.size - (p + 1), (by omega), p + 1, p + 1, xs ++ [s.extract (a) (p)], a22, no + 1, c23, rfl, ⟨(ln_byte pa (by omega)).1 h15, by first | omega | (simp only [List.length_append, List.length_cons, List.length_nil]; omega)⟩, by kernel_rfl, (hp25.sub (.cons _ (.cons_cons _ (.slnil))))⟩
    · refine WP.skip ?_
      refine blk_n ?_
      refine thn_n ?_
      refine WP.pure { subs := [11] } [.int .i64 ((p + 1 : Nat) : Int)] [0, 3, 4, 5] [.string s, .slice ao no co, .int .i64 ((a : Nat) : Int), .int .i64 ((p + 1 : Nat) : Int)] (.cons (show Rng .i64 (((p : Nat) : Int) + 1) from Rng.i64 (by omega)) (.cons (show (.int .i64 (((p : Nat) : Int) + 1) : Go.Value) = .int .i64 ((p + 1 : Nat) : Int) from congrArg (Value.int .i64) ((show ((p : Nat) : Int) + 1 = ((p + 1 : Nat) : Int) from rfl))) .nil)) (by kernel_rfl) (fun b30 => ?_)
      refine thn_n ?_
      exact ⟨s.size - (p + 1), (by omega), p + 1, a, xs, ao, no, co, rfl, ⟨(ln_byte pa (by omega)).2 h15, by first | omega | (simp only [List.length_append, List.length_cons, List.length_nil]; omega)⟩, by kernel_rfl, hp8⟩
  · refine WP.exit ?_
    refine thn_x ?_
    refine thn_x ?_
    refine blk_hit ?_
    refine thn_n ?_
    refine WP.seq ?_
    refine WP.seq ?_
    refine WP.pure {} [] [0, 3, 4, 28] [.string s, .slice ao no co, .int .i64 ((a : Nat) : Int), .bool (decide (((a : Nat) : Int) < (s.size : Int)))] .nil (by kernel_rfl) (fun b31 => ?_)
    refine thn_n ?_
    refine WP.test (p := ((a : Nat) : Int) < (s.size : Int)) rfl Bp.dec (fun h32 => ?_) (fun h32 => ?_)
    · refine WP.region _ rfl (by kernel_rfl) ?_
      refine OPS.batch 4 {} [] [29, 32] [.slice ao no co, .string (s.extract (a) s.size)] (.cons (show (0 : Int) ≤ ((a : Nat) : Int) ∧ ((a : Nat) : Int) ≤ (s.size : Int) from ⟨by omega, by omega⟩) .nil) (by kernel_rfl) (fun b33 => ?_)
      refine OPS.cons (opStep.buildSlice (E := 9) hp8 [.string (s.extract (a) s.size)] (by kernel_rfl) (fun g36 w34 hp35 => ?_))
      refine OPS.cons (opStep.append1 [.string (s.extract (a) s.size)] hp35 16 (by kernel_rfl) rfl rfl rfl (SlR.row (n := 1) hp35.get0 rfl).rd (List.all_eq_true.1 (by kernel_rfl)) (by decide) (by omega) (by omega) (fun a39 c40 w41 hp42 hn43 => ?_))
      rw [(show List.flatMap strc xs ++ [.string (s.extract (a) s.size)] = List.flatMap strc (xs ++ [s.extract (a) s.size]) from (List.flatMap_append (xs := xs) (ys := [s.extract (a) s.size])).symm)] at hp42
      refine OPS.batch 1 {} [] [3] [.slice a39 (no + 1) c40] .nil (by kernel_rfl) (fun b44 => ?_)
      refine OPS.nil ?_
      refine thn_n ?_
      refine WP.seq ?_
      refine WP.pure {} [] [2] [.slice a39 (no + 1) c40] .nil (by kernel_rfl) (fun b45 => ?_)
      refine thn_n ?_
      refine WP.ret ?_
      refine bodyQ.of _ rfl [.slice a39 (no + 1) c40] ⟨rfl, trivial⟩ ?_
      have hle := ln_end pa (by omega)
      rw [if_pos (by omega)] at hle
      exact ⟨_, _, _, rfl, by rw [hle]; exact (hp42.sub (.cons _ (.cons_cons _ (.slnil))))⟩
    · refine WP.skip ?_
      refine thn_n ?_
      refine WP.seq ?_
      refine WP.pure {} [] [2] [.slice ao no co] .nil (by kernel_rfl) (fun b46 => ?_)
      refine thn_n ?_
      refine WP.ret ?_
      refine bodyQ.of _ rfl [.slice ao no co] ⟨rfl, trivial⟩ ?_
      have hle := ln_end pa (by omega)
      rw [if_neg (by omega)] at hle
      rw [List.append_nil] at hle
      exact ⟨_, _, _, rfl, by rw [hle]; exact hp8⟩

end Go.Proofs.YthplgcnoaholaajDoor.K
