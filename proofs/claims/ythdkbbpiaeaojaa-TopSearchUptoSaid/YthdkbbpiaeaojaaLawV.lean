/- The walks of LawV: what each function computes. -/
import Derived.Test.YthdkbbpiaeaojaaProg
import Derived.Test.YthdkbbpiaeaojaaCoreO
import Derived.Test.YthdkbbpiaeaojaaLawM
import Derived.Test.YthdkbbpiaeaojaaCoreV
namespace Go.Proofs.Ythdkbbpiaeaojaa.K
open Go Go.Proofs Go.RowKit
set_option linter.unusedVariables false
set_option linter.unusedSimpArgs false
set_option maxRecDepth 20000
set_option maxHeartbeats 4000000

structure Gsherdlaw20_Turn where
  Put : Bool
  Value : Int
  Early : Int
  Late : Int
  Never : Bool
  Absent : Bool
def Gsherdlaw20_Turn.cells (x : Gsherdlaw20_Turn) : List Go.Value := [.bool x.Put, .int .i64 x.Value, .int .i64 x.Early, .int .i64 x.Late, .bool x.Never, .bool x.Absent]
def Gsherdlaw20_Turn.val (x : Gsherdlaw20_Turn) : Go.Value := .agg x.cells.toArray
instance : Inhabited Gsherdlaw20_Turn := ⟨⟨false, 0, 0, 0, false, false⟩⟩
theorem Gsherdlaw20_Turn.len (x : Gsherdlaw20_Turn) : x.cells.length = 6 := rfl
def atT (i : Nat) : Int := 100 * (i : Int) + 1000
def frT (i : Nat) (t : Gsherdlaw20_Turn) : Int := atT i - modI t.Early 500
def toT (i : Nat) (t : Gsherdlaw20_Turn) : Int := if 0 < modI t.Late 4 then atT i + 1 + modI t.Late 500 else -1
def abcL : List ByteArray := [⟨#[97]⟩, ⟨#[98]⟩, ⟨#[99]⟩]
def abcV (z : Int) : ByteArray := abcL[(modI z 3).toNat]!
def regV (ts : List Gsherdlaw20_Turn) : Nat → ByteArray
  | 0 => ⟨#[]⟩
  | k + 1 => if ts[k]!.Put = true ∧ ¬ ts[k]!.Never = true then abcV ts[k]!.Value else regV ts k
def neverB : ByteArray := ⟨#[110, 101, 118, 101, 114]⟩
def livC (ts : List Gsherdlaw20_Turn) (i : Nat) : (Bool × Bool × Int × Int × Int) × ByteArray :=
  if ts[i]!.Put = true ∧ ts[i]!.Never = true then ((true, true, frT i ts[i]!, -1, 0), neverB)
  else if ts[i]!.Put = true then ((true, decide (toT i ts[i]! < 0), frT i ts[i]!, toT i ts[i]!, 0), abcV ts[i]!.Value)
  else ((false, false, frT i ts[i]!, toT i ts[i]!, if regV ts i = ⟨#[]⟩ then 76 else 0), regV ts i)
def livB (ts : List Gsherdlaw20_Turn) (cl : List GCall) (vs : List ByteArray) (k : Nat) : Prop := cl.length = k ∧ vs.length = k ∧ ∀ i, i < k → coreC cl[i]! = (livC ts i).1 ∧ vs[i]! = (livC ts i).2
theorem livB_step {ts : List Gsherdlaw20_Turn} {cl : List GCall} {vs : List ByteArray} {k : Nat} {x : GCall} {v : ByteArray} (h : livB ts cl vs k) (h1 : coreC x = (livC ts k).1) (h2 : v = (livC ts k).2) : livB ts (cl ++ [x]) (vs ++ [v]) (k + 1) := by
  obtain ⟨a, b, c⟩ := h
  refine ⟨by simp [a], by simp [b], fun i hi => ?_⟩
  rw [app_bang (by omega), app_bang (by omega)]
  by_cases hlt : i < k
  · rw [if_pos (by omega), if_pos (by omega)]; exact c i hlt
  · obtain rfl : i = k := by omega
    rw [if_neg (by omega), if_neg (by omega)]; exact ⟨h1, h2⟩

theorem law20_lived (w : World) (s1 : SlH) (l1 : List Gsherdlaw20_Turn) (o1 : SlR w s1.a s1.n (l1.flatMap Gsherdlaw20_Turn.cells)) (hn1 : s1.n = l1.length) (hc1 : s1.n ≤ 17592186043904) :
    Calls Try.prog 28 #[.slice s1.a s1.n s1.c, .int .i64 24] w (fun r_ w' => ∃ ao no co cl vs F, r_ = .returned (.slice ao no co) ∧ ∃ k, k ≤ 24 ∧ k ≤ l1.length ∧ livB l1 cl vs k ∧ Hp w Non [Res.own 41 11 (.slice ao no co) no (List.flatMap GCall.cells cl), Res.vl F cl vs] w') := by
  refine calls_of Try.func28 rfl 77 rfl (by simp) ?_
  have hp0 := Hp.init w
  have he0 : List.map (env0 [.slice s1.a s1.n s1.c, .int .i64 24]) [0, 1] = [.slice s1.a s1.n s1.c, .int .i64 24] := by kernel_rfl
  obtain ⟨b0, he0⟩ := toMk he0
  rw [he0]
  clear he0
  refine WP.seq ?_
  refine WP.pure {} [] [0, 1] [.slice s1.a s1.n s1.c, .int .i64 24] .nil (by kernel_rfl) (fun b1 => ?_)
  refine thn_n ?_
  refine WP.seq ?_
  refine WP.pure {} [] [0, 1, 5] [.slice s1.a s1.n s1.c, .int .i64 24, .slice none 0 0] .nil (by kernel_rfl) (fun b2 => ?_)
  refine thn_n ?_
  refine WP.seq ?_
  refine WP.pure {} [] [0, 1, 5, 6] [.slice s1.a s1.n s1.c, .int .i64 24, .slice none 0 0, .string ⟨#[]⟩] .nil (by kernel_rfl) (fun b3 => ?_)
  refine thn_n ?_
  refine WP.seq ?_
  refine WP.seq ?_
  refine WP.pure {} [] [1, 5, 6, 12, 13, 14] [.int .i64 24, .slice none 0 0, .string ⟨#[]⟩, .slice s1.a s1.n s1.c, .int .i64 ((s1.n : Nat) : Int), .int .i64 0] .nil (by kernel_rfl) (fun b4 => ?_)
  refine thn_n ?_
  refine WP.block ?_
  have hp5 := hp0.vlNil
  have hp6 := hp5.nilOwn 41 11
  rw [show ([] : List Go.Value) = List.flatMap GCall.cells ([] : List GCall) from rfl] at hp6
  refine WP.loop (fun mz_ e7 w8 => ∃ (k : Nat) (cl : List GCall) (vs : List ByteArray) (F : Nat → Prop) (ao : Option Addr) (no : Nat) (co : Nat) (v : ByteArray), mz_ = l1.length - k ∧ ((k ≤ l1.length ∧ k ≤ 24) ∧ livB l1 cl vs k ∧ v = regV l1 k) ∧ List.map e7 [1, 5, 6, 12, 13, 14] = [.int .i64 24, .slice ao no co, .string v, .slice s1.a s1.n s1.c, .int .i64 ((s1.n : Nat) : Int), .int .i64 (k : Int)] ∧ Hp w Non [Res.own 41 11 (.slice ao no co) no (List.flatMap GCall.cells cl), Res.vl F cl vs] w8) (l1.length - (0)) ⟨0, [], [], fun _ => False, none, 0, 0, ⟨#[]⟩, rfl, ⟨⟨by omega, by omega⟩, ⟨rfl, rfl, fun i hi => by omega⟩, rfl⟩, by kernel_rfl, hp6⟩ ?_
  rintro _ e7 w8 ⟨k, cl, vs, F, ao, no, co, v, rfl, hI10, hE11, hp9⟩
  obtain ⟨b12, rfl⟩ := toMk hE11
  clear hE11
  obtain ⟨pa, pb, pc⟩ := hI10
  have pd := pb.1
  have pe := own_flat (sz := 11) (fun _ => rfl) (by decide) hp9.get0
  refine WP.seq ?_
  refine WP.pure {} [] [1, 5, 6, 12, 13, 14, 15] [.int .i64 24, .slice ao no co, .string v, .slice s1.a s1.n s1.c, .int .i64 ((s1.n : Nat) : Int), .int .i64 (k : Int), .bool (decide ((k : Int) < ((s1.n : Nat) : Int)))] .nil (by kernel_rfl) (fun b13 => ?_)
  refine thn_n ?_
  refine WP.seq ?_
  refine WP.test (p := (k : Int) < ((s1.n : Nat) : Int)) rfl Bp.dec (fun h14 => ?_) (fun h14 => ?_)
  · refine WP.skip ?_
    refine thn_n ?_
    refine WP.seq ?_
    refine WP.block ?_
    refine WP.seq ?_
    refine WP.region _ rfl (by kernel_rfl) ?_
    have hy18 : (l1)[k]? = some l1[k]! := get_bang (by first | (omega) | (simp only [List.length_append, List.length_cons, List.length_nil]; omega))
    refine OPS.batch 3 {} [Gsherdlaw20_Turn.val (l1[k]!)] [1, 5, 6, 12, 13, 14, 16, 18] [.int .i64 24, .slice ao no co, .string v, .slice s1.a s1.n s1.c, .int .i64 ((s1.n : Nat) : Int), .int .i64 (k : Int), .int .i64 (k : Int), Gsherdlaw20_Turn.val (l1[k]!)] (.cons (show InB ((k : Int)) (s1.n) from ⟨by omega, by omega⟩) (.cons ((o1.at hp9).some (by omega)) (.cons (Ld.add0 (Ld.elN (P := Try.prog) (t := 128) (o1.at hp9).rd 6 (fun _ => rfl) hy18 (o := 0) (cs := [.bool (l1[k]!.Put), .int .i64 (l1[k]!.Value), .int .i64 (l1[k]!.Early), .int .i64 (l1[k]!.Late), .bool (l1[k]!.Never), .bool (l1[k]!.Absent)]) (by kernel_rfl))) .nil))) (by kernel_rfl) (fun b19 => ?_)
    refine OPS.cons (opStep.alloc hp9 [.bool false, .int .i64 0, .int .i64 0, .int .i64 0, .bool false, .bool false] (by kernel_rfl) (fun g22 w20 hp21 => ?_))
    refine OPS.batch 1 {} [] [1, 5, 6, 7, 8, 12, 13, 14, 18] [.int .i64 24, .slice ao no co, .string v, .int .i64 (k : Int), .pointer (some ⟨g22, 0, none⟩), .slice s1.a s1.n s1.c, .int .i64 ((s1.n : Nat) : Int), .int .i64 (k : Int), Gsherdlaw20_Turn.val (l1[k]!)] .nil (by kernel_rfl) (fun b23 => ?_)
    refine OPS.cons (opStep.store0 hp21 rfl [.bool (l1[k]!.Put), .int .i64 (l1[k]!.Value), .int .i64 (l1[k]!.Early), .int .i64 (l1[k]!.Late), .bool (l1[k]!.Never), .bool (l1[k]!.Absent)] [.bool (l1[k]!.Put), .int .i64 (l1[k]!.Value), .int .i64 (l1[k]!.Early), .int .i64 (l1[k]!.Late), .bool (l1[k]!.Never), .bool (l1[k]!.Absent)] (by kernel_rfl) (fun w24 hp25 => ?_))
    refine OPS.nil ?_
    refine thn_n ?_
    refine WP.seq ?_
    refine WP.seq ?_
    refine WP.pure {} [] [1, 5, 6, 7, 8, 12, 13, 14, 21] [.int .i64 24, .slice ao no co, .string v, .int .i64 (k : Int), .pointer (some ⟨g22, 0, none⟩), .slice s1.a s1.n s1.c, .int .i64 ((s1.n : Nat) : Int), .int .i64 (k : Int), .bool (decide ((k : Int) = 24))] .nil (by kernel_rfl) (fun b26 => ?_)
    refine thn_n ?_
    refine WP.test (p := (k : Int) = 24) rfl Bp.dec (fun h27 => ?_) (fun h27 => ?_)
    · refine WP.exit ?_
      refine thn_x ?_
      refine blk_miss rfl ?_
      refine thn_x ?_
      refine thn_x ?_
      refine blk_hit ?_
      refine thn_n ?_
      refine WP.seq ?_
      refine WP.pure {} [] [4] [.slice ao no co] .nil (by kernel_rfl) (fun b28 => ?_)
      refine thn_n ?_
      refine WP.ret ?_
      refine bodyQ.of _ rfl [.slice ao no co] ⟨rfl, trivial⟩ ?_
      exact ⟨ao, no, co, cl, vs, F, rfl, k, by omega, by omega, pb, (hp25.sub (.cons _ (.cons_cons _ (.cons_cons _ (.slnil)))))⟩
    · refine WP.skip ?_
      refine thn_n ?_
      refine WP.seq ?_
      refine WP.pure {} [] [1, 5, 6, 8, 9, 12, 13, 14] [.int .i64 24, .slice ao no co, .string v, .pointer (some ⟨g22, 0, none⟩), .int .i64 ((100 * (k : Int)) + 1000), .slice s1.a s1.n s1.c, .int .i64 ((s1.n : Nat) : Int), .int .i64 (k : Int)] (.cons (show Rng .i64 (100 * (k : Int)) from Rng.i64 (by omega)) (.cons (show Rng .i64 ((100 * (k : Int)) + 1000) from Rng.i64 (by omega)) .nil)) (by kernel_rfl) (fun b29 => ?_)
      refine thn_n ?_
      refine WP.seq ?_
      refine WP.region _ rfl (by kernel_rfl) ?_
      refine OPS.batch 3 {} [.int .i64 (l1[k]!.Early)] [1, 5, 6, 8, 9, 12, 13, 14, 25, 27] [.int .i64 24, .slice ao no co, .string v, .pointer (some ⟨g22, 0, none⟩), .int .i64 ((100 * (k : Int)) + 1000), .slice s1.a s1.n s1.c, .int .i64 ((s1.n : Nat) : Int), .int .i64 (k : Int), .int .i64 ((100 * (k : Int)) + 1000), .int .i64 (l1[k]!.Early)] (.cons (Ld.row1 (P := Try.prog) (t := 3) (o := 2) (v := .int .i64 (l1[k]!.Early)) hp25.get0 (by kernel_rfl)) .nil) (by kernel_rfl) (fun b30 => ?_)
      refine OPS.cons (opStep.call (some 28) [.int .i64 (l1[k]!.Early), .int .i64 500] (by kernel_rfl) (law20_mod (l1[k]!.Early) 500 _ (by omega) (by omega)) ?_)
      rintro _ w33 ⟨rfl, hf34⟩
      refine ⟨_, rfl, ?_⟩
      have hp35 := hp25.step hf34
      have := modI_bd (l1[k]!.Early) (k := 500) (by omega)
      refine OPS.batch 2 {} [] [1, 5, 6, 8, 9, 10, 12, 13, 14] [.int .i64 24, .slice ao no co, .string v, .pointer (some ⟨g22, 0, none⟩), .int .i64 ((100 * (k : Int)) + 1000), .int .i64 (((100 * (k : Int)) + 1000) - (modI (l1[k]!.Early) 500)), .slice s1.a s1.n s1.c, .int .i64 ((s1.n : Nat) : Int), .int .i64 (k : Int)] (.cons (show Rng .i64 (((100 * (k : Int)) + 1000) - (modI (l1[k]!.Early) 500)) from Rng.i64 (by omega)) .nil) (by kernel_rfl) (fun b36 => ?_)
      refine OPS.nil ?_
      refine thn_n ?_
      refine WP.seq ?_
      refine WP.pure {} [] [1, 5, 6, 8, 9, 10, 11, 12, 13, 14] [.int .i64 24, .slice ao no co, .string v, .pointer (some ⟨g22, 0, none⟩), .int .i64 ((100 * (k : Int)) + 1000), .int .i64 (((100 * (k : Int)) + 1000) - (modI (l1[k]!.Early) 500)), .int .i64 (-1), .slice s1.a s1.n s1.c, .int .i64 ((s1.n : Nat) : Int), .int .i64 (k : Int)] .nil (by kernel_rfl) (fun b37 => ?_)
      refine thn_n ?_
      refine WP.cut (fun e55 w56 => ∃ (x54 : Int), ((x54 = (((100 * (k : Int)) + 1000) + 1) + (modI (l1[k]!.Late) 500) ∧ (0 < (modI (l1[k]!.Late) 4)) ∧ True) ∨ (x54 = (-1) ∧ (¬ (0 < (modI (l1[k]!.Late) 4))) ∧ True)) ∧ List.map e55 [1, 5, 6, 8, 10, 11, 12, 13, 14] = [.int .i64 24, .slice ao no co, .string v, .pointer (some ⟨g22, 0, none⟩), .int .i64 (((100 * (k : Int)) + 1000) - (modI (l1[k]!.Early) 500)), .int .i64 x54, .slice s1.a s1.n s1.c, .int .i64 ((s1.n : Nat) : Int), .int .i64 (k : Int)] ∧ Hp w Non [Res.row g22 [.bool (l1[k]!.Put), .int .i64 (l1[k]!.Value), .int .i64 (l1[k]!.Early), .int .i64 (l1[k]!.Late), .bool (l1[k]!.Never), .bool (l1[k]!.Absent)] 128, Res.own 41 11 (.slice ao no co) no (List.flatMap GCall.cells cl), Res.vl F cl vs] w56) ?_ ?_
      · refine WP.seq ?_
        refine WP.region _ rfl (by kernel_rfl) ?_
        refine OPS.batch 2 {} [.int .i64 (l1[k]!.Late)] [1, 5, 6, 8, 9, 10, 11, 12, 13, 14, 31] [.int .i64 24, .slice ao no co, .string v, .pointer (some ⟨g22, 0, none⟩), .int .i64 ((100 * (k : Int)) + 1000), .int .i64 (((100 * (k : Int)) + 1000) - (modI (l1[k]!.Early) 500)), .int .i64 (-1), .slice s1.a s1.n s1.c, .int .i64 ((s1.n : Nat) : Int), .int .i64 (k : Int), .int .i64 (l1[k]!.Late)] (.cons (Ld.row1 (P := Try.prog) (t := 3) (o := 3) (v := .int .i64 (l1[k]!.Late)) hp35.get0 (by kernel_rfl)) .nil) (by kernel_rfl) (fun b39 => ?_)
        refine OPS.cons (opStep.call (some 32) [.int .i64 (l1[k]!.Late), .int .i64 4] (by kernel_rfl) (law20_mod (l1[k]!.Late) 4 _ (by omega) (by omega)) ?_)
        rintro _ w42 ⟨rfl, hf43⟩
        refine ⟨_, rfl, ?_⟩
        have hp44 := hp35.step hf43
        have := modI_bd (l1[k]!.Late) (k := 4) (by omega)
        refine OPS.batch 1 {} [] [1, 5, 6, 8, 9, 10, 11, 12, 13, 14, 33] [.int .i64 24, .slice ao no co, .string v, .pointer (some ⟨g22, 0, none⟩), .int .i64 ((100 * (k : Int)) + 1000), .int .i64 (((100 * (k : Int)) + 1000) - (modI (l1[k]!.Early) 500)), .int .i64 (-1), .slice s1.a s1.n s1.c, .int .i64 ((s1.n : Nat) : Int), .int .i64 (k : Int), .bool (decide (0 < (modI (l1[k]!.Late) 4)))] .nil (by kernel_rfl) (fun b45 => ?_)
        refine OPS.nil ?_
        refine thn_n ?_
        refine WP.test (p := 0 < (modI (l1[k]!.Late) 4)) rfl Bp.dec (fun h46 => ?_) (fun h46 => ?_)
        · refine WP.region _ rfl (by kernel_rfl) ?_
          refine OPS.batch 4 {} [.int .i64 (l1[k]!.Late)] [1, 5, 6, 8, 10, 12, 13, 14, 35, 37] [.int .i64 24, .slice ao no co, .string v, .pointer (some ⟨g22, 0, none⟩), .int .i64 (((100 * (k : Int)) + 1000) - (modI (l1[k]!.Early) 500)), .slice s1.a s1.n s1.c, .int .i64 ((s1.n : Nat) : Int), .int .i64 (k : Int), .int .i64 (((100 * (k : Int)) + 1000) + 1), .int .i64 (l1[k]!.Late)] (.cons (show Rng .i64 (((100 * (k : Int)) + 1000) + 1) from Rng.i64 (by omega)) (.cons (Ld.row1 (P := Try.prog) (t := 3) (o := 3) (v := .int .i64 (l1[k]!.Late)) hp44.get0 (by kernel_rfl)) .nil)) (by kernel_rfl) (fun b47 => ?_)
          refine OPS.cons (opStep.call (some 38) [.int .i64 (l1[k]!.Late), .int .i64 500] (by kernel_rfl) (law20_mod (l1[k]!.Late) 500 _ (by omega) (by omega)) ?_)
          rintro _ w50 ⟨rfl, hf51⟩
          refine ⟨_, rfl, ?_⟩
          have hp52 := hp44.step hf51
          have := modI_bd (l1[k]!.Late) (k := 500) (by omega)
          refine OPS.batch 2 {} [] [1, 5, 6, 8, 10, 11, 12, 13, 14] [.int .i64 24, .slice ao no co, .string v, .pointer (some ⟨g22, 0, none⟩), .int .i64 (((100 * (k : Int)) + 1000) - (modI (l1[k]!.Early) 500)), .int .i64 ((((100 * (k : Int)) + 1000) + 1) + (modI (l1[k]!.Late) 500)), .slice s1.a s1.n s1.c, .int .i64 ((s1.n : Nat) : Int), .int .i64 (k : Int)] (.cons (show Rng .i64 ((((100 * (k : Int)) + 1000) + 1) + (modI (l1[k]!.Late) 500)) from Rng.i64 (by omega)) .nil) (by kernel_rfl) (fun b53 => ?_)
          refine OPS.nil ?_
          refine thn_n ?_
          exact ⟨(((100 * (k : Int)) + 1000) + 1) + (modI (l1[k]!.Late) 500), Or.inl ⟨rfl, h46, trivial⟩, by kernel_rfl, hp52⟩
        · refine WP.skip ?_
          refine thn_n ?_
          exact ⟨(-1), Or.inr (⟨rfl, h46, trivial⟩), by kernel_rfl, hp44⟩
      rintro e55 w56 ⟨x54, hd58, hE59, hp57⟩
      obtain ⟨b60, rfl⟩ := toMk hE59
      clear hE59
      refine WP.block ?_
      refine WP.cut (fun e70 w71 => ∃ (x68 : Bool), (True) ∧ Bp x68 (((l1[k]!.Put) = true) ∧ ((l1[k]!.Never) = true)) ∧ List.map e70 [1, 5, 6, 8, 10, 11, 12, 13, 14, 47] = [.int .i64 24, .slice ao no co, .string v, .pointer (some ⟨g22, 0, none⟩), .int .i64 (((100 * (k : Int)) + 1000) - (modI (l1[k]!.Early) 500)), .int .i64 x54, .slice s1.a s1.n s1.c, .int .i64 ((s1.n : Nat) : Int), .int .i64 (k : Int), .bool x68] ∧ Hp w Non [Res.row g22 [.bool (l1[k]!.Put), .int .i64 (l1[k]!.Value), .int .i64 (l1[k]!.Early), .int .i64 (l1[k]!.Late), .bool (l1[k]!.Never), .bool (l1[k]!.Absent)] 128, Res.own 41 11 (.slice ao no co) no (List.flatMap GCall.cells cl), Res.vl F cl vs] w71) ?_ ?_
      · refine WP.region _ rfl (by kernel_rfl) ?_
        refine OPS.batch 3 {} [.bool (l1[k]!.Put)] [1, 5, 6, 8, 10, 11, 12, 13, 14, 50] [.int .i64 24, .slice ao no co, .string v, .pointer (some ⟨g22, 0, none⟩), .int .i64 (((100 * (k : Int)) + 1000) - (modI (l1[k]!.Early) 500)), .int .i64 x54, .slice s1.a s1.n s1.c, .int .i64 ((s1.n : Nat) : Int), .int .i64 (k : Int), .bool (l1[k]!.Put)] (.cons (Ld.row1 (P := Try.prog) (t := 4) (o := 0) (v := .bool (l1[k]!.Put)) hp57.get0 (by kernel_rfl)) .nil) (by kernel_rfl) (fun b62 => ?_)
        by_cases h63 : (l1[k]!.Put) = true
        · refine OPS.batch 0 {} [] [1, 5, 6, 8, 10, 11, 12, 13, 14, 50] [.int .i64 24, .slice ao no co, .string v, .pointer (some ⟨g22, 0, none⟩), .int .i64 (((100 * (k : Int)) + 1000) - (modI (l1[k]!.Early) 500)), .int .i64 x54, .slice s1.a s1.n s1.c, .int .i64 ((s1.n : Nat) : Int), .int .i64 (k : Int), .bool (l1[k]!.Put)] .nil (by kernel_rfl) (fun b64 => ?_)
          refine OPS.re [.int .i64 24, .slice ao no co, .string v, .pointer (some ⟨g22, 0, none⟩), .int .i64 (((100 * (k : Int)) + 1000) - (modI (l1[k]!.Early) 500)), .int .i64 x54, .slice s1.a s1.n s1.c, .int .i64 ((s1.n : Nat) : Int), .int .i64 (k : Int), .bool true] (by rw [show (l1[k]!.Put) = true from Bp.var.tt h63]) ?_
          refine OPS.batch 4 { wraps := [53] } [.bool (l1[k]!.Never)] [1, 5, 6, 8, 10, 11, 12, 13, 14, 47] [.int .i64 24, .slice ao no co, .string v, .pointer (some ⟨g22, 0, none⟩), .int .i64 (((100 * (k : Int)) + 1000) - (modI (l1[k]!.Early) 500)), .int .i64 x54, .slice s1.a s1.n s1.c, .int .i64 ((s1.n : Nat) : Int), .int .i64 (k : Int), .bool (l1[k]!.Never)] (.cons (Ld.row1 (P := Try.prog) (t := 4) (o := 4) (v := .bool (l1[k]!.Never)) hp57.get0 (by kernel_rfl)) .nil) (by kernel_rfl) (fun b65 => ?_)
          refine OPS.nil ?_
          refine thn_n ?_
          exact ⟨l1[k]!.Never, trivial, Bp.of Bp.var (by first | (simp only [h63, iff_false, false_iff, iff_true, true_iff, Classical.not_not, and_true, true_and, and_false, false_and, or_true, true_or, or_false, false_or, not_true_eq_false, not_false_eq_true, and_self, or_self, iff_self]; done) | (simp [h63]; done) | simp_all), by kernel_rfl, hp57⟩
        · refine OPS.batch 0 {} [] [1, 5, 6, 8, 10, 11, 12, 13, 14, 50] [.int .i64 24, .slice ao no co, .string v, .pointer (some ⟨g22, 0, none⟩), .int .i64 (((100 * (k : Int)) + 1000) - (modI (l1[k]!.Early) 500)), .int .i64 x54, .slice s1.a s1.n s1.c, .int .i64 ((s1.n : Nat) : Int), .int .i64 (k : Int), .bool (l1[k]!.Put)] .nil (by kernel_rfl) (fun b66 => ?_)
          refine OPS.re [.int .i64 24, .slice ao no co, .string v, .pointer (some ⟨g22, 0, none⟩), .int .i64 (((100 * (k : Int)) + 1000) - (modI (l1[k]!.Early) 500)), .int .i64 x54, .slice s1.a s1.n s1.c, .int .i64 ((s1.n : Nat) : Int), .int .i64 (k : Int), .bool false] (by rw [show (l1[k]!.Put) = false from Bp.var.ff h63]) ?_
          refine OPS.batch 4 { wraps := [53] } [] [1, 5, 6, 8, 10, 11, 12, 13, 14, 47] [.int .i64 24, .slice ao no co, .string v, .pointer (some ⟨g22, 0, none⟩), .int .i64 (((100 * (k : Int)) + 1000) - (modI (l1[k]!.Early) 500)), .int .i64 x54, .slice s1.a s1.n s1.c, .int .i64 ((s1.n : Nat) : Int), .int .i64 (k : Int), .bool false] .nil (by kernel_rfl) (fun b67 => ?_)
          refine OPS.nil ?_
          refine thn_n ?_
          exact ⟨false, trivial, Bp.of Bp.f (by first | (simp only [h63, iff_false, false_iff, iff_true, true_iff, Classical.not_not, and_true, true_and, and_false, false_and, or_true, true_or, or_false, false_or, not_true_eq_false, not_false_eq_true, and_self, or_self, iff_self]; done) | (simp [h63]; done) | simp_all), by kernel_rfl, hp57⟩
      rintro e70 w71 ⟨x68, hd73, hb69, hE74, hp72⟩
      obtain ⟨b75, rfl⟩ := toMk hE74
      clear hE74
      clear hd73
      refine WP.test (p := ((l1[k]!.Put) = true) ∧ ((l1[k]!.Never) = true)) rfl hb69 (fun h76 => ?_) (fun h76 => ?_)
      · refine WP.region _ rfl (by kernel_rfl) ?_
        refine OPS.batch 2 {} [] [1, 6, 12, 13, 14, 54, 55] [.int .i64 24, .string v, .slice s1.a s1.n s1.c, .int .i64 ((s1.n : Nat) : Int), .int .i64 (k : Int), .slice ao no co, .int .i64 (((100 * (k : Int)) + 1000) - (modI (l1[k]!.Early) 500))] .nil (by kernel_rfl) (fun b77 => ?_)
        refine OPS.cons (opStep.call (some 56) [.string ⟨#[110, 101, 118, 101, 114]⟩, .int .i64 (((100 * (k : Int)) + 1000) - (modI (l1[k]!.Early) 500)), .int .i64 (-1)] (by kernel_rfl) (law_put ⟨#[110, 101, 118, 101, 114]⟩ (((100 * (k : Int)) + 1000) - (modI (l1[k]!.Early) 500)) (-1) _) ?_)
        rintro _ w82 ⟨g80, c81, rfl, hp84⟩
        refine ⟨_, rfl, ?_⟩
        have hp83 := hp72.made hp84
        refine OPS.cons (opStep.buildSlice (E := 41) hp83 [.int .i64 ((putC g80 c81 ⟨#[110, 101, 118, 101, 114]⟩ (((100 * (k : Int)) + 1000) - (modI (l1[k]!.Early) 500)) (-1)).Client), .int .i64 ((putC g80 c81 ⟨#[110, 101, 118, 101, 114]⟩ (((100 * (k : Int)) + 1000) - (modI (l1[k]!.Early) 500)) (-1)).Op), .bool ((putC g80 c81 ⟨#[110, 101, 118, 101, 114]⟩ (((100 * (k : Int)) + 1000) - (modI (l1[k]!.Early) 500)) (-1)).Put), .string ((putC g80 c81 ⟨#[110, 101, 118, 101, 114]⟩ (((100 * (k : Int)) + 1000) - (modI (l1[k]!.Early) 500)) (-1)).Key), .slice ((putC g80 c81 ⟨#[110, 101, 118, 101, 114]⟩ (((100 * (k : Int)) + 1000) - (modI (l1[k]!.Early) 500)) (-1)).Value.a) ((putC g80 c81 ⟨#[110, 101, 118, 101, 114]⟩ (((100 * (k : Int)) + 1000) - (modI (l1[k]!.Early) 500)) (-1)).Value.n) ((putC g80 c81 ⟨#[110, 101, 118, 101, 114]⟩ (((100 * (k : Int)) + 1000) - (modI (l1[k]!.Early) 500)) (-1)).Value.c), .int .i64 ((putC g80 c81 ⟨#[110, 101, 118, 101, 114]⟩ (((100 * (k : Int)) + 1000) - (modI (l1[k]!.Early) 500)) (-1)).Status), .int .i64 ((putC g80 c81 ⟨#[110, 101, 118, 101, 114]⟩ (((100 * (k : Int)) + 1000) - (modI (l1[k]!.Early) 500)) (-1)).From), .int .i64 ((putC g80 c81 ⟨#[110, 101, 118, 101, 114]⟩ (((100 * (k : Int)) + 1000) - (modI (l1[k]!.Early) 500)) (-1)).To), .bool ((putC g80 c81 ⟨#[110, 101, 118, 101, 114]⟩ (((100 * (k : Int)) + 1000) - (modI (l1[k]!.Early) 500)) (-1)).Open), .int .i64 ((putC g80 c81 ⟨#[110, 101, 118, 101, 114]⟩ (((100 * (k : Int)) + 1000) - (modI (l1[k]!.Early) 500)) (-1)).Tag.Count), .int .i64 ((putC g80 c81 ⟨#[110, 101, 118, 101, 114]⟩ (((100 * (k : Int)) + 1000) - (modI (l1[k]!.Early) 500)) (-1)).Tag.Client)] (by kernel_rfl) (fun g87 w85 hp86 => ?_))
        have hrd95 := (SlR.row (n := 1) hp86.get0 rfl).rd
        refine OPS.cons (opStep.append3 _ hp86 112 (by kernel_rfl) rfl rfl rfl hrd95 (List.all_eq_true.1 (by kernel_rfl)) (by decide) (by omega) (by omega) (fun a90 c91 w92 hp93 hn94 => ?_))
        rw [(show List.flatMap GCall.cells cl ++ [.int .i64 ((putC g80 c81 ⟨#[110, 101, 118, 101, 114]⟩ (((100 * (k : Int)) + 1000) - (modI (l1[k]!.Early) 500)) (-1)).Client), .int .i64 ((putC g80 c81 ⟨#[110, 101, 118, 101, 114]⟩ (((100 * (k : Int)) + 1000) - (modI (l1[k]!.Early) 500)) (-1)).Op), .bool ((putC g80 c81 ⟨#[110, 101, 118, 101, 114]⟩ (((100 * (k : Int)) + 1000) - (modI (l1[k]!.Early) 500)) (-1)).Put), .string ((putC g80 c81 ⟨#[110, 101, 118, 101, 114]⟩ (((100 * (k : Int)) + 1000) - (modI (l1[k]!.Early) 500)) (-1)).Key), .slice ((putC g80 c81 ⟨#[110, 101, 118, 101, 114]⟩ (((100 * (k : Int)) + 1000) - (modI (l1[k]!.Early) 500)) (-1)).Value.a) ((putC g80 c81 ⟨#[110, 101, 118, 101, 114]⟩ (((100 * (k : Int)) + 1000) - (modI (l1[k]!.Early) 500)) (-1)).Value.n) ((putC g80 c81 ⟨#[110, 101, 118, 101, 114]⟩ (((100 * (k : Int)) + 1000) - (modI (l1[k]!.Early) 500)) (-1)).Value.c), .int .i64 ((putC g80 c81 ⟨#[110, 101, 118, 101, 114]⟩ (((100 * (k : Int)) + 1000) - (modI (l1[k]!.Early) 500)) (-1)).Status), .int .i64 ((putC g80 c81 ⟨#[110, 101, 118, 101, 114]⟩ (((100 * (k : Int)) + 1000) - (modI (l1[k]!.Early) 500)) (-1)).From), .int .i64 ((putC g80 c81 ⟨#[110, 101, 118, 101, 114]⟩ (((100 * (k : Int)) + 1000) - (modI (l1[k]!.Early) 500)) (-1)).To), .bool ((putC g80 c81 ⟨#[110, 101, 118, 101, 114]⟩ (((100 * (k : Int)) + 1000) - (modI (l1[k]!.Early) 500)) (-1)).Open), .int .i64 ((putC g80 c81 ⟨#[110, 101, 118, 101, 114]⟩ (((100 * (k : Int)) + 1000) - (modI (l1[k]!.Early) 500)) (-1)).Tag.Count), .int .i64 ((putC g80 c81 ⟨#[110, 101, 118, 101, 114]⟩ (((100 * (k : Int)) + 1000) - (modI (l1[k]!.Early) 500)) (-1)).Tag.Client)] = List.flatMap GCall.cells (cl ++ [(putC g80 c81 ⟨#[110, 101, 118, 101, 114]⟩ (((100 * (k : Int)) + 1000) - (modI (l1[k]!.Early) 500)) (-1))]) from (List.flatMap_append (xs := cl) (ys := [(putC g80 c81 ⟨#[110, 101, 118, 101, 114]⟩ (((100 * (k : Int)) + 1000) - (modI (l1[k]!.Early) 500)) (-1))])).symm)] at hp93
        refine OPS.batch 1 {} [] [1, 5, 6, 12, 13, 14] [.int .i64 24, .slice a90 (no + 1) c91, .string v, .slice s1.a s1.n s1.c, .int .i64 ((s1.n : Nat) : Int), .int .i64 (k : Int)] .nil (by kernel_rfl) (fun b96 => ?_)
        refine OPS.nil ?_
        refine blk_n ?_
        refine blk_n ?_
        refine thn_n ?_
        refine WP.pure {} [] [1, 5, 6, 12, 13, 14] [.int .i64 24, .slice a90 (no + 1) c91, .string v, .slice s1.a s1.n s1.c, .int .i64 ((s1.n : Nat) : Int), .int .i64 ((k : Int) + 1)] (.cons (show Rng .i64 ((k : Int) + 1) from Rng.i64 (by omega)) .nil) (by kernel_rfl) (fun b97 => ?_)
        refine thn_n ?_
        have hp98 := hp93.pull4
        have hp99 := hp98.pull2
        have hp100 := hp99.vlPush (c := c81) (putC g80 c81 ⟨#[110, 101, 118, 101, 114]⟩ (((100 * (k : Int)) + 1000) - (modI (l1[k]!.Early) 500)) (-1)) rfl
        have hto : x54 = toT k l1[k]! := by rcases hd58 with ⟨q1, q2, _⟩ | ⟨q1, q2, _⟩ <;> first | exact q1.trans (if_pos q2).symm | exact q1.trans (if_neg q2).symm
        exact ⟨l1.length - (k + 1), (by omega), k + 1, cl ++ [(putC g80 c81 ⟨#[110, 101, 118, 101, 114]⟩ (((100 * (k : Int)) + 1000) - (modI (l1[k]!.Early) 500)) (-1))], vs ++ [⟨#[110, 101, 118, 101, 114]⟩], fun k_ => F k_ ∨ k_ = g80, a90, no + 1, c91, v, rfl, ⟨by omega, livB_step pb (by clear hd58; simp only [coreC, putC, getC, livC, frT, atT, hto]; simp_all) (by simp only [livC]; simp_all [abcV, abcL, neverB]), by simp only [regV]; simp_all [abcV, abcL]⟩, by kernel_rfl, (((hp100.pull0).pull3).sub (.cons_cons _ (.cons_cons _ (.cons _ (.cons _ (.slnil))))))⟩
      · refine WP.seq ?_
        refine WP.pure {} [.bool (l1[k]!.Put)] [1, 5, 6, 8, 10, 11, 12, 13, 14, 59] [.int .i64 24, .slice ao no co, .string v, .pointer (some ⟨g22, 0, none⟩), .int .i64 (((100 * (k : Int)) + 1000) - (modI (l1[k]!.Early) 500)), .int .i64 x54, .slice s1.a s1.n s1.c, .int .i64 ((s1.n : Nat) : Int), .int .i64 (k : Int), .bool (l1[k]!.Put)] (.cons (Ld.row1 (P := Try.prog) (t := 4) (o := 0) (v := .bool (l1[k]!.Put)) hp72.get0 (by kernel_rfl)) .nil) (by kernel_rfl) (fun b101 => ?_)
        refine thn_n ?_
        refine WP.test (p := (l1[k]!.Put) = true) rfl Bp.var (fun h102 => ?_) (fun h102 => ?_)
        · refine WP.seq ?_
          refine WP.region _ rfl (by kernel_rfl) ?_
          refine OPS.cons (opStep.buildSlice (E := 9) hp72 [.string ⟨#[97]⟩, .string ⟨#[98]⟩, .string ⟨#[99]⟩] (by kernel_rfl) (fun g105 w103 hp104 => ?_))
          refine OPS.batch 2 {} [.int .i64 (l1[k]!.Value)] [1, 5, 10, 11, 12, 13, 14, 62, 64] [.int .i64 24, .slice ao no co, .int .i64 (((100 * (k : Int)) + 1000) - (modI (l1[k]!.Early) 500)), .int .i64 x54, .slice s1.a s1.n s1.c, .int .i64 ((s1.n : Nat) : Int), .int .i64 (k : Int), .slice (some ⟨g105, 0, none⟩) 3 3, .int .i64 (l1[k]!.Value)] (.cons (Ld.row1 (P := Try.prog) (t := 3) (o := 1) (v := .int .i64 (l1[k]!.Value)) hp104.get1 (by kernel_rfl)) .nil) (by kernel_rfl) (fun b106 => ?_)
          refine OPS.cons (opStep.call (some 65) [.int .i64 (l1[k]!.Value), .int .i64 3] (by kernel_rfl) (law20_mod (l1[k]!.Value) 3 _ (by omega) (by omega)) ?_)
          rintro _ w109 ⟨rfl, hf110⟩
          refine ⟨_, rfl, ?_⟩
          have hp111 := hp104.step hf110
          have := modI_bd (l1[k]!.Value) (k := 3) (by omega)
          refine OPS.batch 3 {} [.string (([⟨#[97]⟩, ⟨#[98]⟩, ⟨#[99]⟩] : List ByteArray)[(modI (l1[k]!.Value) 3 : Int).toNat]!)] [1, 5, 6, 10, 11, 12, 13, 14] [.int .i64 24, .slice ao no co, .string (([⟨#[97]⟩, ⟨#[98]⟩, ⟨#[99]⟩] : List ByteArray)[(modI (l1[k]!.Value) 3 : Int).toNat]!), .int .i64 (((100 * (k : Int)) + 1000) - (modI (l1[k]!.Early) 500)), .int .i64 x54, .slice s1.a s1.n s1.c, .int .i64 ((s1.n : Nat) : Int), .int .i64 (k : Int)] (.cons (show InB (modI (l1[k]!.Value) 3) (3) from ⟨by omega, by omega⟩) (.cons (show (some (⟨g105, 0, none⟩ : Addr)).isSome = true from rfl) (.cons (Ld.rowAt (P := Try.prog) (t := 9) (o := 0) (i := (modI (l1[k]!.Value) 3 : Int).toNat) (v := .string (([⟨#[97]⟩, ⟨#[98]⟩, ⟨#[99]⟩] : List ByteArray)[(modI (l1[k]!.Value) 3 : Int).toNat]!)) hp111.get0 (by kernel_rfl) (str_row (l := [⟨#[97]⟩, ⟨#[98]⟩, ⟨#[99]⟩]) (by simp only [List.length_cons, List.length_nil]; omega))) .nil))) (by kernel_rfl) (fun b112 => ?_)
          refine OPS.nil ?_
          refine thn_n ?_
          refine WP.region _ rfl (by kernel_rfl) ?_
          refine OPS.batch 4 {} [] [1, 6, 12, 13, 14, 68, 69, 70, 71] [.int .i64 24, .string (([⟨#[97]⟩, ⟨#[98]⟩, ⟨#[99]⟩] : List ByteArray)[(modI (l1[k]!.Value) 3 : Int).toNat]!), .slice s1.a s1.n s1.c, .int .i64 ((s1.n : Nat) : Int), .int .i64 (k : Int), .slice ao no co, .string (([⟨#[97]⟩, ⟨#[98]⟩, ⟨#[99]⟩] : List ByteArray)[(modI (l1[k]!.Value) 3 : Int).toNat]!), .int .i64 (((100 * (k : Int)) + 1000) - (modI (l1[k]!.Early) 500)), .int .i64 x54] .nil (by kernel_rfl) (fun b113 => ?_)
          refine OPS.cons (opStep.call (some 72) [.string (([⟨#[97]⟩, ⟨#[98]⟩, ⟨#[99]⟩] : List ByteArray)[(modI (l1[k]!.Value) 3 : Int).toNat]!), .int .i64 (((100 * (k : Int)) + 1000) - (modI (l1[k]!.Early) 500)), .int .i64 x54] (by kernel_rfl) (law_put (([⟨#[97]⟩, ⟨#[98]⟩, ⟨#[99]⟩] : List ByteArray)[(modI (l1[k]!.Value) 3 : Int).toNat]!) (((100 * (k : Int)) + 1000) - (modI (l1[k]!.Early) 500)) x54 _) ?_)
          rintro _ w118 ⟨g116, c117, rfl, hp120⟩
          refine ⟨_, rfl, ?_⟩
          have hp119 := hp111.made hp120
          refine OPS.cons (opStep.buildSlice (E := 41) hp119 [.int .i64 ((putC g116 c117 (([⟨#[97]⟩, ⟨#[98]⟩, ⟨#[99]⟩] : List ByteArray)[(modI (l1[k]!.Value) 3 : Int).toNat]!) (((100 * (k : Int)) + 1000) - (modI (l1[k]!.Early) 500)) x54).Client), .int .i64 ((putC g116 c117 (([⟨#[97]⟩, ⟨#[98]⟩, ⟨#[99]⟩] : List ByteArray)[(modI (l1[k]!.Value) 3 : Int).toNat]!) (((100 * (k : Int)) + 1000) - (modI (l1[k]!.Early) 500)) x54).Op), .bool ((putC g116 c117 (([⟨#[97]⟩, ⟨#[98]⟩, ⟨#[99]⟩] : List ByteArray)[(modI (l1[k]!.Value) 3 : Int).toNat]!) (((100 * (k : Int)) + 1000) - (modI (l1[k]!.Early) 500)) x54).Put), .string ((putC g116 c117 (([⟨#[97]⟩, ⟨#[98]⟩, ⟨#[99]⟩] : List ByteArray)[(modI (l1[k]!.Value) 3 : Int).toNat]!) (((100 * (k : Int)) + 1000) - (modI (l1[k]!.Early) 500)) x54).Key), .slice ((putC g116 c117 (([⟨#[97]⟩, ⟨#[98]⟩, ⟨#[99]⟩] : List ByteArray)[(modI (l1[k]!.Value) 3 : Int).toNat]!) (((100 * (k : Int)) + 1000) - (modI (l1[k]!.Early) 500)) x54).Value.a) ((putC g116 c117 (([⟨#[97]⟩, ⟨#[98]⟩, ⟨#[99]⟩] : List ByteArray)[(modI (l1[k]!.Value) 3 : Int).toNat]!) (((100 * (k : Int)) + 1000) - (modI (l1[k]!.Early) 500)) x54).Value.n) ((putC g116 c117 (([⟨#[97]⟩, ⟨#[98]⟩, ⟨#[99]⟩] : List ByteArray)[(modI (l1[k]!.Value) 3 : Int).toNat]!) (((100 * (k : Int)) + 1000) - (modI (l1[k]!.Early) 500)) x54).Value.c), .int .i64 ((putC g116 c117 (([⟨#[97]⟩, ⟨#[98]⟩, ⟨#[99]⟩] : List ByteArray)[(modI (l1[k]!.Value) 3 : Int).toNat]!) (((100 * (k : Int)) + 1000) - (modI (l1[k]!.Early) 500)) x54).Status), .int .i64 ((putC g116 c117 (([⟨#[97]⟩, ⟨#[98]⟩, ⟨#[99]⟩] : List ByteArray)[(modI (l1[k]!.Value) 3 : Int).toNat]!) (((100 * (k : Int)) + 1000) - (modI (l1[k]!.Early) 500)) x54).From), .int .i64 ((putC g116 c117 (([⟨#[97]⟩, ⟨#[98]⟩, ⟨#[99]⟩] : List ByteArray)[(modI (l1[k]!.Value) 3 : Int).toNat]!) (((100 * (k : Int)) + 1000) - (modI (l1[k]!.Early) 500)) x54).To), .bool ((putC g116 c117 (([⟨#[97]⟩, ⟨#[98]⟩, ⟨#[99]⟩] : List ByteArray)[(modI (l1[k]!.Value) 3 : Int).toNat]!) (((100 * (k : Int)) + 1000) - (modI (l1[k]!.Early) 500)) x54).Open), .int .i64 ((putC g116 c117 (([⟨#[97]⟩, ⟨#[98]⟩, ⟨#[99]⟩] : List ByteArray)[(modI (l1[k]!.Value) 3 : Int).toNat]!) (((100 * (k : Int)) + 1000) - (modI (l1[k]!.Early) 500)) x54).Tag.Count), .int .i64 ((putC g116 c117 (([⟨#[97]⟩, ⟨#[98]⟩, ⟨#[99]⟩] : List ByteArray)[(modI (l1[k]!.Value) 3 : Int).toNat]!) (((100 * (k : Int)) + 1000) - (modI (l1[k]!.Early) 500)) x54).Tag.Client)] (by kernel_rfl) (fun g123 w121 hp122 => ?_))
          have hrd131 := (SlR.row (n := 1) hp122.get0 rfl).rd
          refine OPS.cons (opStep.append4 _ hp122 112 (by kernel_rfl) rfl rfl rfl hrd131 (List.all_eq_true.1 (by kernel_rfl)) (by decide) (by omega) (by omega) (fun a126 c127 w128 hp129 hn130 => ?_))
          rw [(show List.flatMap GCall.cells cl ++ [.int .i64 ((putC g116 c117 (([⟨#[97]⟩, ⟨#[98]⟩, ⟨#[99]⟩] : List ByteArray)[(modI (l1[k]!.Value) 3 : Int).toNat]!) (((100 * (k : Int)) + 1000) - (modI (l1[k]!.Early) 500)) x54).Client), .int .i64 ((putC g116 c117 (([⟨#[97]⟩, ⟨#[98]⟩, ⟨#[99]⟩] : List ByteArray)[(modI (l1[k]!.Value) 3 : Int).toNat]!) (((100 * (k : Int)) + 1000) - (modI (l1[k]!.Early) 500)) x54).Op), .bool ((putC g116 c117 (([⟨#[97]⟩, ⟨#[98]⟩, ⟨#[99]⟩] : List ByteArray)[(modI (l1[k]!.Value) 3 : Int).toNat]!) (((100 * (k : Int)) + 1000) - (modI (l1[k]!.Early) 500)) x54).Put), .string ((putC g116 c117 (([⟨#[97]⟩, ⟨#[98]⟩, ⟨#[99]⟩] : List ByteArray)[(modI (l1[k]!.Value) 3 : Int).toNat]!) (((100 * (k : Int)) + 1000) - (modI (l1[k]!.Early) 500)) x54).Key), .slice ((putC g116 c117 (([⟨#[97]⟩, ⟨#[98]⟩, ⟨#[99]⟩] : List ByteArray)[(modI (l1[k]!.Value) 3 : Int).toNat]!) (((100 * (k : Int)) + 1000) - (modI (l1[k]!.Early) 500)) x54).Value.a) ((putC g116 c117 (([⟨#[97]⟩, ⟨#[98]⟩, ⟨#[99]⟩] : List ByteArray)[(modI (l1[k]!.Value) 3 : Int).toNat]!) (((100 * (k : Int)) + 1000) - (modI (l1[k]!.Early) 500)) x54).Value.n) ((putC g116 c117 (([⟨#[97]⟩, ⟨#[98]⟩, ⟨#[99]⟩] : List ByteArray)[(modI (l1[k]!.Value) 3 : Int).toNat]!) (((100 * (k : Int)) + 1000) - (modI (l1[k]!.Early) 500)) x54).Value.c), .int .i64 ((putC g116 c117 (([⟨#[97]⟩, ⟨#[98]⟩, ⟨#[99]⟩] : List ByteArray)[(modI (l1[k]!.Value) 3 : Int).toNat]!) (((100 * (k : Int)) + 1000) - (modI (l1[k]!.Early) 500)) x54).Status), .int .i64 ((putC g116 c117 (([⟨#[97]⟩, ⟨#[98]⟩, ⟨#[99]⟩] : List ByteArray)[(modI (l1[k]!.Value) 3 : Int).toNat]!) (((100 * (k : Int)) + 1000) - (modI (l1[k]!.Early) 500)) x54).From), .int .i64 ((putC g116 c117 (([⟨#[97]⟩, ⟨#[98]⟩, ⟨#[99]⟩] : List ByteArray)[(modI (l1[k]!.Value) 3 : Int).toNat]!) (((100 * (k : Int)) + 1000) - (modI (l1[k]!.Early) 500)) x54).To), .bool ((putC g116 c117 (([⟨#[97]⟩, ⟨#[98]⟩, ⟨#[99]⟩] : List ByteArray)[(modI (l1[k]!.Value) 3 : Int).toNat]!) (((100 * (k : Int)) + 1000) - (modI (l1[k]!.Early) 500)) x54).Open), .int .i64 ((putC g116 c117 (([⟨#[97]⟩, ⟨#[98]⟩, ⟨#[99]⟩] : List ByteArray)[(modI (l1[k]!.Value) 3 : Int).toNat]!) (((100 * (k : Int)) + 1000) - (modI (l1[k]!.Early) 500)) x54).Tag.Count), .int .i64 ((putC g116 c117 (([⟨#[97]⟩, ⟨#[98]⟩, ⟨#[99]⟩] : List ByteArray)[(modI (l1[k]!.Value) 3 : Int).toNat]!) (((100 * (k : Int)) + 1000) - (modI (l1[k]!.Early) 500)) x54).Tag.Client)] = List.flatMap GCall.cells (cl ++ [(putC g116 c117 (([⟨#[97]⟩, ⟨#[98]⟩, ⟨#[99]⟩] : List ByteArray)[(modI (l1[k]!.Value) 3 : Int).toNat]!) (((100 * (k : Int)) + 1000) - (modI (l1[k]!.Early) 500)) x54)]) from (List.flatMap_append (xs := cl) (ys := [(putC g116 c117 (([⟨#[97]⟩, ⟨#[98]⟩, ⟨#[99]⟩] : List ByteArray)[(modI (l1[k]!.Value) 3 : Int).toNat]!) (((100 * (k : Int)) + 1000) - (modI (l1[k]!.Early) 500)) x54)])).symm)] at hp129
          refine OPS.batch 1 {} [] [1, 5, 6, 12, 13, 14] [.int .i64 24, .slice a126 (no + 1) c127, .string (([⟨#[97]⟩, ⟨#[98]⟩, ⟨#[99]⟩] : List ByteArray)[(modI (l1[k]!.Value) 3 : Int).toNat]!), .slice s1.a s1.n s1.c, .int .i64 ((s1.n : Nat) : Int), .int .i64 (k : Int)] .nil (by kernel_rfl) (fun b132 => ?_)
          refine OPS.nil ?_
          refine blk_n ?_
          refine blk_n ?_
          refine thn_n ?_
          refine WP.pure {} [] [1, 5, 6, 12, 13, 14] [.int .i64 24, .slice a126 (no + 1) c127, .string (([⟨#[97]⟩, ⟨#[98]⟩, ⟨#[99]⟩] : List ByteArray)[(modI (l1[k]!.Value) 3 : Int).toNat]!), .slice s1.a s1.n s1.c, .int .i64 ((s1.n : Nat) : Int), .int .i64 ((k : Int) + 1)] (.cons (show Rng .i64 ((k : Int) + 1) from Rng.i64 (by omega)) .nil) (by kernel_rfl) (fun b133 => ?_)
          refine thn_n ?_
          have hp134 := hp129.pull5
          have hp135 := hp134.pull2
          have hp136 := hp135.vlPush (c := c117) (putC g116 c117 (([⟨#[97]⟩, ⟨#[98]⟩, ⟨#[99]⟩] : List ByteArray)[(modI (l1[k]!.Value) 3 : Int).toNat]!) (((100 * (k : Int)) + 1000) - (modI (l1[k]!.Early) 500)) x54) rfl
          have hto : x54 = toT k l1[k]! := by rcases hd58 with ⟨q1, q2, _⟩ | ⟨q1, q2, _⟩ <;> first | exact q1.trans (if_pos q2).symm | exact q1.trans (if_neg q2).symm
          exact ⟨l1.length - (k + 1), (by omega), k + 1, cl ++ [(putC g116 c117 (([⟨#[97]⟩, ⟨#[98]⟩, ⟨#[99]⟩] : List ByteArray)[(modI (l1[k]!.Value) 3 : Int).toNat]!) (((100 * (k : Int)) + 1000) - (modI (l1[k]!.Early) 500)) x54)], vs ++ [([⟨#[97]⟩, ⟨#[98]⟩, ⟨#[99]⟩] : List ByteArray)[(modI (l1[k]!.Value) 3 : Int).toNat]!], fun k_ => F k_ ∨ k_ = g116, a126, no + 1, c127, ([⟨#[97]⟩, ⟨#[98]⟩, ⟨#[99]⟩] : List ByteArray)[(modI (l1[k]!.Value) 3 : Int).toNat]!, rfl, ⟨by omega, livB_step pb (by clear hd58; simp only [coreC, putC, getC, livC, frT, atT, hto]; simp_all) (by simp only [livC]; simp_all [abcV, abcL, neverB]), by simp only [regV]; simp_all [abcV, abcL]⟩, by kernel_rfl, (((hp136.pull0).pull4).sub (.cons_cons _ (.cons_cons _ (.cons _ (.cons _ (.cons _ (.slnil)))))))⟩
        · refine WP.region _ rfl (by kernel_rfl) ?_
          refine OPS.batch 4 {} [] [1, 6, 12, 13, 14, 40, 41, 42, 43] [.int .i64 24, .string v, .slice s1.a s1.n s1.c, .int .i64 ((s1.n : Nat) : Int), .int .i64 (k : Int), .slice ao no co, .string v, .int .i64 (((100 * (k : Int)) + 1000) - (modI (l1[k]!.Early) 500)), .int .i64 x54] .nil (by kernel_rfl) (fun b137 => ?_)
          refine OPS.cons (opStep.call (some 44) [.string v, .int .i64 (((100 * (k : Int)) + 1000) - (modI (l1[k]!.Early) 500)), .int .i64 x54] (by kernel_rfl) (law_get v (((100 * (k : Int)) + 1000) - (modI (l1[k]!.Early) 500)) x54 _) ?_)
          rintro _ w142 ⟨g140, c141, rfl, hp144⟩
          refine ⟨_, rfl, ?_⟩
          have hp143 := hp72.made hp144
          refine OPS.cons (opStep.buildSlice (E := 41) hp143 [.int .i64 ((getC g140 c141 v (((100 * (k : Int)) + 1000) - (modI (l1[k]!.Early) 500)) x54).Client), .int .i64 ((getC g140 c141 v (((100 * (k : Int)) + 1000) - (modI (l1[k]!.Early) 500)) x54).Op), .bool ((getC g140 c141 v (((100 * (k : Int)) + 1000) - (modI (l1[k]!.Early) 500)) x54).Put), .string ((getC g140 c141 v (((100 * (k : Int)) + 1000) - (modI (l1[k]!.Early) 500)) x54).Key), .slice ((getC g140 c141 v (((100 * (k : Int)) + 1000) - (modI (l1[k]!.Early) 500)) x54).Value.a) ((getC g140 c141 v (((100 * (k : Int)) + 1000) - (modI (l1[k]!.Early) 500)) x54).Value.n) ((getC g140 c141 v (((100 * (k : Int)) + 1000) - (modI (l1[k]!.Early) 500)) x54).Value.c), .int .i64 ((getC g140 c141 v (((100 * (k : Int)) + 1000) - (modI (l1[k]!.Early) 500)) x54).Status), .int .i64 ((getC g140 c141 v (((100 * (k : Int)) + 1000) - (modI (l1[k]!.Early) 500)) x54).From), .int .i64 ((getC g140 c141 v (((100 * (k : Int)) + 1000) - (modI (l1[k]!.Early) 500)) x54).To), .bool ((getC g140 c141 v (((100 * (k : Int)) + 1000) - (modI (l1[k]!.Early) 500)) x54).Open), .int .i64 ((getC g140 c141 v (((100 * (k : Int)) + 1000) - (modI (l1[k]!.Early) 500)) x54).Tag.Count), .int .i64 ((getC g140 c141 v (((100 * (k : Int)) + 1000) - (modI (l1[k]!.Early) 500)) x54).Tag.Client)] (by kernel_rfl) (fun g147 w145 hp146 => ?_))
          refine OPS.cons (opStep.append3 [.int .i64 ((getC g140 c141 v (((100 * (k : Int)) + 1000) - (modI (l1[k]!.Early) 500)) x54).Client), .int .i64 ((getC g140 c141 v (((100 * (k : Int)) + 1000) - (modI (l1[k]!.Early) 500)) x54).Op), .bool ((getC g140 c141 v (((100 * (k : Int)) + 1000) - (modI (l1[k]!.Early) 500)) x54).Put), .string ((getC g140 c141 v (((100 * (k : Int)) + 1000) - (modI (l1[k]!.Early) 500)) x54).Key), .slice ((getC g140 c141 v (((100 * (k : Int)) + 1000) - (modI (l1[k]!.Early) 500)) x54).Value.a) ((getC g140 c141 v (((100 * (k : Int)) + 1000) - (modI (l1[k]!.Early) 500)) x54).Value.n) ((getC g140 c141 v (((100 * (k : Int)) + 1000) - (modI (l1[k]!.Early) 500)) x54).Value.c), .int .i64 ((getC g140 c141 v (((100 * (k : Int)) + 1000) - (modI (l1[k]!.Early) 500)) x54).Status), .int .i64 ((getC g140 c141 v (((100 * (k : Int)) + 1000) - (modI (l1[k]!.Early) 500)) x54).From), .int .i64 ((getC g140 c141 v (((100 * (k : Int)) + 1000) - (modI (l1[k]!.Early) 500)) x54).To), .bool ((getC g140 c141 v (((100 * (k : Int)) + 1000) - (modI (l1[k]!.Early) 500)) x54).Open), .int .i64 ((getC g140 c141 v (((100 * (k : Int)) + 1000) - (modI (l1[k]!.Early) 500)) x54).Tag.Count), .int .i64 ((getC g140 c141 v (((100 * (k : Int)) + 1000) - (modI (l1[k]!.Early) 500)) x54).Tag.Client)] hp146 112 (by kernel_rfl) rfl rfl rfl (SlR.row (n := 1) hp146.get0 rfl).rd (List.all_eq_true.1 (by kernel_rfl)) (by decide) (by omega) (by omega) (fun a150 c151 w152 hp153 hn154 => ?_))
          rw [(show List.flatMap GCall.cells cl ++ [.int .i64 ((getC g140 c141 v (((100 * (k : Int)) + 1000) - (modI (l1[k]!.Early) 500)) x54).Client), .int .i64 ((getC g140 c141 v (((100 * (k : Int)) + 1000) - (modI (l1[k]!.Early) 500)) x54).Op), .bool ((getC g140 c141 v (((100 * (k : Int)) + 1000) - (modI (l1[k]!.Early) 500)) x54).Put), .string ((getC g140 c141 v (((100 * (k : Int)) + 1000) - (modI (l1[k]!.Early) 500)) x54).Key), .slice ((getC g140 c141 v (((100 * (k : Int)) + 1000) - (modI (l1[k]!.Early) 500)) x54).Value.a) ((getC g140 c141 v (((100 * (k : Int)) + 1000) - (modI (l1[k]!.Early) 500)) x54).Value.n) ((getC g140 c141 v (((100 * (k : Int)) + 1000) - (modI (l1[k]!.Early) 500)) x54).Value.c), .int .i64 ((getC g140 c141 v (((100 * (k : Int)) + 1000) - (modI (l1[k]!.Early) 500)) x54).Status), .int .i64 ((getC g140 c141 v (((100 * (k : Int)) + 1000) - (modI (l1[k]!.Early) 500)) x54).From), .int .i64 ((getC g140 c141 v (((100 * (k : Int)) + 1000) - (modI (l1[k]!.Early) 500)) x54).To), .bool ((getC g140 c141 v (((100 * (k : Int)) + 1000) - (modI (l1[k]!.Early) 500)) x54).Open), .int .i64 ((getC g140 c141 v (((100 * (k : Int)) + 1000) - (modI (l1[k]!.Early) 500)) x54).Tag.Count), .int .i64 ((getC g140 c141 v (((100 * (k : Int)) + 1000) - (modI (l1[k]!.Early) 500)) x54).Tag.Client)] = List.flatMap GCall.cells (cl ++ [(getC g140 c141 v (((100 * (k : Int)) + 1000) - (modI (l1[k]!.Early) 500)) x54)]) from (List.flatMap_append (xs := cl) (ys := [(getC g140 c141 v (((100 * (k : Int)) + 1000) - (modI (l1[k]!.Early) 500)) x54)])).symm)] at hp153
          refine OPS.batch 1 {} [] [1, 5, 6, 12, 13, 14] [.int .i64 24, .slice a150 (no + 1) c151, .string v, .slice s1.a s1.n s1.c, .int .i64 ((s1.n : Nat) : Int), .int .i64 (k : Int)] .nil (by kernel_rfl) (fun b155 => ?_)
          refine OPS.nil ?_
          refine blk_n ?_
          refine blk_n ?_
          refine thn_n ?_
          refine WP.pure {} [] [1, 5, 6, 12, 13, 14] [.int .i64 24, .slice a150 (no + 1) c151, .string v, .slice s1.a s1.n s1.c, .int .i64 ((s1.n : Nat) : Int), .int .i64 ((k : Int) + 1)] (.cons (show Rng .i64 ((k : Int) + 1) from Rng.i64 (by omega)) .nil) (by kernel_rfl) (fun b156 => ?_)
          refine thn_n ?_
          have hp157 := hp153.pull4
          have hp158 := hp157.pull2
          have hp159 := hp158.vlPush (c := c141) (getC g140 c141 v (((100 * (k : Int)) + 1000) - (modI (l1[k]!.Early) 500)) x54) rfl
          have hto : x54 = toT k l1[k]! := by rcases hd58 with ⟨q1, q2, _⟩ | ⟨q1, q2, _⟩ <;> first | exact q1.trans (if_pos q2).symm | exact q1.trans (if_neg q2).symm
          exact ⟨l1.length - (k + 1), (by omega), k + 1, cl ++ [(getC g140 c141 v (((100 * (k : Int)) + 1000) - (modI (l1[k]!.Early) 500)) x54)], vs ++ [v], fun k_ => F k_ ∨ k_ = g140, a150, no + 1, c151, v, rfl, ⟨by omega, livB_step pb (by clear hd58; simp only [coreC, putC, getC, livC, frT, atT, hto]; simp_all) (by simp only [livC]; simp_all [abcV, abcL, neverB]), by simp only [regV]; simp_all [abcV, abcL]⟩, by kernel_rfl, (((hp159.pull0).pull3).sub (.cons_cons _ (.cons_cons _ (.cons _ (.cons _ (.slnil))))))⟩
  · refine WP.exit ?_
    refine thn_x ?_
    refine thn_x ?_
    refine blk_hit ?_
    refine thn_n ?_
    refine WP.seq ?_
    refine WP.pure {} [] [4] [.slice ao no co] .nil (by kernel_rfl) (fun b160 => ?_)
    refine thn_n ?_
    refine WP.ret ?_
    refine bodyQ.of _ rfl [.slice ao no co] ⟨rfl, trivial⟩ ?_
    exact ⟨ao, no, co, cl, vs, F, rfl, k, by omega, by omega, pb, hp9⟩

end Go.Proofs.Ythdkbbpiaeaojaa.K
