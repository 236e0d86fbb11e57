/- The walks of QuoL: what each function computes. -/
import Derived.Test.YthdkbbpiaeaojaaProg
import Derived.Test.YthdkbbpiaeaojaaCoreO
import Derived.Test.YthdkbbpiaeaojaaQuoI
import Derived.Test.YthdkbbpiaeaojaaBitz
namespace Go.Proofs.Ythdkbbpiaeaojaa.K
open Go Go.Proofs Go.RowKit
set_option linter.unusedVariables false
set_option linter.unusedSimpArgs false
set_option maxRecDepth 20000
set_option maxHeartbeats 4000000

def ints (l : List Nat) : List Int := l.map fun (x : Nat) => (x : Int)
theorem ints_len (l : List Nat) : (ints l).length = l.length := by simp [ints]
theorem ints_flat (l : List Nat) : List.flatMap (fun (y : Int) => [Go.Value.int .i64 y]) (ints l) = List.flatMap (fun (y : Nat) => [Go.Value.int .i64 (y : Int)]) l := by
  induction l with
  | nil => rfl
  | cons x l ih => simp only [ints, List.map_cons, List.flatMap_cons] at ih ⊢; rw [ih]
theorem slr_ints {w : World} {a : Option Addr} {n : Nat} {l : List Nat} (h : SlR w a n (List.flatMap (fun (y : Nat) => [Go.Value.int .i64 (y : Int)]) l)) : SlR w a n (List.flatMap (fun (y : Int) => [Go.Value.int .i64 y]) (ints l)) := by rw [ints_flat]; exact h
theorem ints_inj {l m : List Nat} : ints l = ints m ↔ l = m := by
  constructor
  · intro h
    induction l generalizing m with
    | nil => cases m with
      | nil => rfl
      | cons y m => simp [ints] at h
    | cons x l ih => cases m with
      | nil => simp [ints] at h
      | cons y m =>
        simp only [ints, List.map_cons, List.cons.injEq] at h
        have h1 : x = y := by omega
        rw [h1, ih h.2]
  · rintro rfl; rfl

theorem q_List (w0 : World) (L : List Res) (b : Nat) (c : GConfig) (m : Nat) (w : World) (hok : okCfg c) (hp0 : Hp w0 Non (Res.row b [.int .i64 c.N, .int .i64 c.K, .int .i64 c.Delta, .int .u64 ((wd m 0 : Nat) : Int), .int .u64 ((wd m 1 : Nat) : Int), .int .u64 ((wd m 2 : Nat) : Int), .int .u64 ((wd m 3 : Nat) : Int)] 133 :: L) w) :
    Calls Try.prog 38 #[.pointer (some ⟨b, 0, none⟩)] w (fun r_ w' => ∃ ao co, r_ = .returned (.slice ao (sel m true c.N.toNat).length co) ∧ Hp w0 Non (Res.own 3 1 (.slice ao (sel m true c.N.toNat).length co) (sel m true c.N.toNat).length (List.flatMap (fun (y : Nat) => [Go.Value.int .i64 (y : Int)]) (sel m true c.N.toNat)) :: Res.row b [.int .i64 c.N, .int .i64 c.K, .int .i64 c.Delta, .int .u64 ((wd m 0 : Nat) : Int), .int .u64 ((wd m 1 : Nat) : Int), .int .u64 ((wd m 2 : Nat) : Int), .int .u64 ((wd m 3 : Nat) : Int)] 133 :: L) w') := by
  have hok1 := hok
  unfold okCfg at hok1
  refine calls_of Try.func38 rfl 5 rfl (by simp) ?_
  have he0 : List.map (env0 [.pointer (some ⟨b, 0, none⟩)]) [0] = [.pointer (some ⟨b, 0, none⟩)] := by kernel_rfl
  obtain ⟨b0, he0⟩ := toMk he0
  rw [he0]
  clear he0
  refine WP.seq ?_
  refine WP.pure {} [] [0] [.pointer (some ⟨b, 0, none⟩)] .nil (by kernel_rfl) (fun b1 => ?_)
  refine thn_n ?_
  refine WP.seq ?_
  refine WP.region _ rfl (by kernel_rfl) ?_
  refine OPS.batch 1 {} [] [3] [.pointer (some ⟨b, 0, none⟩)] .nil (by kernel_rfl) (fun b2 => ?_)
  have hp5 := hp0.pull0
  refine OPS.cons (opStep.call (some 4) [.pointer (some ⟨b, 0, none⟩), .bool true] (by kernel_rfl) (q_those _ _ _ c m _ hok true hp5) ?_)
  rintro _ w6 ⟨ao8, co9, rfl, hp7⟩
  refine ⟨_, rfl, ?_⟩
  have := sel_le m true (c.N).toNat
  refine OPS.batch 1 {} [] [2] [.slice ao8 ((sel m true (c.N).toNat).length) co9] .nil (by kernel_rfl) (fun b10 => ?_)
  refine OPS.nil ?_
  refine thn_n ?_
  refine WP.ret ?_
  refine bodyQ.of _ rfl [.slice ao8 ((sel m true (c.N).toNat).length) co9] ⟨rfl, trivial⟩ ?_
  exact ⟨ao8, co9, rfl, hp7⟩

theorem q_Rest (w0 : World) (L : List Res) (b : Nat) (c : GConfig) (m : Nat) (w : World) (hok : okCfg c) (hp0 : Hp w0 Non (Res.row b [.int .i64 c.N, .int .i64 c.K, .int .i64 c.Delta, .int .u64 ((wd m 0 : Nat) : Int), .int .u64 ((wd m 1 : Nat) : Int), .int .u64 ((wd m 2 : Nat) : Int), .int .u64 ((wd m 3 : Nat) : Int)] 133 :: L) w) :
    Calls Try.prog 39 #[.pointer (some ⟨b, 0, none⟩)] w (fun r_ w' => ∃ ao co, r_ = .returned (.slice ao (sel m false c.N.toNat).length co) ∧ Hp w0 Non (Res.own 3 1 (.slice ao (sel m false c.N.toNat).length co) (sel m false c.N.toNat).length (List.flatMap (fun (y : Nat) => [Go.Value.int .i64 (y : Int)]) (sel m false c.N.toNat)) :: Res.row b [.int .i64 c.N, .int .i64 c.K, .int .i64 c.Delta, .int .u64 ((wd m 0 : Nat) : Int), .int .u64 ((wd m 1 : Nat) : Int), .int .u64 ((wd m 2 : Nat) : Int), .int .u64 ((wd m 3 : Nat) : Int)] 133 :: L) w') := by
  have hok1 := hok
  unfold okCfg at hok1
  refine calls_of Try.func39 rfl 5 rfl (by simp) ?_
  have he0 : List.map (env0 [.pointer (some ⟨b, 0, none⟩)]) [0] = [.pointer (some ⟨b, 0, none⟩)] := by kernel_rfl
  obtain ⟨b0, he0⟩ := toMk he0
  rw [he0]
  clear he0
  refine WP.seq ?_
  refine WP.pure {} [] [0] [.pointer (some ⟨b, 0, none⟩)] .nil (by kernel_rfl) (fun b1 => ?_)
  refine thn_n ?_
  refine WP.seq ?_
  refine WP.region _ rfl (by kernel_rfl) ?_
  refine OPS.batch 1 {} [] [3] [.pointer (some ⟨b, 0, none⟩)] .nil (by kernel_rfl) (fun b2 => ?_)
  have hp5 := hp0.pull0
  refine OPS.cons (opStep.call (some 4) [.pointer (some ⟨b, 0, none⟩), .bool false] (by kernel_rfl) (q_those _ _ _ c m _ hok false hp5) ?_)
  rintro _ w6 ⟨ao8, co9, rfl, hp7⟩
  refine ⟨_, rfl, ?_⟩
  have := sel_le m false (c.N).toNat
  refine OPS.batch 1 {} [] [2] [.slice ao8 ((sel m false (c.N).toNat).length) co9] .nil (by kernel_rfl) (fun b10 => ?_)
  refine OPS.nil ?_
  refine thn_n ?_
  refine WP.ret ?_
  refine bodyQ.of _ rfl [.slice ao8 ((sel m false (c.N).toNat).length) co9] ⟨rfl, trivial⟩ ?_
  exact ⟨ao8, co9, rfl, hp7⟩

theorem q_New (c : GConfig) (w : World) (hok : okCfg c) :
    Calls Try.prog 33 #[GConfig.val c] w (fun r_ w' => ∃ b, r_ = .returned (.tuple #[.pointer (some ⟨b, 0, none⟩), .int .i64 0]) ∧ Hp w Non [Res.row b [.int .i64 c.N, .int .i64 c.K, .int .i64 c.Delta, .int .u64 ((wd 0 0 : Nat) : Int), .int .u64 ((wd 0 1 : Nat) : Int), .int .u64 ((wd 0 2 : Nat) : Int), .int .u64 ((wd 0 3 : Nat) : Int)] 133] w') := by
  have hz := qChk_ok hok
  refine calls_of Try.func33 rfl 10 rfl (by simp) ?_
  have hp0 := Hp.init w
  have he0 : List.map (env0 [GConfig.val c]) [0] = [GConfig.val c] := by kernel_rfl
  obtain ⟨b0, he0⟩ := toMk he0
  rw [he0]
  clear he0
  refine WP.seq ?_
  refine WP.region _ rfl (by kernel_rfl) ?_
  refine OPS.cons (opStep.box hp0 [.int .i64 c.N, .int .i64 c.K, .int .i64 c.Delta] (by kernel_rfl) (fun g3 w1 hp2 => ?_))
  refine OPS.batch 2 {} [] [1] [.pointer (some ⟨g3, 0, none⟩)] .nil (by kernel_rfl) (fun b4 => ?_)
  refine OPS.nil ?_
  refine thn_n ?_
  refine WP.seq ?_
  refine WP.seq ?_
  refine WP.region _ rfl (by kernel_rfl) ?_
  refine OPS.batch 1 {} [GConfig.val c] [1, 4] [.pointer (some ⟨g3, 0, none⟩), GConfig.val c] (.cons (show Ld Try.prog w1 60 ⟨g3, 0, none⟩ (GConfig.val c) from Ld.rowN (cs := [.int .i64 c.N, .int .i64 c.K, .int .i64 c.Delta]) hp2.get0 (by kernel_rfl)) .nil) (by kernel_rfl) (fun b5 => ?_)
  refine OPS.cons (opStep.call (some 5) [GConfig.val c] (by kernel_rfl) (q_Check c _) ?_)
  rintro _ w8 ⟨rfl, hf9⟩
  refine ⟨_, rfl, ?_⟩
  have hp10 := hp2.step hf9
  refine OPS.batch 1 {} [] [1, 6] [.pointer (some ⟨g3, 0, none⟩), .bool (decide (¬ ((qChk c) = 0)))] .nil (by kernel_rfl) (fun b11 => ?_)
  refine OPS.nil ?_
  refine thn_n ?_
  refine WP.test (p := ¬ ((qChk c) = 0)) rfl Bp.dec (fun h12 => ?_) (fun h12 => ?_)
  · refine WP.seq ?_
    refine WP.pure {} [] [2, 3] [.pointer none, .int .i64 40] .nil (by kernel_rfl) (fun b13 => ?_)
    refine thn_n ?_
    refine WP.ret ?_
    refine thn_r ?_
    refine bodyQ.of _ rfl [.pointer none, .int .i64 40] ⟨rfl, rfl, trivial⟩ ?_
    exfalso
    rw [hz] at h12
    exact absurd rfl h12
  · replace h12 := Classical.not_not.1 h12
    refine WP.skip ?_
    refine thn_n ?_
    refine WP.seq ?_
    refine WP.region _ rfl (by kernel_rfl) ?_
    refine OPS.batch 2 {} [GConfig.val c] [8] [.agg #[.int .i64 c.N, .int .i64 c.K, .int .i64 c.Delta, .int .u64 0, .int .u64 0, .int .u64 0, .int .u64 0]] (.cons (show Ld Try.prog w8 60 ⟨g3, 0, none⟩ (GConfig.val c) from Ld.rowN (cs := [.int .i64 c.N, .int .i64 c.K, .int .i64 c.Delta]) hp10.get0 (by kernel_rfl)) .nil) (by kernel_rfl) (fun b14 => ?_)
    refine OPS.cons (opStep.box hp10 [.int .i64 c.N, .int .i64 c.K, .int .i64 c.Delta, .int .u64 0, .int .u64 0, .int .u64 0, .int .u64 0] (by kernel_rfl) (fun g17 w15 hp16 => ?_))
    refine OPS.batch 2 {} [] [2, 3] [.pointer (some ⟨g17, 0, none⟩), .int .i64 0] .nil (by kernel_rfl) (fun b18 => ?_)
    refine OPS.nil ?_
    refine thn_n ?_
    refine WP.ret ?_
    refine bodyQ.of _ rfl [.pointer (some ⟨g17, 0, none⟩), .int .i64 0] ⟨rfl, rfl, trivial⟩ ?_
    exact ⟨_, rfl, (hp16.sub (.cons_cons _ (.cons _ (.slnil))))⟩

theorem q_taken (w : World) :
    Calls Try.prog 43 #[] w (fun r_ w' => r_ = .returned (.bool true) ∧ Fram Non w w') := by
  refine calls_of Try.func43 rfl 51 rfl (by simp) ?_
  have hp0 := Hp.init w
  have he0 : List.map (env0 []) [] = [] := by kernel_rfl
  obtain ⟨b0, he0⟩ := toMk he0
  rw [he0]
  clear he0
  refine WP.seq ?_
  refine WP.pure {} [] [] [] .nil (by kernel_rfl) (fun b1 => ?_)
  refine thn_n ?_
  refine WP.seq ?_
  refine WP.region _ rfl (by kernel_rfl) ?_
  refine OPS.batch 1 {} [] [8] [.agg #[.int .i64 4, .int .i64 2, .int .i64 1]] .nil (by kernel_rfl) (fun b2 => ?_)
  refine OPS.cons (opStep.call (some 9) [.agg #[.int .i64 4, .int .i64 2, .int .i64 1]] (by kernel_rfl) (q_New (⟨4, 2, 1⟩ : GConfig) _ (show okCfg (⟨4, 2, 1⟩ : GConfig) from by decide)) ?_)
  rintro _ w5 ⟨g8, rfl, hp7⟩
  refine ⟨_, rfl, ?_⟩
  have hp6 := hp0.made hp7
  refine OPS.batch 5 {} [] [1, 2] [.pointer (some ⟨g8, 0, none⟩), .int .i64 0] .nil (by kernel_rfl) (fun b9 => ?_)
  refine OPS.nil ?_
  refine thn_n ?_
  refine WP.seq ?_
  refine WP.seq ?_
  refine WP.pure { wraps := [17] } [] [1, 17] [.pointer (some ⟨g8, 0, none⟩), .bool false] .nil (by kernel_rfl) (fun b10 => ?_)
  refine thn_n ?_
  refine WP.condF rfl ?_
  refine WP.skip ?_
  refine thn_n ?_
  refine WP.seq ?_
  refine WP.seq ?_
  refine WP.region _ rfl (by kernel_rfl) ?_
  refine OPS.cons (opStep.buildSlice (E := 3) hp6 [.int .i64 3, .int .i64 0, .int .i64 2] (by kernel_rfl) (fun g13 w11 hp12 => ?_))
  refine OPS.batch 2 {} [] [1, 18, 19, 20] [.pointer (some ⟨g8, 0, none⟩), .slice (some ⟨g13, 0, none⟩) 3 3, .int .i64 3, .int .i64 0] .nil (by kernel_rfl) (fun b14 => ?_)
  refine OPS.nil ?_
  refine thn_n ?_
  refine WP.block ?_
  refine WP.rounds 4 ?_
  refine RND.step ?_
  refine WP.seq ?_
  refine WP.pure {} [] [1, 18, 19, 20, 21] [.pointer (some ⟨g8, 0, none⟩), .slice (some ⟨g13, 0, none⟩) 3 3, .int .i64 3, .int .i64 0, .bool true] .nil (by kernel_rfl) (fun b15 => ?_)
  refine thn_n ?_
  refine WP.seq ?_
  refine WP.condT rfl ?_
  refine WP.skip ?_
  refine thn_n ?_
  refine WP.seq ?_
  refine WP.block ?_
  refine WP.seq ?_
  refine WP.pure {} [.int .i64 3] [1, 4, 18, 19, 20] [.pointer (some ⟨g8, 0, none⟩), .int .i64 3, .slice (some ⟨g13, 0, none⟩) 3 3, .int .i64 3, .int .i64 0] (.cons (show InB (0) (3) from ⟨by omega, by omega⟩) (.cons (show (some (⟨g13, 0, none⟩ : Addr)).isSome = true from rfl) (.cons (Ld.row1 (P := Try.prog) (t := 3) (o := 0) (v := .int .i64 3) hp12.get0 (by kernel_rfl)) .nil))) (by kernel_rfl) (fun b16 => ?_)
  refine thn_n ?_
  refine WP.seq ?_
  refine WP.region _ rfl (by kernel_rfl) ?_
  refine OPS.batch 2 {} [] [1, 18, 19, 20, 25, 26] [.pointer (some ⟨g8, 0, none⟩), .slice (some ⟨g13, 0, none⟩) 3 3, .int .i64 3, .int .i64 0, .pointer (some ⟨g8, 0, none⟩), .int .i64 3] .nil (by kernel_rfl) (fun b17 => ?_)
  have hp20 := hp12.pull1
  refine OPS.cons (opStep.call (some 27) [.pointer (some ⟨g8, 0, none⟩), .int .i64 3] (by kernel_rfl) (q_Add _ _ _ (⟨4, 2, 1⟩ : GConfig) 0 _ (show okCfg (⟨4, 2, 1⟩ : GConfig) from by decide) 3 hp20) ?_)
  rintro _ w21 ⟨b24, rfl, hq23, hp22⟩
  refine ⟨_, rfl, ?_⟩
  rw [show qAdd (⟨4, 2, 1⟩ : GConfig) 0 3 = 8 from by decide] at hp22
  obtain rfl : b24 = true := hq23.tt (by decide)
  refine OPS.batch 5 {} [] [1, 5, 6, 18, 19, 20] [.pointer (some ⟨g8, 0, none⟩), .bool true, .int .i64 0, .slice (some ⟨g13, 0, none⟩) 3 3, .int .i64 3, .int .i64 0] .nil (by kernel_rfl) (fun b25 => ?_)
  refine OPS.nil ?_
  refine thn_n ?_
  refine WP.seq ?_
  refine WP.pure { wraps := [35] } [] [1, 18, 19, 20, 35] [.pointer (some ⟨g8, 0, none⟩), .slice (some ⟨g13, 0, none⟩) 3 3, .int .i64 3, .int .i64 0, .bool false] .nil (by kernel_rfl) (fun b26 => ?_)
  refine thn_n ?_
  refine WP.condF rfl ?_
  refine WP.skip ?_
  refine blk_n ?_
  refine thn_n ?_
  refine WP.pure {} [] [1, 18, 19, 20] [.pointer (some ⟨g8, 0, none⟩), .slice (some ⟨g13, 0, none⟩) 3 3, .int .i64 3, .int .i64 1] (.cons (show Rng .i64 (1) from Rng.i64 (by omega)) .nil) (by kernel_rfl) (fun b27 => ?_)
  refine thn_n ?_
  refine RND.step ?_
  refine WP.seq ?_
  refine WP.pure {} [] [1, 18, 19, 20, 21] [.pointer (some ⟨g8, 0, none⟩), .slice (some ⟨g13, 0, none⟩) 3 3, .int .i64 3, .int .i64 1, .bool true] .nil (by kernel_rfl) (fun b28 => ?_)
  refine thn_n ?_
  refine WP.seq ?_
  refine WP.condT rfl ?_
  refine WP.skip ?_
  refine thn_n ?_
  refine WP.seq ?_
  refine WP.block ?_
  refine WP.seq ?_
  refine WP.pure {} [.int .i64 0] [1, 4, 18, 19, 20] [.pointer (some ⟨g8, 0, none⟩), .int .i64 0, .slice (some ⟨g13, 0, none⟩) 3 3, .int .i64 3, .int .i64 1] (.cons (show InB (1) (3) from ⟨by omega, by omega⟩) (.cons (show (some (⟨g13, 0, none⟩ : Addr)).isSome = true from rfl) (.cons (Ld.row1 (P := Try.prog) (t := 3) (o := 1) (v := .int .i64 0) hp22.get1 (by kernel_rfl)) .nil))) (by kernel_rfl) (fun b29 => ?_)
  refine thn_n ?_
  refine WP.seq ?_
  refine WP.region _ rfl (by kernel_rfl) ?_
  refine OPS.batch 2 {} [] [1, 18, 19, 20, 25, 26] [.pointer (some ⟨g8, 0, none⟩), .slice (some ⟨g13, 0, none⟩) 3 3, .int .i64 3, .int .i64 1, .pointer (some ⟨g8, 0, none⟩), .int .i64 0] .nil (by kernel_rfl) (fun b30 => ?_)
  have hp33 := hp22.pull0
  refine OPS.cons (opStep.call (some 27) [.pointer (some ⟨g8, 0, none⟩), .int .i64 0] (by kernel_rfl) (q_Add _ _ _ (⟨4, 2, 1⟩ : GConfig) 8 _ (show okCfg (⟨4, 2, 1⟩ : GConfig) from by decide) 0 hp33) ?_)
  rintro _ w34 ⟨b37, rfl, hq36, hp35⟩
  refine ⟨_, rfl, ?_⟩
  rw [show qAdd (⟨4, 2, 1⟩ : GConfig) 8 0 = 9 from by decide] at hp35
  obtain rfl : b37 = true := hq36.tt (by decide)
  refine OPS.batch 5 {} [] [1, 5, 6, 18, 19, 20] [.pointer (some ⟨g8, 0, none⟩), .bool true, .int .i64 0, .slice (some ⟨g13, 0, none⟩) 3 3, .int .i64 3, .int .i64 1] .nil (by kernel_rfl) (fun b38 => ?_)
  refine OPS.nil ?_
  refine thn_n ?_
  refine WP.seq ?_
  refine WP.pure { wraps := [35] } [] [1, 18, 19, 20, 35] [.pointer (some ⟨g8, 0, none⟩), .slice (some ⟨g13, 0, none⟩) 3 3, .int .i64 3, .int .i64 1, .bool false] .nil (by kernel_rfl) (fun b39 => ?_)
  refine thn_n ?_
  refine WP.condF rfl ?_
  refine WP.skip ?_
  refine blk_n ?_
  refine thn_n ?_
  refine WP.pure {} [] [1, 18, 19, 20] [.pointer (some ⟨g8, 0, none⟩), .slice (some ⟨g13, 0, none⟩) 3 3, .int .i64 3, .int .i64 2] (.cons (show Rng .i64 (2) from Rng.i64 (by omega)) .nil) (by kernel_rfl) (fun b40 => ?_)
  refine thn_n ?_
  refine RND.step ?_
  refine WP.seq ?_
  refine WP.pure {} [] [1, 18, 19, 20, 21] [.pointer (some ⟨g8, 0, none⟩), .slice (some ⟨g13, 0, none⟩) 3 3, .int .i64 3, .int .i64 2, .bool true] .nil (by kernel_rfl) (fun b41 => ?_)
  refine thn_n ?_
  refine WP.seq ?_
  refine WP.condT rfl ?_
  refine WP.skip ?_
  refine thn_n ?_
  refine WP.seq ?_
  refine WP.block ?_
  refine WP.seq ?_
  refine WP.pure {} [.int .i64 2] [1, 4, 18, 19, 20] [.pointer (some ⟨g8, 0, none⟩), .int .i64 2, .slice (some ⟨g13, 0, none⟩) 3 3, .int .i64 3, .int .i64 2] (.cons (show InB (2) (3) from ⟨by omega, by omega⟩) (.cons (show (some (⟨g13, 0, none⟩ : Addr)).isSome = true from rfl) (.cons (Ld.row1 (P := Try.prog) (t := 3) (o := 2) (v := .int .i64 2) hp35.get1 (by kernel_rfl)) .nil))) (by kernel_rfl) (fun b42 => ?_)
  refine thn_n ?_
  refine WP.seq ?_
  refine WP.region _ rfl (by kernel_rfl) ?_
  refine OPS.batch 2 {} [] [1, 18, 19, 20, 25, 26] [.pointer (some ⟨g8, 0, none⟩), .slice (some ⟨g13, 0, none⟩) 3 3, .int .i64 3, .int .i64 2, .pointer (some ⟨g8, 0, none⟩), .int .i64 2] .nil (by kernel_rfl) (fun b43 => ?_)
  have hp46 := hp35.pull0
  refine OPS.cons (opStep.call (some 27) [.pointer (some ⟨g8, 0, none⟩), .int .i64 2] (by kernel_rfl) (q_Add _ _ _ (⟨4, 2, 1⟩ : GConfig) 9 _ (show okCfg (⟨4, 2, 1⟩ : GConfig) from by decide) 2 hp46) ?_)
  rintro _ w47 ⟨b50, rfl, hq49, hp48⟩
  refine ⟨_, rfl, ?_⟩
  rw [show qAdd (⟨4, 2, 1⟩ : GConfig) 9 2 = 13 from by decide] at hp48
  obtain rfl : b50 = true := hq49.tt (by decide)
  refine OPS.batch 5 {} [] [1, 5, 6, 18, 19, 20] [.pointer (some ⟨g8, 0, none⟩), .bool true, .int .i64 0, .slice (some ⟨g13, 0, none⟩) 3 3, .int .i64 3, .int .i64 2] .nil (by kernel_rfl) (fun b51 => ?_)
  refine OPS.nil ?_
  refine thn_n ?_
  refine WP.seq ?_
  refine WP.pure { wraps := [35] } [] [1, 18, 19, 20, 35] [.pointer (some ⟨g8, 0, none⟩), .slice (some ⟨g13, 0, none⟩) 3 3, .int .i64 3, .int .i64 2, .bool false] .nil (by kernel_rfl) (fun b52 => ?_)
  refine thn_n ?_
  refine WP.condF rfl ?_
  refine WP.skip ?_
  refine blk_n ?_
  refine thn_n ?_
  refine WP.pure {} [] [1, 18, 19, 20] [.pointer (some ⟨g8, 0, none⟩), .slice (some ⟨g13, 0, none⟩) 3 3, .int .i64 3, .int .i64 3] (.cons (show Rng .i64 (3) from Rng.i64 (by omega)) .nil) (by kernel_rfl) (fun b53 => ?_)
  refine thn_n ?_
  refine RND.step ?_
  refine WP.seq ?_
  refine WP.pure {} [] [1, 18, 19, 20, 21] [.pointer (some ⟨g8, 0, none⟩), .slice (some ⟨g13, 0, none⟩) 3 3, .int .i64 3, .int .i64 3, .bool false] .nil (by kernel_rfl) (fun b54 => ?_)
  refine thn_n ?_
  refine WP.seq ?_
  refine WP.condF rfl ?_
  refine WP.exit ?_
  refine thn_x ?_
  refine thn_x ?_
  refine blk_hit ?_
  refine thn_n ?_
  refine WP.seq ?_
  refine WP.region _ rfl (by kernel_rfl) ?_
  refine OPS.batch 1 {} [] [1, 37] [.pointer (some ⟨g8, 0, none⟩), .pointer (some ⟨g8, 0, none⟩)] .nil (by kernel_rfl) (fun b55 => ?_)
  have hp58 := hp48.pull0
  refine OPS.cons (opStep.call (some 38) [.pointer (some ⟨g8, 0, none⟩)] (by kernel_rfl) (q_Met _ _ _ (⟨4, 2, 1⟩ : GConfig) 13 _ (show okCfg (⟨4, 2, 1⟩ : GConfig) from by decide) hp58) ?_)
  rintro _ w59 ⟨b62, rfl, hq61, hp60⟩
  refine ⟨_, rfl, ?_⟩
  obtain rfl : b62 = true := hq61.tt (by decide)
  refine OPS.batch 2 {} [] [1, 39, 40] [.pointer (some ⟨g8, 0, none⟩), .bool true, .pointer (some ⟨g8, 0, none⟩)] .nil (by kernel_rfl) (fun b63 => ?_)
  refine OPS.want (by kernel_rfl) ?_
  have hp66 := hp60.pull0
  refine OPS.cons (opStep.call (some 41) [.pointer (some ⟨g8, 0, none⟩)] (by kernel_rfl) (q_List _ _ _ (⟨4, 2, 1⟩ : GConfig) 13 _ (show okCfg (⟨4, 2, 1⟩ : GConfig) from by decide)  hp66) ?_)
  rintro _ w67 ⟨ao69, co70, rfl, hp68⟩
  refine ⟨_, rfl, ?_⟩
  rw [show sel 13 true ((⟨4, 2, 1⟩ : GConfig).N).toNat = ([0, 2, 3] : List Nat) from by decide] at hp68
  refine OPS.want (by kernel_rfl) ?_
  refine OPS.cons (opStep.buildSlice (E := 3) hp68 [.int .i64 0, .int .i64 2, .int .i64 3] (by kernel_rfl) (fun g73 w71 hp72 => ?_))
  refine OPS.want (by kernel_rfl) ?_
  refine OPS.cons (opStep.call (some 43) [.slice ao69 3 co70, .slice (some ⟨g73, 0, none⟩) 3 3] (by kernel_rfl) (sherdlaw09_sameInts (ints ([0, 2, 3] : List Nat)) [0, 2, 3] ao69 (some ⟨g73, 0, none⟩) 3 3 co70 3 _ ((ints_len _).trans (own_flat (sz := 1) (fun _ => rfl) (by decide) hp72.get1)) (by first | rfl | omega) (by first | decide | (simp only [ints_len]; exact Nat.le_trans (sel_le _ _ _) (by omega)) | (simp only [ints_len]; omega)) (slr_ints (SlR.own hp72.get1)) (show SlR w71 (some ⟨g73, 0, none⟩) 3 (List.flatMap (fun y => [.int .i64 y]) [0, 2, 3]) from SlR.row hp72.get0 rfl)) ?_)
  rintro _ w76 ⟨b79, rfl, hb80, hf77⟩
  refine ⟨_, rfl, ?_⟩
  have hp78 := hp72.step hf77
  obtain rfl : b79 = true := hb80.tt (by decide)
  refine OPS.batch 3 { wraps := [44] } [] [45, 46] [.bool true, .pointer (some ⟨g8, 0, none⟩)] .nil (by kernel_rfl) (fun b81 => ?_)
  refine OPS.want (by kernel_rfl) ?_
  have hp84 := hp78.pull2
  refine OPS.cons (opStep.call (some 47) [.pointer (some ⟨g8, 0, none⟩)] (by kernel_rfl) (q_Rest _ _ _ (⟨4, 2, 1⟩ : GConfig) 13 _ (show okCfg (⟨4, 2, 1⟩ : GConfig) from by decide)  hp84) ?_)
  rintro _ w85 ⟨ao87, co88, rfl, hp86⟩
  refine ⟨_, rfl, ?_⟩
  rw [show sel 13 false ((⟨4, 2, 1⟩ : GConfig).N).toNat = ([1] : List Nat) from by decide] at hp86
  refine OPS.want (by kernel_rfl) ?_
  refine OPS.cons (opStep.buildSlice (E := 3) hp86 [.int .i64 1] (by kernel_rfl) (fun g91 w89 hp90 => ?_))
  refine OPS.want (by kernel_rfl) ?_
  refine OPS.cons (opStep.call (some 49) [.slice ao87 1 co88, .slice (some ⟨g91, 0, none⟩) 1 1] (by kernel_rfl) (sherdlaw09_sameInts (ints ([1] : List Nat)) [1] ao87 (some ⟨g91, 0, none⟩) 1 1 co88 1 _ ((ints_len _).trans (own_flat (sz := 1) (fun _ => rfl) (by decide) hp90.get1)) (by first | rfl | omega) (by first | decide | (simp only [ints_len]; exact Nat.le_trans (sel_le _ _ _) (by omega)) | (simp only [ints_len]; omega)) (slr_ints (SlR.own hp90.get1)) (show SlR w89 (some ⟨g91, 0, none⟩) 1 (List.flatMap (fun y => [.int .i64 y]) [1]) from SlR.row hp90.get0 rfl)) ?_)
  rintro _ w94 ⟨b97, rfl, hb98, hf95⟩
  refine ⟨_, rfl, ?_⟩
  have hp96 := hp90.step hf95
  obtain rfl : b97 = true := hb98.tt (by decide)
  refine OPS.batch 2 { wraps := [50] } [] [0] [.bool true] .nil (by kernel_rfl) (fun b99 => ?_)
  refine OPS.nil ?_
  refine thn_n ?_
  refine WP.ret ?_
  refine bodyQ.of _ rfl [.bool true] ⟨rfl, trivial⟩ ?_
  exact ⟨rfl, hp96.fr⟩

end Go.Proofs.Ythdkbbpiaeaojaa.K
