/- The walks of SetM: what each function computes. -/
import Derived.Test.YtoeholipggkcaaaProg
import Derived.Test.YtoeholipggkcaaaCoreO
import Derived.Test.YtoeholipggkcaaaSetL
namespace Go.Proofs.Ytoeholipggkcaaa.K
open Go Go.Proofs Go.RowKit
set_option linter.unusedVariables false
set_option linter.unusedSimpArgs false
set_option maxRecDepth 20000
set_option maxHeartbeats 4000000

theorem t8_tags (l : List GTag) (aS : Option Addr) (nS cS : Nat) (w : World) (hn : nS = l.length) (hb : l.length ≤ 8796093022207) (hs : SlR w aS nS (l.flatMap GTag.cells)) :
    Calls Try.prog 10 #[.slice aS nS cS] w (fun r_ w' => ∃ a_ c_, r_ = .returned (.slice a_ nS c_) ∧ Hp w Non [Res.own 29 2 (.slice a_ (nS + 1) c_) (nS + 1) (List.flatMap GTag.cells (l ++ [(⟨-77, 0⟩ : GTag)]))] w') := by
  refine calls_of Try.func10 rfl 25 rfl (by simp) ?_
  have hp0 := Hp.init w
  have he0 : List.map (env0 [.slice aS nS cS]) [0] = [.slice aS nS cS] := by kernel_rfl
  obtain ⟨b0, he0⟩ := toMk he0
  rw [he0]
  clear he0
  refine WP.seq ?_
  refine WP.pure {} [] [0] [.slice aS nS cS] .nil (by kernel_rfl) (fun b1 => ?_)
  refine thn_n ?_
  refine WP.seq ?_
  refine WP.pure {} [] [0, 3] [.slice aS nS cS, .slice none 0 0] .nil (by kernel_rfl) (fun b2 => ?_)
  refine thn_n ?_
  refine WP.seq ?_
  refine WP.seq ?_
  refine WP.pure {} [] [0, 3, 4] [.slice aS nS cS, .slice none 0 0, .int .i64 0] .nil (by kernel_rfl) (fun b3 => ?_)
  refine thn_n ?_
  refine WP.block ?_
  have hp4 := (show Hp w Non [Res.own 29 2 (.slice none 0 0) 0 (List.flatMap GTag.cells ([] : List GTag))] w from hp0.nilOwn 29 2)
  refine WP.loop (fun mz_ e5 w6 => ∃ (k : Nat) (xs : List GTag) (ao : Option Addr) (no : Nat) (co : Nat), mz_ = l.length - k ∧ (k ≤ l.length ∧ xs = l.take k) ∧ List.map e5 [0, 3, 4] = [.slice aS nS cS, .slice ao no co, .int .i64 (k : Int)] ∧ Hp w Non [Res.own 29 2 (.slice ao no co) no (List.flatMap GTag.cells xs)] w6) (l.length - (0)) ⟨0, [], none, 0, 0, rfl, ⟨by omega, rfl⟩, by kernel_rfl, hp4⟩ ?_
  rintro _ e5 w6 ⟨k, xs, ao, no, co, rfl, hI8, hE9, hp7⟩
  obtain ⟨b10, rfl⟩ := toMk hE9
  clear hE9
  obtain ⟨pa, pb⟩ := hI8
  have pe := own_flat (sz := 2) (fun _ => rfl) (by decide) hp7.get0
  have pl : xs.length = k := by rw [pb, List.length_take]; omega
  refine WP.seq ?_
  refine WP.seq ?_
  refine WP.pure {} [] [0, 3, 4, 8] [.slice aS nS cS, .slice ao no co, .int .i64 (k : Int), .bool (decide ((k : Int) < ((nS : Nat) : Int)))] .nil (by kernel_rfl) (fun b11 => ?_)
  refine thn_n ?_
  refine WP.test (p := (k : Int) < ((nS : Nat) : Int)) rfl Bp.dec (fun h12 => ?_) (fun h12 => ?_)
  · refine WP.skip ?_
    refine thn_n ?_
    refine WP.seq ?_
    refine WP.block ?_
    refine WP.region _ rfl (by kernel_rfl) ?_
    have hy16 : (l)[k]? = some l[k]! := get_bang (by first | (omega) | (simp only [List.length_append, List.length_cons, List.length_nil]; omega) | (simp only [List.length_take, List.length_append, List.length_cons, List.length_nil]; omega))
    refine OPS.batch 5 {} [GTag.val (l[k]!)] [0, 4, 11, 15] [.slice aS nS cS, .int .i64 (k : Int), .slice ao no co, GTag.val (l[k]!)] (.cons (show InB ((k : Int)) (nS) from ⟨by omega, by omega⟩) (.cons ((hs.at hp7).some (by omega)) (.cons (Ld.add0 (Ld.elN (P := Try.prog) (t := 29) (hs.at hp7).rd 2 (fun _ => rfl) hy16 (o := 0) (cs := [.int .i64 (l[k]!.Count), .int .i64 (l[k]!.Client)]) (by kernel_rfl))) .nil))) (by kernel_rfl) (fun b17 => ?_)
    refine OPS.cons (opStep.buildSlice (E := 29) hp7 [.int .i64 (l[k]!.Count), .int .i64 (l[k]!.Client)] (by kernel_rfl) (fun g20 w18 hp19 => ?_))
    refine OPS.cons (opStep.append1 [.int .i64 (l[k]!.Count), .int .i64 (l[k]!.Client)] hp19 16 (by kernel_rfl) rfl rfl rfl (SlR.row (n := 1) hp19.get0 rfl).rd (List.all_eq_true.1 (by kernel_rfl)) (by decide) (by omega) (by omega) (fun a23 c24 w25 hp26 hn27 => ?_))
    rw [(show List.flatMap GTag.cells xs ++ [.int .i64 (l[k]!.Count), .int .i64 (l[k]!.Client)] = List.flatMap GTag.cells (xs ++ [(⟨l[k]!.Count, l[k]!.Client⟩ : GTag)]) from (List.flatMap_append (xs := xs) (ys := [(⟨l[k]!.Count, l[k]!.Client⟩ : GTag)])).symm)] at hp26
    refine OPS.batch 1 {} [] [0, 3, 4] [.slice aS nS cS, .slice a23 (no + 1) c24, .int .i64 (k : Int)] .nil (by kernel_rfl) (fun b28 => ?_)
    refine OPS.nil ?_
    refine blk_n ?_
    refine thn_n ?_
    refine WP.pure {} [] [0, 3, 4] [.slice aS nS cS, .slice a23 (no + 1) c24, .int .i64 ((k : Int) + 1)] (.cons (show Rng .i64 ((k : Int) + 1) from Rng.i64 (by omega)) .nil) (by kernel_rfl) (fun b29 => ?_)
    refine thn_n ?_
    exact ⟨l.length - (k + 1), (by omega), k + 1, xs ++ [(⟨l[k]!.Count, l[k]!.Client⟩ : GTag)], a23, no + 1, c24, rfl, ⟨by omega, by rw [pb, List.take_succ_eq_append_getElem (by omega), getElem!_pos l k (by omega)]⟩, by kernel_rfl, (hp26.sub (.cons _ (.cons_cons _ (.slnil))))⟩
  · refine WP.exit ?_
    refine thn_x ?_
    refine thn_x ?_
    refine blk_hit ?_
    refine thn_n ?_
    refine WP.seq ?_
    refine WP.region _ rfl (by kernel_rfl) ?_
    refine OPS.batch 2 {} [] [0, 18, 19] [.slice aS nS cS, .slice ao no co, .agg #[.int .i64 (-77), .int .i64 0]] .nil (by kernel_rfl) (fun b30 => ?_)
    refine OPS.cons (opStep.buildSlice (E := 29) hp7 [.int .i64 (-77), .int .i64 0] (by kernel_rfl) (fun g33 w31 hp32 => ?_))
    refine OPS.cons (opStep.append1 [.int .i64 (-77), .int .i64 0] hp32 16 (by kernel_rfl) rfl rfl rfl (SlR.row (n := 1) hp32.get0 rfl).rd (List.all_eq_true.1 (by kernel_rfl)) (by decide) (by omega) (by omega) (fun a36 c37 w38 hp39 hn40 => ?_))
    rw [(show List.flatMap GTag.cells xs ++ [.int .i64 (-77), .int .i64 0] = List.flatMap GTag.cells (xs ++ [(⟨(-77), 0⟩ : GTag)]) from (List.flatMap_append (xs := xs) (ys := [(⟨(-77), 0⟩ : GTag)])).symm)] at hp39
    have := own_cap hp39.get1
    refine OPS.batch 4 {} [] [2] [.slice a36 nS c37] (.cons (show (0 : Int) ≤ ((nS : Nat) : Int) ∧ ((nS : Nat) : Int) ≤ ((c37 : Nat) : Int) from ⟨by omega, by omega⟩) .nil) (by kernel_rfl) (fun b41 => ?_)
    refine OPS.nil ?_
    refine thn_n ?_
    refine WP.ret ?_
    refine bodyQ.of _ rfl [.slice a36 nS c37] ⟨rfl, trivial⟩ ?_
    have hk : k = l.length := by omega
    rw [hk, List.take_of_length_le (Nat.le_refl _)] at pb
    subst pb
    obtain rfl : no = nS := by omega
    exact ⟨_, _, rfl, (hp39.sub (.cons _ (.cons_cons _ (.slnil))))⟩

theorem t8_same (l : List GTag) (a1 a2 : Option Addr) (n c1 c2 : Nat) (w : World) (hn : n = l.length) (hb : l.length ≤ 8796093022207) (h1 : SlR w a1 n (l.flatMap GTag.cells)) (h2 : SlR w a2 n (l.flatMap GTag.cells)) :
    Calls Try.prog 23 #[.slice a1 n c1, .slice a2 n c2] w (fun x w' => x = .returned (.bool true) ∧ Fram Non w w') := by
  refine calls_of Try.func23 rfl 26 rfl (by simp) ?_
  have hp0 := Hp.init w
  have he0 : List.map (env0 [.slice a1 n c1, .slice a2 n c2]) [0, 1] = [.slice a1 n c1, .slice a2 n c2] := by kernel_rfl
  obtain ⟨b0, he0⟩ := toMk he0
  rw [he0]
  clear he0
  refine WP.seq ?_
  refine WP.pure {} [] [0, 1] [.slice a1 n c1, .slice a2 n c2] .nil (by kernel_rfl) (fun b1 => ?_)
  refine thn_n ?_
  refine WP.seq ?_
  refine WP.seq ?_
  refine WP.pure {} [] [0, 1, 10] [.slice a1 n c1, .slice a2 n c2, .bool (decide (¬ (((n : Nat) : Int) = ((n : Nat) : Int))))] .nil (by kernel_rfl) (fun b2 => ?_)
  refine thn_n ?_
  refine WP.test (p := ¬ (((n : Nat) : Int) = ((n : Nat) : Int))) rfl Bp.dec (fun h3 => ?_) (fun h3 => ?_)
  · refine WP.seq ?_
    refine WP.pure {} [] [4] [.bool false] .nil (by kernel_rfl) (fun b4 => ?_)
    refine thn_n ?_
    refine WP.ret ?_
    refine thn_r ?_
    refine bodyQ.of _ rfl [.bool false] ⟨rfl, trivial⟩ ?_
    exfalso
    first | omega | (exact h3 ⟨rfl, rfl⟩)
  · replace h3 := Classical.not_not.1 h3
    refine WP.skip ?_
    refine thn_n ?_
    refine WP.seq ?_
    refine WP.seq ?_
    refine WP.pure {} [] [0, 1, 5] [.slice a1 n c1, .slice a2 n c2, .int .i64 0] .nil (by kernel_rfl) (fun b5 => ?_)
    refine thn_n ?_
    refine WP.block ?_
    refine WP.loop (fun mz_ e6 w7 => ∃ (k : Nat), mz_ = l.length - k ∧ (k ≤ l.length) ∧ List.map e6 [0, 1, 5] = [.slice a1 n c1, .slice a2 n c2, .int .i64 (k : Int)] ∧ Hp w Non [] w7) (l.length - (0)) ⟨0, rfl, (by omega), by kernel_rfl, hp0⟩ ?_
    rintro _ e6 w7 ⟨k, rfl, hI9, hE10, hp8⟩
    obtain ⟨b11, rfl⟩ := toMk hE10
    clear hE10
    obtain pa := hI9
    refine WP.seq ?_
    refine WP.seq ?_
    refine WP.pure {} [] [0, 1, 5, 14] [.slice a1 n c1, .slice a2 n c2, .int .i64 (k : Int), .bool (decide ((k : Int) < ((n : Nat) : Int)))] .nil (by kernel_rfl) (fun b12 => ?_)
    refine thn_n ?_
    refine WP.test (p := (k : Int) < ((n : Nat) : Int)) rfl Bp.dec (fun h13 => ?_) (fun h13 => ?_)
    · refine WP.skip ?_
      refine thn_n ?_
      refine WP.seq ?_
      refine WP.block ?_
      refine WP.seq ?_
      have hp16 := hp8.drew
      refine WP.quiet (fun w14 => Hp w Non [] w14) (by kernel_rfl) hp16 ?_
      have hnehp16 : ∃ wz_, (fun w14 => Hp w Non [] w14) wz_ := ⟨_, hp16⟩
      have hy20 : (l)[k]? = some l[k]! := get_bang (by first | (omega) | (simp only [List.length_append, List.length_cons, List.length_nil]; omega) | (simp only [List.length_take, List.length_append, List.length_cons, List.length_nil]; omega))
      refine QOPS.batch 9 {} [GTag.val (l[k]!), GTag.val (l[k]!)] [0, 1, 5, 25] [.slice a1 n c1, .slice a2 n c2, .int .i64 (k : Int), .bool (!((decide ((l[k]!.Count) = (l[k]!.Count))) && ((decide ((l[k]!.Client) = (l[k]!.Client))) && true)))] hnehp16 (fun w17 hp18 => QB.mk (.cons (show InB ((k : Int)) (n) from ⟨by omega, by omega⟩) (.cons ((h1.at hp18).some (by omega)) (.cons (Ld.add0 (Ld.elN (P := Try.prog) (t := 29) (h1.at hp18).rd 2 (fun _ => rfl) hy20 (o := 0) (cs := [.int .i64 (l[k]!.Count), .int .i64 (l[k]!.Client)]) (by kernel_rfl))) (.cons (show InB ((k : Int)) (n) from ⟨by omega, by omega⟩) (.cons ((h2.at hp18).some (by omega)) (.cons (Ld.add0 (Ld.elN (P := Try.prog) (t := 29) (h2.at hp18).rd 2 (fun _ => rfl) hy20 (o := 0) (cs := [.int .i64 (l[k]!.Count), .int .i64 (l[k]!.Client)]) (by kernel_rfl))) .nil)))))) (by kernel_rfl)) (fun b21 => ?_)
      refine QOPS.nil (fun w22 hp23 => ?_)
      refine thn_n ?_
      refine WP.test (p := ¬ (((l[k]!.Count) = (l[k]!.Count)) ∧ ((l[k]!.Client) = (l[k]!.Client)))) rfl (Bp.not (Bp.band Bp.dec (Bp.band1 Bp.dec))) (fun h24 => ?_) (fun h24 => ?_)
      · refine WP.seq ?_
        refine WP.pure {} [] [4] [.bool false] .nil (by kernel_rfl) (fun b25 => ?_)
        refine thn_n ?_
        refine WP.ret ?_
        refine blk_r ?_
        refine thn_r ?_
        refine thn_r ?_
        refine blk_r ?_
        refine thn_r ?_
        refine bodyQ.of _ rfl [.bool false] ⟨rfl, trivial⟩ ?_
        exfalso
        first | omega | (exact h24 ⟨rfl, rfl⟩)
      · replace h24 := Classical.not_not.1 h24
        refine WP.skip ?_
        refine blk_n ?_
        refine thn_n ?_
        refine WP.pure {} [] [0, 1, 5] [.slice a1 n c1, .slice a2 n c2, .int .i64 ((k : Int) + 1)] (.cons (show Rng .i64 ((k : Int) + 1) from Rng.i64 (by omega)) .nil) (by kernel_rfl) (fun b26 => ?_)
        refine thn_n ?_
        exact ⟨l.length - (k + 1), (by omega), k + 1, rfl, (by omega), by kernel_rfl, hp23⟩
    · refine WP.exit ?_
      refine thn_x ?_
      refine thn_x ?_
      refine blk_hit ?_
      refine thn_n ?_
      refine WP.seq ?_
      refine WP.pure {} [] [4] [.bool true] .nil (by kernel_rfl) (fun b27 => ?_)
      refine thn_n ?_
      refine WP.ret ?_
      refine bodyQ.of _ rfl [.bool true] ⟨rfl, trivial⟩ ?_
      exact ⟨rfl, hp8.fr⟩

theorem t8_kept (l : List GTag) (a1 a2 : Option Addr) (n c1 c2 : Nat) (w : World) (hn : n = l.length) (hb : l.length ≤ 8796093022207) (hc : n + 1 ≤ c1) (h1 : SlR w a1 (n + 1) (List.flatMap GTag.cells (l ++ [(⟨-77, 0⟩ : GTag)]))) (h2 : SlR w a2 n (l.flatMap GTag.cells)) :
    Calls Try.prog 13 #[.slice a1 n c1, .slice a2 n c2] w (fun x w' => x = .returned (.bool true) ∧ Fram Non w w') := by
  have h0 := slr_given hn h1
  have h9 : SlR w a1 ((((n : Nat) : Int) + 1 : Int).toNat) (List.flatMap GTag.cells (l ++ [(⟨-77, 0⟩ : GTag)])) := by rw [show ((((n : Nat) : Int) + 1 : Int).toNat) = n + 1 from by omega]; exact h1
  refine calls_of Try.func13 rfl 21 rfl (by simp) ?_
  have hp0 := Hp.init w
  have he0 : List.map (env0 [.slice a1 n c1, .slice a2 n c2]) [0, 1] = [.slice a1 n c1, .slice a2 n c2] := by kernel_rfl
  obtain ⟨b0, he0⟩ := toMk he0
  rw [he0]
  clear he0
  refine WP.seq ?_
  refine WP.pure {} [] [0, 1] [.slice a1 n c1, .slice a2 n c2] .nil (by kernel_rfl) (fun b1 => ?_)
  refine thn_n ?_
  refine WP.seq ?_
  refine WP.region _ rfl (by kernel_rfl) ?_
  refine OPS.batch 2 {} [] [0, 1, 5, 6] [.slice a1 n c1, .slice a2 n c2, .slice a1 n c1, .slice a2 n c2] .nil (by kernel_rfl) (fun b2 => ?_)
  refine OPS.cons (opStep.call (some 7) [.slice a1 n c1, .slice a2 n c2] (by kernel_rfl) (t8_same l _ _ _ _ _ _ hn hb (h0.at hp0) (h2.at hp0)) ?_)
  rintro _ w5 ⟨rfl, hf6⟩
  refine ⟨_, rfl, ?_⟩
  have hp7 := hp0.step hf6
  have hy9 : (l ++ [(⟨-77, 0⟩ : GTag)])[n]? = some (l ++ [(⟨-77, 0⟩ : GTag)])[n]! := get_bang (by first | (omega) | (simp only [List.length_append, List.length_cons, List.length_nil]; omega) | (simp only [List.length_take, List.length_append, List.length_cons, List.length_nil]; omega))
  refine OPS.batch 14 { wraps := [20] } [.int .i64 ((l ++ [(⟨-77, 0⟩ : GTag)])[n]!.Count)] [4] [.bool (decide (((l ++ [(⟨-77, 0⟩ : GTag)])[n]!.Count) = (-77)))] (.cons (show Rng .i64 (((n : Nat) : Int) + 1) from Rng.i64 (by omega)) (.cons (show (0 : Int) ≤ (((n : Nat) : Int) + 1) ∧ (((n : Nat) : Int) + 1) ≤ ((c1 : Nat) : Int) from ⟨by omega, by omega⟩) (.cons (show InB (((n : Nat) : Int)) ((((n : Nat) : Int) + 1 : Int).toNat) from ⟨by omega, by omega⟩) (.cons ((h9.at hp7).some (by omega)) (.cons (Ld.add0 (Ld.el1 (P := Try.prog) (t := 2) (h9.at hp7).rd 2 (fun _ => rfl) hy9 (o := 0) (v := .int .i64 ((l ++ [(⟨-77, 0⟩ : GTag)])[n]!.Count)) (by kernel_rfl))) .nil))))) (by kernel_rfl) (fun b10 => ?_)
  refine OPS.nil ?_
  refine thn_n ?_
  refine WP.ret ?_
  refine bodyQ.of _ rfl [.bool (decide (((l ++ [(⟨-77, 0⟩ : GTag)])[n]!.Count) = (-77)))] ⟨rfl, trivial⟩ ?_
  exact ⟨congrArg (fun b => Ending.returned (.bool b)) (Bp.tt Bp.dec (by rw [hn]; simp [List.getElem!_eq_getElem?_getD])), hp7.fr⟩

end Go.Proofs.Ytoeholipggkcaaa.K
